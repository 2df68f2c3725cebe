import Derived.Test.YtcekmnclmldmmaaGreatDoorN24
set_option linter.unusedVariables false
set_option linter.unusedSimpArgs false
namespace Go.Proofs.YtcekmnclmldmmaaGreatDoor.Q
open Go.RowKit W1 W2 W3
attribute [local go_sem] max2_int min2_int max_two min_two max_three min_three max_four min_four
attribute [local go_sem high] bl_leq bl_gtr bl_geq
set_option maxHeartbeats 8000000
set_option maxRecDepth 100000
def laws_eqItemS.l0:Nat→List (S94)→List (S94)→Int→Option (Bool)
 |0,_,_,_=>none
 |k+1,x0,x1,x5=>if x5<(x0.length:Int) then(if 0≤x5 then(if x5<(x1.length:Int) then((laws_eqItem.f k ((qL x0 x5).f0) ((qL x0 x5).f1) ((qL x0 x5).f2) ((qL x0 x5).f3) ((qL x0 x5).f4) ((qL x1 x5).f0) ((qL x1 x5).f1) ((qL x1 x5).f2) ((qL x1 x5).f3) ((qL x1 x5).f4)).bind fun t249=>(if t249=true then(laws_eqItemS.l0 k x0 x1 (wrap64 (x5+1))) else(some false))) else(none)) else(none)) else(some true)
def laws_eqItemS.f(k:Nat)(l0:List (S94))(l1:List (S94)):Option (Bool):=if(l0.length:Int)=(l1.length:Int) then(laws_eqItemS.l0 k l0 l1 0) else(some false)
theorem laws_eqItemS.calls(k:Nat)(A0:Option Addr)(c0:Nat)(l0:List (S94))(A1:Option Addr)(c1:Nat)(l1:List (S94))(r:Bool)(w:World)(hr0:Kd.C k94 w A0 l0.length l0)(hc0:l0.length≤c0)(hr1:Kd.C k94 w A1 l1.length l1)(hc1:l1.length≤c1)(h:laws_eqItemS.f k l0 l1=some r):
 Calls Tryz.prog 48 #[.slice A0 l0.length c0,.slice A1 l1.length c1] w fun e w'=>e= .returned (.bool r)∧Below w.heap.size w w':=by
 have hu94:=Tryz.underlying94
 have HR0:=zz hr0
 have HC0:=zz hc0
 clear hr0 hc0
 have HR1:=zz hr1
 have HC1:=zz hc1
 clear hr1 hc1
 have HB:=zz (Below.refl w.heap.size w)
 unfold laws_eqItemS.f at h
 have H:=h
 clear h
 replace HB:=HB.out
 have HW:=zz (Below.refl w.heap.size w)
 go_enter Tryz.func48,Tryz.ntmps48
 by_cases c3:(l0.length:Int)=(l1.length:Int)
 case neg=>
  rw[if_neg c3] at H
  obtain⟨c3b0,c3b1⟩:=zw c3
  have c3b2:(l0.length==l1.length)=false:=by first|simpa using c3|(simp at c3⊢;omega)
  obtain rfl:=zi H
  go_wp2_with(fail)
  go_ret
  exact⟨ze,zv HW.out HB⟩
 rw[if_pos c3] at H
 obtain⟨c3b0,c3b1⟩:=zq c3
 have c3b2:(l0.length==l1.length)=true:=by first|simpa using c3|(simp at c3⊢;omega)
 clear c3
 go_wp2_with(fail)
 go_loopg[5] k (fun kq v5 w'=>∃(x5_kl4:Int),v5= .int .i64 x5_kl4∧qB (laws_eqItemS.l0 kq l0 l1 x5_kl4=some r)∧qB (kq≤k)∧qB (Below w.heap.size w w'))
 case atStart=>exact⟨(0),zr,⟨H⟩,⟨Nat.le_refl _⟩,⟨HB⟩⟩
 case round=>
  clear H HB
  obtain⟨x5_kl4,rfl,H,HKkl4,HB⟩:=hrel
  replace HB:=HB.out
  replace H:=H.out
  have HLkl4:=zz (Below.refl w.heap.size w)
  cases gk with
  |zero=>exact absurd H (by simp[laws_eqItemS.l0])
  |succ kl4=>
   simp only[laws_eqItemS.l0] at H
   by_cases c5:x5_kl4<(l0.length:Int)
   case neg=>
    rw[if_neg c5] at H
    have c5b0:=z0 c5
    clear c5
    obtain rfl:=zi H
    go_wp2_with(fail)
    go_ret
    exact⟨ze,zv HW.out HB⟩
   rw[if_pos c5] at H
   have c5b0:=z1 c5
   clear c5
   go_wp2_with(fail)
   try simp only[Act.put,List.setIfInBounds_toArray,List.set_cons_zero,List.set_cons_succ]
   refine vB (C:=fun W_=>Below w.heap.size w W_) zk zk (qQ HB) ?_
   by_cases c6:0≤x5_kl4
   case neg=>exact zno H c6
   rw[if_pos c6] at H
   have c6b0:=z1 c6
   clear c6
   have p247:0≤(x5_kl4:Int):=z2
   have q247:(x5_kl4:Int)<(l0.length:Int):=z2
   obtain⟨ad247,A247_2,c247_2,A247_4,c247_4,e247,hx247_0,hx247_1,hx247_2,hx247_3,hx247_4,hl247_2,hC247_2,hl247_4,hC247_4⟩:=at_T94 HR0.out x5_kl4 p247 q247
   cases e247
   replace hx247_0:=qR hx247_0
   replace hx247_1:=qR hx247_1
   replace hx247_2:=qR hx247_2
   replace hx247_3:=qR hx247_3
   replace hx247_4:=qR hx247_4
   have HR247_2:=zz hC247_2
   have HC247_2:=zz hl247_2
   clear hC247_2 hl247_2
   have HR247_4:=zz hC247_4
   have HC247_4:=zz hl247_4
   clear hC247_4 hl247_4
   replace p247:=eq_true p247
   replace q247:=eq_true q247
   by_cases c7:x5_kl4<(l1.length:Int)
   case neg=>exact zno H c7
   rw[if_pos c7] at H
   have c7b0:=z1 c7
   clear c7
   have p248:0≤(x5_kl4:Int):=z2
   have q248:(x5_kl4:Int)<(l1.length:Int):=z2
   obtain⟨ad248,A248_2,c248_2,A248_4,c248_4,e248,hx248_0,hx248_1,hx248_2,hx248_3,hx248_4,hl248_2,hC248_2,hl248_4,hC248_4⟩:=at_T94 HR1.out x5_kl4 p248 q248
   cases e248
   replace hx248_0:=qR hx248_0
   replace hx248_1:=qR hx248_1
   replace hx248_2:=qR hx248_2
   replace hx248_3:=qR hx248_3
   replace hx248_4:=qR hx248_4
   have HR248_2:=zz hC248_2
   have HC248_2:=zz hl248_2
   clear hC248_2 hl248_2
   have HR248_4:=zz hC248_4
   have HC248_4:=zz hl248_4
   clear hC248_4 hl248_4
   replace p248:=eq_true p248
   replace q248:=eq_true q248
   replace H:=zf H
   obtain⟨t249,A8,H⟩:=H
   try dsimp only at H
   replace A8:=zz A8
   by_cases c9:t249=true
   ·subst c9
    rw[if_pos rfl] at H
    repeat(first|go_big_quiet_skip|(go_big_quiet_want;go_big_quiet_op;first|go_big_quiet_on|(with_reducible apply Exists.intro;refine⟨fun W hW=>?_,?_⟩;(first|with_reducible rfl|(go_at_call 96;exact callB (laws_eqItem.calls kl4 _ _ _ _ _ _ _ _ _ _ _ _ _ _ _ _ _ _ _ _ (Kd.qC HR247_2.out hW) HC247_2.out (Kd.qC HR247_4.out hW) HC247_4.out (Kd.qC HR248_2.out hW) HC248_2.out (Kd.qC HR248_4.out hW) HC248_4.out A8.out) hW)|(go_simp;with_reducible rfl));go_big_quiet_on)))
    clear HB
    refine zW fun w10 (HB:Below w.heap.size w w10)=>?_
    go_wp2_with(fail)
    go_roundg kl4
    case measure=>have:=HKkl4.out;omega
    case rel=>exact⟨(wrap64 (x5_kl4+1)),zr,⟨H⟩,⟨by have:=HKkl4.out;omega⟩,⟨zv HLkl4.out HB⟩⟩
   replace c9:=Bool.eq_false_iff.mpr c9
   subst c9
   rw[if_neg (by decide)] at H
   obtain rfl:=zi H
   repeat(first|go_big_quiet_skip|(go_big_quiet_want;go_big_quiet_op;first|go_big_quiet_on|(with_reducible apply Exists.intro;refine⟨fun W hW=>?_,?_⟩;(first|with_reducible rfl|(go_at_call 96;exact callB (laws_eqItem.calls kl4 _ _ _ _ _ _ _ _ _ _ _ _ _ _ _ _ _ _ _ _ (Kd.qC HR247_2.out hW) HC247_2.out (Kd.qC HR247_4.out hW) HC247_4.out (Kd.qC HR248_2.out hW) HC248_2.out (Kd.qC HR248_4.out hW) HC248_4.out A8.out) hW)|(go_simp;with_reducible rfl));go_big_quiet_on)))
   clear HB
   refine zW fun w11 (HB:Below w.heap.size w w11)=>?_
   go_wp2_with(fail)
   go_ret
   exact⟨ze,zv HW.out HB⟩
def laws_eqGen.f(a0_0:Int)(a0_1:ByteArray)(a1_0:Int)(a1_1:ByteArray):Option (Bool):=if a0_0=a1_0 then(if a0_1.toList=a1_1.toList then(some true) else(some false)) else(some false)
theorem laws_eqGen.calls(a0_0:Int)(a0_1:ByteArray)(a1_0:Int)(a1_1:ByteArray)(r:Bool)(w:World)(h:laws_eqGen.f a0_0 a0_1 a1_0 a1_1=some r):
 Calls Tryz.prog 154 #[.agg #[.int .i64 a0_0,.string a0_1],.agg #[.int .i64 a1_0,.string a1_1]] w fun e w'=>e= .returned (.bool r)∧Below w.heap.size w w':=by
 have hu70:=Tryz.underlying70
 have HB:=zz (Below.refl w.heap.size w)
 unfold laws_eqGen.f at h
 have H:=h
 clear h
 replace HB:=HB.out
 have HW:=zz (Below.refl w.heap.size w)
 go_enter Tryz.func154,Tryz.ntmps154
 by_cases c3:a0_0=a1_0
 case neg=>
  rw[if_neg c3] at H
  obtain⟨c3b0,c3b1⟩:=zw c3
  obtain rfl:=zi H
  go_wp2_with(first|(refine zN 2 ?_;(try(refine z4 ?_;dsimp only));refine zX 2 70 #[.int .i64 a0_0,.string a0_1] ?_;intro gb250 hg w9 hbox hb;have hst:=zv HB hb;clear hg hb HB;replace HW:=zz (zv HW.out hst);obtain⟨hbx250_0,hbx250_1⟩:=zx2 hbox;have HB:=Below.refl w9.heap.size w9;clear hbox hst)|(refine zN 3 ?_;(try(refine z4 ?_;dsimp only));refine zX 3 70 #[.int .i64 a1_0,.string a1_1] ?_;intro gb251 hg w10 hbox hb;have hst:=zv HB hb;clear hg hb HB;replace HW:=zz (zv HW.out hst);replace hbx250_0:=qH hbx250_0 hst;replace hbx250_1:=qH hbx250_1 hst;obtain⟨hbx251_0,hbx251_1⟩:=zx2 hbox;have HB:=Below.refl w10.heap.size w10;clear hbox hst))
  go_ret
  exact⟨ze,zv HW.out HB⟩
 rw[if_pos c3] at H
 obtain⟨c3b0,c3b1⟩:=zq c3
 clear c3
 by_cases c4:a0_1.toList=a1_1.toList
 case neg=>
  rw[if_neg c4] at H
  obtain⟨c4b0,c4b1⟩:=zw c4
  obtain rfl:=zi H
  go_wp2_with(first|(refine zN 2 ?_;(try(refine z4 ?_;dsimp only));refine zX 2 70 #[.int .i64 a0_0,.string a0_1] ?_;intro gb250 hg w7 hbox hb;have hst:=zv HB hb;clear hg hb HB;replace HW:=zz (zv HW.out hst);obtain⟨hbx250_0,hbx250_1⟩:=zx2 hbox;have HB:=Below.refl w7.heap.size w7;clear hbox hst)|(refine zN 3 ?_;(try(refine z4 ?_;dsimp only));refine zX 3 70 #[.int .i64 a1_0,.string a1_1] ?_;intro gb251 hg w8 hbox hb;have hst:=zv HB hb;clear hg hb HB;replace HW:=zz (zv HW.out hst);replace hbx250_0:=qH hbx250_0 hst;replace hbx250_1:=qH hbx250_1 hst;obtain⟨hbx251_0,hbx251_1⟩:=zx2 hbox;have HB:=Below.refl w8.heap.size w8;clear hbox hst))
  go_ret
  exact⟨ze,zv HW.out HB⟩
 rw[if_pos c4] at H
 obtain⟨c4b0,c4b1⟩:=zq c4
 clear c4
 obtain rfl:=zi H
 go_wp2_with(first|(refine zN 2 ?_;(try(refine z4 ?_;dsimp only));refine zX 2 70 #[.int .i64 a0_0,.string a0_1] ?_;intro gb250 hg w5 hbox hb;have hst:=zv HB hb;clear hg hb HB;replace HW:=zz (zv HW.out hst);obtain⟨hbx250_0,hbx250_1⟩:=zx2 hbox;have HB:=Below.refl w5.heap.size w5;clear hbox hst)|(refine zN 3 ?_;(try(refine z4 ?_;dsimp only));refine zX 3 70 #[.int .i64 a1_0,.string a1_1] ?_;intro gb251 hg w6 hbox hb;have hst:=zv HB hb;clear hg hb HB;replace HW:=zz (zv HW.out hst);replace hbx250_0:=qH hbx250_0 hst;replace hbx250_1:=qH hbx250_1 hst;obtain⟨hbx251_0,hbx251_1⟩:=zx2 hbox;have HB:=Below.refl w6.heap.size w6;clear hbox hst))
 go_ret
 exact⟨ze,zv HW.out HB⟩
def laws_eqGenS.l0:Nat→List (S70)→List (S70)→Int→Option (Bool)
 |0,_,_,_=>none
 |k+1,x0,x1,x5=>if x5<(x0.length:Int) then(if 0≤x5 then(if x5<(x1.length:Int) then((laws_eqGen.f ((qN x0 x5).f0) ((qN x0 x5).f1) ((qN x1 x5).f0) ((qN x1 x5).f1)).bind fun t254=>(if t254=true then(laws_eqGenS.l0 k x0 x1 (wrap64 (x5+1))) else(some false))) else(none)) else(none)) else(some true)
def laws_eqGenS.f(k:Nat)(l0:List (S70))(l1:List (S70)):Option (Bool):=if(l0.length:Int)=(l1.length:Int) then(laws_eqGenS.l0 k l0 l1 0) else(some false)
theorem laws_eqGenS.calls(k:Nat)(A0:Option Addr)(c0:Nat)(l0:List (S70))(A1:Option Addr)(c1:Nat)(l1:List (S70))(r:Bool)(w:World)(hr0:Kd.C k70 w A0 l0.length l0)(hc0:l0.length≤c0)(hr1:Kd.C k70 w A1 l1.length l1)(hc1:l1.length≤c1)(h:laws_eqGenS.f k l0 l1=some r):
 Calls Tryz.prog 130 #[.slice A0 l0.length c0,.slice A1 l1.length c1] w fun e w'=>e= .returned (.bool r)∧Below w.heap.size w w':=by
 have hu70:=Tryz.underlying70
 have HR0:=zz hr0
 have HC0:=zz hc0
 clear hr0 hc0
 have HR1:=zz hr1
 have HC1:=zz hc1
 clear hr1 hc1
 have HB:=zz (Below.refl w.heap.size w)
 unfold laws_eqGenS.f at h
 have H:=h
 clear h
 replace HB:=HB.out
 have HW:=zz (Below.refl w.heap.size w)
 go_enter Tryz.func130,Tryz.ntmps130
 by_cases c3:(l0.length:Int)=(l1.length:Int)
 case neg=>
  rw[if_neg c3] at H
  obtain⟨c3b0,c3b1⟩:=zw c3
  have c3b2:(l0.length==l1.length)=false:=by first|simpa using c3|(simp at c3⊢;omega)
  obtain rfl:=zi H
  go_wp2_with(fail)
  go_ret
  exact⟨ze,zv HW.out HB⟩
 rw[if_pos c3] at H
 obtain⟨c3b0,c3b1⟩:=zq c3
 have c3b2:(l0.length==l1.length)=true:=by first|simpa using c3|(simp at c3⊢;omega)
 clear c3
 go_wp2_with(fail)
 go_loopg[5] k (fun kq v5 w'=>∃(x5_kl4:Int),v5= .int .i64 x5_kl4∧qB (laws_eqGenS.l0 kq l0 l1 x5_kl4=some r)∧qB (kq≤k)∧qB (Below w.heap.size w w'))
 case atStart=>exact⟨(0),zr,⟨H⟩,⟨Nat.le_refl _⟩,⟨HB⟩⟩
 case round=>
  clear H HB
  obtain⟨x5_kl4,rfl,H,HKkl4,HB⟩:=hrel
  replace HB:=HB.out
  replace H:=H.out
  have HLkl4:=zz (Below.refl w.heap.size w)
  cases gk with
  |zero=>exact absurd H (by simp[laws_eqGenS.l0])
  |succ kl4=>
   simp only[laws_eqGenS.l0] at H
   by_cases c5:x5_kl4<(l0.length:Int)
   case neg=>
    rw[if_neg c5] at H
    have c5b0:=z0 c5
    clear c5
    obtain rfl:=zi H
    go_wp2_with(fail)
    go_ret
    exact⟨ze,zv HW.out HB⟩
   rw[if_pos c5] at H
   have c5b0:=z1 c5
   clear c5
   go_wp2_with(fail)
   try simp only[Act.put,List.setIfInBounds_toArray,List.set_cons_zero,List.set_cons_succ]
   refine vB (C:=fun W_=>Below w.heap.size w W_) zk zk (qQ HB) ?_
   by_cases c6:0≤x5_kl4
   case neg=>exact zno H c6
   rw[if_pos c6] at H
   have c6b0:=z1 c6
   clear c6
   have p252:0≤(x5_kl4:Int):=z2
   have q252:(x5_kl4:Int)<(l0.length:Int):=z2
   obtain⟨ad252,e252,hx252_0,hx252_1⟩:=at_T70 HR0.out x5_kl4 p252 q252
   cases e252
   replace hx252_0:=qR hx252_0
   replace hx252_1:=qR hx252_1
   replace p252:=eq_true p252
   replace q252:=eq_true q252
   by_cases c7:x5_kl4<(l1.length:Int)
   case neg=>exact zno H c7
   rw[if_pos c7] at H
   have c7b0:=z1 c7
   clear c7
   have p253:0≤(x5_kl4:Int):=z2
   have q253:(x5_kl4:Int)<(l1.length:Int):=z2
   obtain⟨ad253,e253,hx253_0,hx253_1⟩:=at_T70 HR1.out x5_kl4 p253 q253
   cases e253
   replace hx253_0:=qR hx253_0
   replace hx253_1:=qR hx253_1
   replace p253:=eq_true p253
   replace q253:=eq_true q253
   replace H:=zf H
   obtain⟨t254,A8,H⟩:=H
   try dsimp only at H
   replace A8:=zz A8
   by_cases c9:t254=true
   ·subst c9
    rw[if_pos rfl] at H
    repeat(first|go_big_quiet_skip|(go_big_quiet_want;go_big_quiet_op;first|go_big_quiet_on|(with_reducible apply Exists.intro;refine⟨fun W hW=>?_,?_⟩;(first|with_reducible rfl|(go_at_call 154;exact callB (laws_eqGen.calls _ _ _ _ _ _ A8.out) hW)|(go_simp;with_reducible rfl));go_big_quiet_on)))
    clear HB
    refine zW fun w10 (HB:Below w.heap.size w w10)=>?_
    go_wp2_with(fail)
    go_roundg kl4
    case measure=>have:=HKkl4.out;omega
    case rel=>exact⟨(wrap64 (x5_kl4+1)),zr,⟨H⟩,⟨by have:=HKkl4.out;omega⟩,⟨zv HLkl4.out HB⟩⟩
   replace c9:=Bool.eq_false_iff.mpr c9
   subst c9
   rw[if_neg (by decide)] at H
   obtain rfl:=zi H
   repeat(first|go_big_quiet_skip|(go_big_quiet_want;go_big_quiet_op;first|go_big_quiet_on|(with_reducible apply Exists.intro;refine⟨fun W hW=>?_,?_⟩;(first|with_reducible rfl|(go_at_call 154;exact callB (laws_eqGen.calls _ _ _ _ _ _ A8.out) hW)|(go_simp;with_reducible rfl));go_big_quiet_on)))
   clear HB
   refine zW fun w11 (HB:Below w.heap.size w w11)=>?_
   go_wp2_with(fail)
   go_ret
   exact⟨ze,zv HW.out HB⟩
def laws_eqProfile.f(k:Nat)(a0_0:ByteArray)(a0_1:Int)(l0_2:List (S70))(a1_0:ByteArray)(a1_1:Int)(l1_2:List (S70)):Option (Bool):=if a0_0.toList=a1_0.toList then(if a0_1=a1_1 then((laws_eqGenS.f k l0_2 l1_2).bind fun t257=>(if t257=true then(some true) else(some false))) else(some false)) else(some false)
theorem laws_eqProfile.calls(k:Nat)(a0_0:ByteArray)(a0_1:Int)(A0_2:Option Addr)(c0_2:Nat)(l0_2:List (S70))(a1_0:ByteArray)(a1_1:Int)(A1_2:Option Addr)(c1_2:Nat)(l1_2:List (S70))(r:Bool)(w:World)(hr0_2:Kd.C k70 w A0_2 l0_2.length l0_2)(hc0_2:l0_2.length≤c0_2)(hr1_2:Kd.C k70 w A1_2 l1_2.length l1_2)(hc1_2:l1_2.length≤c1_2)(h:laws_eqProfile.f k a0_0 a0_1 l0_2 a1_0 a1_1 l1_2=some r):
 Calls Tryz.prog 97 #[.agg #[.string a0_0,.int .i64 a0_1,.slice A0_2 l0_2.length c0_2],.agg #[.string a1_0,.int .i64 a1_1,.slice A1_2 l1_2.length c1_2]] w fun e w'=>e= .returned (.bool r)∧Below w.heap.size w w':=by
 have hu67:=Tryz.underlying67
 have HR0_2:=zz hr0_2
 have HC0_2:=zz hc0_2
 clear hr0_2 hc0_2
 have HR1_2:=zz hr1_2
 have HC1_2:=zz hc1_2
 clear hr1_2 hc1_2
 have HB:=zz (Below.refl w.heap.size w)
 unfold laws_eqProfile.f at h
 have H:=h
 clear h
 replace HB:=HB.out
 have HW:=zz (Below.refl w.heap.size w)
 go_enter Tryz.func97,Tryz.ntmps97
 by_cases c3:a0_0.toList=a1_0.toList
 case neg=>
  rw[if_neg c3] at H
  obtain⟨c3b0,c3b1⟩:=zw c3
  obtain rfl:=zi H
  go_wp2_with(first|(refine zN 2 ?_;(try(refine z4 ?_;dsimp only));refine zX 2 67 #[.string a0_0,.int .i64 a0_1,.slice A0_2 l0_2.length c0_2] ?_;intro gb255 hg w17 hbox hb;have hst:=zv HB hb;clear hg hb HB;replace HW:=zz (zv HW.out hst);replace HR0_2:=zz (Kd.qC HR0_2.out hst);replace HR1_2:=zz (Kd.qC HR1_2.out hst);obtain⟨hbx255_0,hbx255_1,hbx255_2⟩:=zx3 hbox;have HB:=Below.refl w17.heap.size w17;clear hbox hst)|(refine zN 3 ?_;(try(refine z4 ?_;dsimp only));refine zX 3 67 #[.string a1_0,.int .i64 a1_1,.slice A1_2 l1_2.length c1_2] ?_;intro gb256 hg w18 hbox hb;have hst:=zv HB hb;clear hg hb HB;replace HW:=zz (zv HW.out hst);replace HR0_2:=zz (Kd.qC HR0_2.out hst);replace HR1_2:=zz (Kd.qC HR1_2.out hst);replace hbx255_0:=qH hbx255_0 hst;replace hbx255_1:=qH hbx255_1 hst;replace hbx255_2:=qH hbx255_2 hst;obtain⟨hbx256_0,hbx256_1,hbx256_2⟩:=zx3 hbox;have HB:=Below.refl w18.heap.size w18;clear hbox hst))
  go_ret
  exact⟨ze,zv HW.out HB⟩
 rw[if_pos c3] at H
 obtain⟨c3b0,c3b1⟩:=zq c3
 clear c3
 by_cases c4:a0_1=a1_1
 case neg=>
  rw[if_neg c4] at H
  obtain⟨c4b0,c4b1⟩:=zw c4
  obtain rfl:=zi H
  go_wp2_with(first|(refine zN 2 ?_;(try(refine z4 ?_;dsimp only));refine zX 2 67 #[.string a0_0,.int .i64 a0_1,.slice A0_2 l0_2.length c0_2] ?_;intro gb255 hg w15 hbox hb;have hst:=zv HB hb;clear hg hb HB;replace HW:=zz (zv HW.out hst);replace HR0_2:=zz (Kd.qC HR0_2.out hst);replace HR1_2:=zz (Kd.qC HR1_2.out hst);obtain⟨hbx255_0,hbx255_1,hbx255_2⟩:=zx3 hbox;have HB:=Below.refl w15.heap.size w15;clear hbox hst)|(refine zN 3 ?_;(try(refine z4 ?_;dsimp only));refine zX 3 67 #[.string a1_0,.int .i64 a1_1,.slice A1_2 l1_2.length c1_2] ?_;intro gb256 hg w16 hbox hb;have hst:=zv HB hb;clear hg hb HB;replace HW:=zz (zv HW.out hst);replace HR0_2:=zz (Kd.qC HR0_2.out hst);replace HR1_2:=zz (Kd.qC HR1_2.out hst);replace hbx255_0:=qH hbx255_0 hst;replace hbx255_1:=qH hbx255_1 hst;replace hbx255_2:=qH hbx255_2 hst;obtain⟨hbx256_0,hbx256_1,hbx256_2⟩:=zx3 hbox;have HB:=Below.refl w16.heap.size w16;clear hbox hst))
  go_ret
  exact⟨ze,zv HW.out HB⟩
 rw[if_pos c4] at H
 obtain⟨c4b0,c4b1⟩:=zq c4
 clear c4
 replace H:=zf H
 obtain⟨t257,A5,H⟩:=H
 try dsimp only at H
 replace A5:=zz A5
 go_wp2_with(first|(refine zN 2 ?_;(try(refine z4 ?_;dsimp only));refine zX 2 67 #[.string a0_0,.int .i64 a0_1,.slice A0_2 l0_2.length c0_2] ?_;intro gb255 hg w8 hbox hb;have hst:=zv HB hb;clear hg hb HB;replace HW:=zz (zv HW.out hst);replace HR0_2:=zz (Kd.qC HR0_2.out hst);replace HR1_2:=zz (Kd.qC HR1_2.out hst);obtain⟨hbx255_0,hbx255_1,hbx255_2⟩:=zx3 hbox;have HB:=Below.refl w8.heap.size w8;clear hbox hst)|(refine zN 3 ?_;(try(refine z4 ?_;dsimp only));refine zX 3 67 #[.string a1_0,.int .i64 a1_1,.slice A1_2 l1_2.length c1_2] ?_;intro gb256 hg w9 hbox hb;have hst:=zv HB hb;clear hg hb HB;replace HW:=zz (zv HW.out hst);replace HR0_2:=zz (Kd.qC HR0_2.out hst);replace HR1_2:=zz (Kd.qC HR1_2.out hst);replace hbx255_0:=qH hbx255_0 hst;replace hbx255_1:=qH hbx255_1 hst;replace hbx255_2:=qH hbx255_2 hst;obtain⟨hbx256_0,hbx256_1,hbx256_2⟩:=zx3 hbox;have HB:=Below.refl w9.heap.size w9;clear hbox hst))
 refine(laws_eqGenS.calls k _ _ _ _ _ _ _ _ (Kd.qC HR0_2.out HB) HC0_2.out (Kd.qC HR1_2.out HB) HC1_2.out A5.out).mono ?_
 rintro e w10 ⟨rfl,hb⟩
 replace HB:=zv HB hb
 clear hb
 by_cases c6:t257=true
 ·subst c6
  rw[if_pos rfl] at H
  obtain rfl:=zi H
  go_wp2_with(fail)
  go_ret
  exact⟨ze,zv HW.out HB⟩
 replace c6:=Bool.eq_false_iff.mpr c6
 subst c6
 rw[if_neg (by decide)] at H
 obtain rfl:=zi H
 go_wp2_with(fail)
 go_ret
 exact⟨ze,zv HW.out HB⟩
def laws_eqProfileS.l0:Nat→List (S67)→List (S67)→Int→Option (Bool)
 |0,_,_,_=>none
 |k+1,x0,x1,x5=>if x5<(x0.length:Int) then(if 0≤x5 then(if x5<(x1.length:Int) then((laws_eqProfile.f k ((qD x0 x5).f0) ((qD x0 x5).f1) ((qD x0 x5).f2) ((qD x1 x5).f0) ((qD x1 x5).f1) ((qD x1 x5).f2)).bind fun t260=>(if t260=true then(laws_eqProfileS.l0 k x0 x1 (wrap64 (x5+1))) else(some false))) else(none)) else(none)) else(some true)
def laws_eqProfileS.f(k:Nat)(l0:List (S67))(l1:List (S67)):Option (Bool):=if(l0.length:Int)=(l1.length:Int) then(laws_eqProfileS.l0 k l0 l1 0) else(some false)
theorem laws_eqProfileS.calls(k:Nat)(A0:Option Addr)(c0:Nat)(l0:List (S67))(A1:Option Addr)(c1:Nat)(l1:List (S67))(r:Bool)(w:World)(hr0:Kd.C k67 w A0 l0.length l0)(hc0:l0.length≤c0)(hr1:Kd.C k67 w A1 l1.length l1)(hc1:l1.length≤c1)(h:laws_eqProfileS.f k l0 l1=some r):
 Calls Tryz.prog 49 #[.slice A0 l0.length c0,.slice A1 l1.length c1] w fun e w'=>e= .returned (.bool r)∧Below w.heap.size w w':=by
 have hu67:=Tryz.underlying67
 have HR0:=zz hr0
 have HC0:=zz hc0
 clear hr0 hc0
 have HR1:=zz hr1
 have HC1:=zz hc1
 clear hr1 hc1
 have HB:=zz (Below.refl w.heap.size w)
 unfold laws_eqProfileS.f at h
 have H:=h
 clear h
 replace HB:=HB.out
 have HW:=zz (Below.refl w.heap.size w)
 go_enter Tryz.func49,Tryz.ntmps49
 by_cases c3:(l0.length:Int)=(l1.length:Int)
 case neg=>
  rw[if_neg c3] at H
  obtain⟨c3b0,c3b1⟩:=zw c3
  have c3b2:(l0.length==l1.length)=false:=by first|simpa using c3|(simp at c3⊢;omega)
  obtain rfl:=zi H
  go_wp2_with(fail)
  go_ret
  exact⟨ze,zv HW.out HB⟩
 rw[if_pos c3] at H
 obtain⟨c3b0,c3b1⟩:=zq c3
 have c3b2:(l0.length==l1.length)=true:=by first|simpa using c3|(simp at c3⊢;omega)
 clear c3
 go_wp2_with(fail)
 go_loopg[5] k (fun kq v5 w'=>∃(x5_kl4:Int),v5= .int .i64 x5_kl4∧qB (laws_eqProfileS.l0 kq l0 l1 x5_kl4=some r)∧qB (kq≤k)∧qB (Below w.heap.size w w'))
 case atStart=>exact⟨(0),zr,⟨H⟩,⟨Nat.le_refl _⟩,⟨HB⟩⟩
 case round=>
  clear H HB
  obtain⟨x5_kl4,rfl,H,HKkl4,HB⟩:=hrel
  replace HB:=HB.out
  replace H:=H.out
  have HLkl4:=zz (Below.refl w.heap.size w)
  cases gk with
  |zero=>exact absurd H (by simp[laws_eqProfileS.l0])
  |succ kl4=>
   simp only[laws_eqProfileS.l0] at H
   by_cases c5:x5_kl4<(l0.length:Int)
   case neg=>
    rw[if_neg c5] at H
    have c5b0:=z0 c5
    clear c5
    obtain rfl:=zi H
    go_wp2_with(fail)
    go_ret
    exact⟨ze,zv HW.out HB⟩
   rw[if_pos c5] at H
   have c5b0:=z1 c5
   clear c5
   go_wp2_with(fail)
   try simp only[Act.put,List.setIfInBounds_toArray,List.set_cons_zero,List.set_cons_succ]
   refine vB (C:=fun W_=>Below w.heap.size w W_) zk zk (qQ HB) ?_
   by_cases c6:0≤x5_kl4
   case neg=>exact zno H c6
   rw[if_pos c6] at H
   have c6b0:=z1 c6
   clear c6
   have p258:0≤(x5_kl4:Int):=z2
   have q258:(x5_kl4:Int)<(l0.length:Int):=z2
   obtain⟨ad258,A258_2,c258_2,e258,hx258_0,hx258_1,hx258_2,hl258_2,hC258_2⟩:=at_T67 HR0.out x5_kl4 p258 q258
   cases e258
   replace hx258_0:=qR hx258_0
   replace hx258_1:=qR hx258_1
   replace hx258_2:=qR hx258_2
   have HR258_2:=zz hC258_2
   have HC258_2:=zz hl258_2
   clear hC258_2 hl258_2
   replace p258:=eq_true p258
   replace q258:=eq_true q258
   by_cases c7:x5_kl4<(l1.length:Int)
   case neg=>exact zno H c7
   rw[if_pos c7] at H
   have c7b0:=z1 c7
   clear c7
   have p259:0≤(x5_kl4:Int):=z2
   have q259:(x5_kl4:Int)<(l1.length:Int):=z2
   obtain⟨ad259,A259_2,c259_2,e259,hx259_0,hx259_1,hx259_2,hl259_2,hC259_2⟩:=at_T67 HR1.out x5_kl4 p259 q259
   cases e259
   replace hx259_0:=qR hx259_0
   replace hx259_1:=qR hx259_1
   replace hx259_2:=qR hx259_2
   have HR259_2:=zz hC259_2
   have HC259_2:=zz hl259_2
   clear hC259_2 hl259_2
   replace p259:=eq_true p259
   replace q259:=eq_true q259
   replace H:=zf H
   obtain⟨t260,A8,H⟩:=H
   try dsimp only at H
   replace A8:=zz A8
   by_cases c9:t260=true
   ·subst c9
    rw[if_pos rfl] at H
    repeat(first|go_big_quiet_skip|(go_big_quiet_want;go_big_quiet_op;first|go_big_quiet_on|(with_reducible apply Exists.intro;refine⟨fun W hW=>?_,?_⟩;(first|with_reducible rfl|(go_at_call 97;exact callB (laws_eqProfile.calls kl4 _ _ _ _ _ _ _ _ _ _ _ _ (Kd.qC HR258_2.out hW) HC258_2.out (Kd.qC HR259_2.out hW) HC259_2.out A8.out) hW)|(go_simp;with_reducible rfl));go_big_quiet_on)))
    clear HB
    refine zW fun w10 (HB:Below w.heap.size w w10)=>?_
    go_wp2_with(fail)
    go_roundg kl4
    case measure=>have:=HKkl4.out;omega
    case rel=>exact⟨(wrap64 (x5_kl4+1)),zr,⟨H⟩,⟨by have:=HKkl4.out;omega⟩,⟨zv HLkl4.out HB⟩⟩
   replace c9:=Bool.eq_false_iff.mpr c9
   subst c9
   rw[if_neg (by decide)] at H
   obtain rfl:=zi H
   repeat(first|go_big_quiet_skip|(go_big_quiet_want;go_big_quiet_op;first|go_big_quiet_on|(with_reducible apply Exists.intro;refine⟨fun W hW=>?_,?_⟩;(first|with_reducible rfl|(go_at_call 97;exact callB (laws_eqProfile.calls kl4 _ _ _ _ _ _ _ _ _ _ _ _ (Kd.qC HR258_2.out hW) HC258_2.out (Kd.qC HR259_2.out hW) HC259_2.out A8.out) hW)|(go_simp;with_reducible rfl));go_big_quiet_on)))
   clear HB
   refine zW fun w11 (HB:Below w.heap.size w w11)=>?_
   go_wp2_with(fail)
   go_ret
   exact⟨ze,zv HW.out HB⟩
def laws_eqPending.f(k:Nat)(a0_0:ByteArray)(l0_1:List (S96))(a0_2:ByteArray)(a1_0:ByteArray)(l1_1:List (S96))(a1_2:ByteArray):Option (Bool):=if a0_0.toList=a1_0.toList then((laws_eqEntryS.f k l0_1 l1_1).bind fun t263=>(if t263=true then(if a0_2.toList=a1_2.toList then(some true) else(some false)) else(some false))) else(some false)
theorem laws_eqPending.calls(k:Nat)(a0_0:ByteArray)(A0_1:Option Addr)(c0_1:Nat)(l0_1:List (S96))(a0_2:ByteArray)(a1_0:ByteArray)(A1_1:Option Addr)(c1_1:Nat)(l1_1:List (S96))(a1_2:ByteArray)(r:Bool)(w:World)(hr0_1:Kd.C k96 w A0_1 l0_1.length l0_1)(hc0_1:l0_1.length≤c0_1)(hr1_1:Kd.C k96 w A1_1 l1_1.length l1_1)(hc1_1:l1_1.length≤c1_1)(h:laws_eqPending.f k a0_0 l0_1 a0_2 a1_0 l1_1 a1_2=some r):
 Calls Tryz.prog 98 #[.agg #[.string a0_0,.slice A0_1 l0_1.length c0_1,.string a0_2],.agg #[.string a1_0,.slice A1_1 l1_1.length c1_1,.string a1_2]] w fun e w'=>e= .returned (.bool r)∧Below w.heap.size w w':=by
 have hu61:=Tryz.underlying61
 have HR0_1:=zz hr0_1
 have HC0_1:=zz hc0_1
 clear hr0_1 hc0_1
 have HR1_1:=zz hr1_1
 have HC1_1:=zz hc1_1
 clear hr1_1 hc1_1
 have HB:=zz (Below.refl w.heap.size w)
 unfold laws_eqPending.f at h
 have H:=h
 clear h
 replace HB:=HB.out
 have HW:=zz (Below.refl w.heap.size w)
 go_enter Tryz.func98,Tryz.ntmps98
 by_cases c3:a0_0.toList=a1_0.toList
 case neg=>
  rw[if_neg c3] at H
  obtain⟨c3b0,c3b1⟩:=zw c3
  obtain rfl:=zi H
  go_wp2_with(first|(refine zN 2 ?_;(try(refine z4 ?_;dsimp only));refine zX 2 61 #[.string a0_0,.slice A0_1 l0_1.length c0_1,.string a0_2] ?_;intro gb261 hg w19 hbox hb;have hst:=zv HB hb;clear hg hb HB;replace HW:=zz (zv HW.out hst);replace HR0_1:=zz (Kd.qC HR0_1.out hst);replace HR1_1:=zz (Kd.qC HR1_1.out hst);obtain⟨hbx261_0,hbx261_1,hbx261_2⟩:=zx3 hbox;have HB:=Below.refl w19.heap.size w19;clear hbox hst)|(refine zN 3 ?_;(try(refine z4 ?_;dsimp only));refine zX 3 61 #[.string a1_0,.slice A1_1 l1_1.length c1_1,.string a1_2] ?_;intro gb262 hg w20 hbox hb;have hst:=zv HB hb;clear hg hb HB;replace HW:=zz (zv HW.out hst);replace HR0_1:=zz (Kd.qC HR0_1.out hst);replace HR1_1:=zz (Kd.qC HR1_1.out hst);replace hbx261_0:=qH hbx261_0 hst;replace hbx261_1:=qH hbx261_1 hst;replace hbx261_2:=qH hbx261_2 hst;obtain⟨hbx262_0,hbx262_1,hbx262_2⟩:=zx3 hbox;have HB:=Below.refl w20.heap.size w20;clear hbox hst))
  go_ret
  exact⟨ze,zv HW.out HB⟩
 rw[if_pos c3] at H
 obtain⟨c3b0,c3b1⟩:=zq c3
 clear c3
 replace H:=zf H
 obtain⟨t263,A4,H⟩:=H
 try dsimp only at H
 replace A4:=zz A4
 go_wp2_with(first|(refine zN 2 ?_;(try(refine z4 ?_;dsimp only));refine zX 2 61 #[.string a0_0,.slice A0_1 l0_1.length c0_1,.string a0_2] ?_;intro gb261 hg w8 hbox hb;have hst:=zv HB hb;clear hg hb HB;replace HW:=zz (zv HW.out hst);replace HR0_1:=zz (Kd.qC HR0_1.out hst);replace HR1_1:=zz (Kd.qC HR1_1.out hst);obtain⟨hbx261_0,hbx261_1,hbx261_2⟩:=zx3 hbox;have HB:=Below.refl w8.heap.size w8;clear hbox hst)|(refine zN 3 ?_;(try(refine z4 ?_;dsimp only));refine zX 3 61 #[.string a1_0,.slice A1_1 l1_1.length c1_1,.string a1_2] ?_;intro gb262 hg w9 hbox hb;have hst:=zv HB hb;clear hg hb HB;replace HW:=zz (zv HW.out hst);replace HR0_1:=zz (Kd.qC HR0_1.out hst);replace HR1_1:=zz (Kd.qC HR1_1.out hst);replace hbx261_0:=qH hbx261_0 hst;replace hbx261_1:=qH hbx261_1 hst;replace hbx261_2:=qH hbx261_2 hst;obtain⟨hbx262_0,hbx262_1,hbx262_2⟩:=zx3 hbox;have HB:=Below.refl w9.heap.size w9;clear hbox hst))
 refine(laws_eqEntryS.calls k _ _ _ _ _ _ _ _ (Kd.qC HR0_1.out HB) HC0_1.out (Kd.qC HR1_1.out HB) HC1_1.out A4.out).mono ?_
 rintro e w10 ⟨rfl,hb⟩
 replace HB:=zv HB hb
 clear hb
 by_cases c5:t263=true
 case neg=>
  replace c5:=Bool.eq_false_iff.mpr c5
  subst c5
  rw[if_neg (by decide)] at H
  obtain rfl:=zi H
  go_wp2_with(fail)
  go_ret
  exact⟨ze,zv HW.out HB⟩
 subst c5
 rw[if_pos rfl] at H
 by_cases c6:a0_2.toList=a1_2.toList
 case neg=>
  rw[if_neg c6] at H
  obtain⟨c6b0,c6b1⟩:=zw c6
  obtain rfl:=zi H
  go_wp2_with(fail)
  go_ret
  exact⟨ze,zv HW.out HB⟩
 rw[if_pos c6] at H
 obtain⟨c6b0,c6b1⟩:=zq c6
 clear c6
 obtain rfl:=zi H
 go_wp2_with(fail)
 go_ret
 exact⟨ze,zv HW.out HB⟩
def laws_eqPendingS.l0:Nat→List (S61)→List (S61)→Int→Option (Bool)
 |0,_,_,_=>none
 |k+1,x0,x1,x5=>if x5<(x0.length:Int) then(if 0≤x5 then(if x5<(x1.length:Int) then((laws_eqPending.f k ((rd_T61 x0 x5).f0) ((rd_T61 x0 x5).f1) ((rd_T61 x0 x5).f2) ((rd_T61 x1 x5).f0) ((rd_T61 x1 x5).f1) ((rd_T61 x1 x5).f2)).bind fun t266=>(if t266=true then(laws_eqPendingS.l0 k x0 x1 (wrap64 (x5+1))) else(some false))) else(none)) else(none)) else(some true)
def laws_eqPendingS.f(k:Nat)(l0:List (S61))(l1:List (S61)):Option (Bool):=if(l0.length:Int)=(l1.length:Int) then(laws_eqPendingS.l0 k l0 l1 0) else(some false)
theorem laws_eqPendingS.calls(k:Nat)(A0:Option Addr)(c0:Nat)(l0:List (S61))(A1:Option Addr)(c1:Nat)(l1:List (S61))(r:Bool)(w:World)(hr0:Kd.C k61 w A0 l0.length l0)(hc0:l0.length≤c0)(hr1:Kd.C k61 w A1 l1.length l1)(hc1:l1.length≤c1)(h:laws_eqPendingS.f k l0 l1=some r):
 Calls Tryz.prog 50 #[.slice A0 l0.length c0,.slice A1 l1.length c1] w fun e w'=>e= .returned (.bool r)∧Below w.heap.size w w':=by
 have hu61:=Tryz.underlying61
 have HR0:=zz hr0
 have HC0:=zz hc0
 clear hr0 hc0
 have HR1:=zz hr1
 have HC1:=zz hc1
 clear hr1 hc1
 have HB:=zz (Below.refl w.heap.size w)
 unfold laws_eqPendingS.f at h
 have H:=h
 clear h
 replace HB:=HB.out
 have HW:=zz (Below.refl w.heap.size w)
 go_enter Tryz.func50,Tryz.ntmps50
 by_cases c3:(l0.length:Int)=(l1.length:Int)
 case neg=>
  rw[if_neg c3] at H
  obtain⟨c3b0,c3b1⟩:=zw c3
  have c3b2:(l0.length==l1.length)=false:=by first|simpa using c3|(simp at c3⊢;omega)
  obtain rfl:=zi H
  go_wp2_with(fail)
  go_ret
  exact⟨ze,zv HW.out HB⟩
 rw[if_pos c3] at H
 obtain⟨c3b0,c3b1⟩:=zq c3
 have c3b2:(l0.length==l1.length)=true:=by first|simpa using c3|(simp at c3⊢;omega)
 clear c3
 go_wp2_with(fail)
 go_loopg[5] k (fun kq v5 w'=>∃(x5_kl4:Int),v5= .int .i64 x5_kl4∧qB (laws_eqPendingS.l0 kq l0 l1 x5_kl4=some r)∧qB (kq≤k)∧qB (Below w.heap.size w w'))
 case atStart=>exact⟨(0),zr,⟨H⟩,⟨Nat.le_refl _⟩,⟨HB⟩⟩
 case round=>
  clear H HB
  obtain⟨x5_kl4,rfl,H,HKkl4,HB⟩:=hrel
  replace HB:=HB.out
  replace H:=H.out
  have HLkl4:=zz (Below.refl w.heap.size w)
  cases gk with
  |zero=>exact absurd H (by simp[laws_eqPendingS.l0])
  |succ kl4=>
   simp only[laws_eqPendingS.l0] at H
   by_cases c5:x5_kl4<(l0.length:Int)
   case neg=>
    rw[if_neg c5] at H
    have c5b0:=z0 c5
    clear c5
    obtain rfl:=zi H
    go_wp2_with(fail)
    go_ret
    exact⟨ze,zv HW.out HB⟩
   rw[if_pos c5] at H
   have c5b0:=z1 c5
   clear c5
   go_wp2_with(fail)
   try simp only[Act.put,List.setIfInBounds_toArray,List.set_cons_zero,List.set_cons_succ]
   refine vB (C:=fun W_=>Below w.heap.size w W_) zk zk (qQ HB) ?_
   by_cases c6:0≤x5_kl4
   case neg=>exact zno H c6
   rw[if_pos c6] at H
   have c6b0:=z1 c6
   clear c6
   have p264:0≤(x5_kl4:Int):=z2
   have q264:(x5_kl4:Int)<(l0.length:Int):=z2
   obtain⟨ad264,A264_1,c264_1,e264,hx264_0,hx264_1,hx264_2,hl264_1,hC264_1⟩:=at_T61 HR0.out x5_kl4 p264 q264
   cases e264
   replace hx264_0:=qR hx264_0
   replace hx264_1:=qR hx264_1
   replace hx264_2:=qR hx264_2
   have HR264_1:=zz hC264_1
   have HC264_1:=zz hl264_1
   clear hC264_1 hl264_1
   replace p264:=eq_true p264
   replace q264:=eq_true q264
   by_cases c7:x5_kl4<(l1.length:Int)
   case neg=>exact zno H c7
   rw[if_pos c7] at H
   have c7b0:=z1 c7
   clear c7
   have p265:0≤(x5_kl4:Int):=z2
   have q265:(x5_kl4:Int)<(l1.length:Int):=z2
   obtain⟨ad265,A265_1,c265_1,e265,hx265_0,hx265_1,hx265_2,hl265_1,hC265_1⟩:=at_T61 HR1.out x5_kl4 p265 q265
   cases e265
   replace hx265_0:=qR hx265_0
   replace hx265_1:=qR hx265_1
   replace hx265_2:=qR hx265_2
   have HR265_1:=zz hC265_1
   have HC265_1:=zz hl265_1
   clear hC265_1 hl265_1
   replace p265:=eq_true p265
   replace q265:=eq_true q265
   replace H:=zf H
   obtain⟨t266,A8,H⟩:=H
   try dsimp only at H
   replace A8:=zz A8
   by_cases c9:t266=true
   ·subst c9
    rw[if_pos rfl] at H
    repeat(first|go_big_quiet_skip|(go_big_quiet_want;go_big_quiet_op;first|go_big_quiet_on|(with_reducible apply Exists.intro;refine⟨fun W hW=>?_,?_⟩;(first|with_reducible rfl|(go_at_call 98;exact callB (laws_eqPending.calls kl4 _ _ _ _ _ _ _ _ _ _ _ _ (Kd.qC HR264_1.out hW) HC264_1.out (Kd.qC HR265_1.out hW) HC265_1.out A8.out) hW)|(go_simp;with_reducible rfl));go_big_quiet_on)))
    clear HB
    refine zW fun w10 (HB:Below w.heap.size w w10)=>?_
    go_wp2_with(fail)
    go_roundg kl4
    case measure=>have:=HKkl4.out;omega
    case rel=>exact⟨(wrap64 (x5_kl4+1)),zr,⟨H⟩,⟨by have:=HKkl4.out;omega⟩,⟨zv HLkl4.out HB⟩⟩
   replace c9:=Bool.eq_false_iff.mpr c9
   subst c9
   rw[if_neg (by decide)] at H
   obtain rfl:=zi H
   repeat(first|go_big_quiet_skip|(go_big_quiet_want;go_big_quiet_op;first|go_big_quiet_on|(with_reducible apply Exists.intro;refine⟨fun W hW=>?_,?_⟩;(first|with_reducible rfl|(go_at_call 98;exact callB (laws_eqPending.calls kl4 _ _ _ _ _ _ _ _ _ _ _ _ (Kd.qC HR264_1.out hW) HC264_1.out (Kd.qC HR265_1.out hW) HC265_1.out A8.out) hW)|(go_simp;with_reducible rfl));go_big_quiet_on)))
   clear HB
   refine zW fun w11 (HB:Below w.heap.size w w11)=>?_
   go_wp2_with(fail)
   go_ret
   exact⟨ze,zv HW.out HB⟩
def laws_eqNext.f(a0_0:ByteArray)(a0_1:ByteArray)(a1_0:ByteArray)(a1_1:ByteArray):Option (Bool):=if a0_0.toList=a1_0.toList then(if a0_1.toList=a1_1.toList then(some true) else(some false)) else(some false)
theorem laws_eqNext.calls(a0_0:ByteArray)(a0_1:ByteArray)(a1_0:ByteArray)(a1_1:ByteArray)(r:Bool)(w:World)(h:laws_eqNext.f a0_0 a0_1 a1_0 a1_1=some r):
 Calls Tryz.prog 99 #[.agg #[.string a0_0,.string a0_1],.agg #[.string a1_0,.string a1_1]] w fun e w'=>e= .returned (.bool r)∧Below w.heap.size w w':=by
 have hu64:=Tryz.underlying64
 have HB:=zz (Below.refl w.heap.size w)
 unfold laws_eqNext.f at h
 have H:=h
 clear h
 replace HB:=HB.out
 have HW:=zz (Below.refl w.heap.size w)
 go_enter Tryz.func99,Tryz.ntmps99
 by_cases c3:a0_0.toList=a1_0.toList
 case neg=>
  rw[if_neg c3] at H
  obtain⟨c3b0,c3b1⟩:=zw c3
  obtain rfl:=zi H
  go_wp2_with(first|(refine zN 2 ?_;(try(refine z4 ?_;dsimp only));refine zX 2 64 #[.string a0_0,.string a0_1] ?_;intro gb267 hg w9 hbox hb;have hst:=zv HB hb;clear hg hb HB;replace HW:=zz (zv HW.out hst);obtain⟨hbx267_0,hbx267_1⟩:=zx2 hbox;have HB:=Below.refl w9.heap.size w9;clear hbox hst)|(refine zN 3 ?_;(try(refine z4 ?_;dsimp only));refine zX 3 64 #[.string a1_0,.string a1_1] ?_;intro gb268 hg w10 hbox hb;have hst:=zv HB hb;clear hg hb HB;replace HW:=zz (zv HW.out hst);replace hbx267_0:=qH hbx267_0 hst;replace hbx267_1:=qH hbx267_1 hst;obtain⟨hbx268_0,hbx268_1⟩:=zx2 hbox;have HB:=Below.refl w10.heap.size w10;clear hbox hst))
  go_ret
  exact⟨ze,zv HW.out HB⟩
 rw[if_pos c3] at H
 obtain⟨c3b0,c3b1⟩:=zq c3
 clear c3
 by_cases c4:a0_1.toList=a1_1.toList
 case neg=>
  rw[if_neg c4] at H
  obtain⟨c4b0,c4b1⟩:=zw c4
  obtain rfl:=zi H
  go_wp2_with(first|(refine zN 2 ?_;(try(refine z4 ?_;dsimp only));refine zX 2 64 #[.string a0_0,.string a0_1] ?_;intro gb267 hg w7 hbox hb;have hst:=zv HB hb;clear hg hb HB;replace HW:=zz (zv HW.out hst);obtain⟨hbx267_0,hbx267_1⟩:=zx2 hbox;have HB:=Below.refl w7.heap.size w7;clear hbox hst)|(refine zN 3 ?_;(try(refine z4 ?_;dsimp only));refine zX 3 64 #[.string a1_0,.string a1_1] ?_;intro gb268 hg w8 hbox hb;have hst:=zv HB hb;clear hg hb HB;replace HW:=zz (zv HW.out hst);replace hbx267_0:=qH hbx267_0 hst;replace hbx267_1:=qH hbx267_1 hst;obtain⟨hbx268_0,hbx268_1⟩:=zx2 hbox;have HB:=Below.refl w8.heap.size w8;clear hbox hst))
  go_ret
  exact⟨ze,zv HW.out HB⟩
 rw[if_pos c4] at H
 obtain⟨c4b0,c4b1⟩:=zq c4
 clear c4
 obtain rfl:=zi H
 go_wp2_with(first|(refine zN 2 ?_;(try(refine z4 ?_;dsimp only));refine zX 2 64 #[.string a0_0,.string a0_1] ?_;intro gb267 hg w5 hbox hb;have hst:=zv HB hb;clear hg hb HB;replace HW:=zz (zv HW.out hst);obtain⟨hbx267_0,hbx267_1⟩:=zx2 hbox;have HB:=Below.refl w5.heap.size w5;clear hbox hst)|(refine zN 3 ?_;(try(refine z4 ?_;dsimp only));refine zX 3 64 #[.string a1_0,.string a1_1] ?_;intro gb268 hg w6 hbox hb;have hst:=zv HB hb;clear hg hb HB;replace HW:=zz (zv HW.out hst);replace hbx267_0:=qH hbx267_0 hst;replace hbx267_1:=qH hbx267_1 hst;obtain⟨hbx268_0,hbx268_1⟩:=zx2 hbox;have HB:=Below.refl w6.heap.size w6;clear hbox hst))
 go_ret
 exact⟨ze,zv HW.out HB⟩
def laws_eqNextS.l0:Nat→List (S64)→List (S64)→Int→Option (Bool)
 |0,_,_,_=>none
 |k+1,x0,x1,x5=>if x5<(x0.length:Int) then(if 0≤x5 then(if x5<(x1.length:Int) then((laws_eqNext.f ((rd_T64 x0 x5).f0) ((rd_T64 x0 x5).f1) ((rd_T64 x1 x5).f0) ((rd_T64 x1 x5).f1)).bind fun t271=>(if t271=true then(laws_eqNextS.l0 k x0 x1 (wrap64 (x5+1))) else(some false))) else(none)) else(none)) else(some true)
def laws_eqNextS.f(k:Nat)(l0:List (S64))(l1:List (S64)):Option (Bool):=if(l0.length:Int)=(l1.length:Int) then(laws_eqNextS.l0 k l0 l1 0) else(some false)
theorem laws_eqNextS.calls(k:Nat)(A0:Option Addr)(c0:Nat)(l0:List (S64))(A1:Option Addr)(c1:Nat)(l1:List (S64))(r:Bool)(w:World)(hr0:Kd.C k64 w A0 l0.length l0)(hc0:l0.length≤c0)(hr1:Kd.C k64 w A1 l1.length l1)(hc1:l1.length≤c1)(h:laws_eqNextS.f k l0 l1=some r):
 Calls Tryz.prog 51 #[.slice A0 l0.length c0,.slice A1 l1.length c1] w fun e w'=>e= .returned (.bool r)∧Below w.heap.size w w':=by
 have hu64:=Tryz.underlying64
 have HR0:=zz hr0
 have HC0:=zz hc0
 clear hr0 hc0
 have HR1:=zz hr1
 have HC1:=zz hc1
 clear hr1 hc1
 have HB:=zz (Below.refl w.heap.size w)
 unfold laws_eqNextS.f at h
 have H:=h
 clear h
 replace HB:=HB.out
 have HW:=zz (Below.refl w.heap.size w)
 go_enter Tryz.func51,Tryz.ntmps51
 by_cases c3:(l0.length:Int)=(l1.length:Int)
 case neg=>
  rw[if_neg c3] at H
  obtain⟨c3b0,c3b1⟩:=zw c3
  have c3b2:(l0.length==l1.length)=false:=by first|simpa using c3|(simp at c3⊢;omega)
  obtain rfl:=zi H
  go_wp2_with(fail)
  go_ret
  exact⟨ze,zv HW.out HB⟩
 rw[if_pos c3] at H
 obtain⟨c3b0,c3b1⟩:=zq c3
 have c3b2:(l0.length==l1.length)=true:=by first|simpa using c3|(simp at c3⊢;omega)
 clear c3
 go_wp2_with(fail)
 go_loopg[5] k (fun kq v5 w'=>∃(x5_kl4:Int),v5= .int .i64 x5_kl4∧qB (laws_eqNextS.l0 kq l0 l1 x5_kl4=some r)∧qB (kq≤k)∧qB (Below w.heap.size w w'))
 case atStart=>exact⟨(0),zr,⟨H⟩,⟨Nat.le_refl _⟩,⟨HB⟩⟩
 case round=>
  clear H HB
  obtain⟨x5_kl4,rfl,H,HKkl4,HB⟩:=hrel
  replace HB:=HB.out
  replace H:=H.out
  have HLkl4:=zz (Below.refl w.heap.size w)
  cases gk with
  |zero=>exact absurd H (by simp[laws_eqNextS.l0])
  |succ kl4=>
   simp only[laws_eqNextS.l0] at H
   by_cases c5:x5_kl4<(l0.length:Int)
   case neg=>
    rw[if_neg c5] at H
    have c5b0:=z0 c5
    clear c5
    obtain rfl:=zi H
    go_wp2_with(fail)
    go_ret
    exact⟨ze,zv HW.out HB⟩
   rw[if_pos c5] at H
   have c5b0:=z1 c5
   clear c5
   go_wp2_with(fail)
   try simp only[Act.put,List.setIfInBounds_toArray,List.set_cons_zero,List.set_cons_succ]
   refine vB (C:=fun W_=>Below w.heap.size w W_) zk zk (qQ HB) ?_
   by_cases c6:0≤x5_kl4
   case neg=>exact zno H c6
   rw[if_pos c6] at H
   have c6b0:=z1 c6
   clear c6
   have p269:0≤(x5_kl4:Int):=z2
   have q269:(x5_kl4:Int)<(l0.length:Int):=z2
   obtain⟨ad269,e269,hx269_0,hx269_1⟩:=at_T64 HR0.out x5_kl4 p269 q269
   cases e269
   replace hx269_0:=qR hx269_0
   replace hx269_1:=qR hx269_1
   replace p269:=eq_true p269
   replace q269:=eq_true q269
   by_cases c7:x5_kl4<(l1.length:Int)
   case neg=>exact zno H c7
   rw[if_pos c7] at H
   have c7b0:=z1 c7
   clear c7
   have p270:0≤(x5_kl4:Int):=z2
   have q270:(x5_kl4:Int)<(l1.length:Int):=z2
   obtain⟨ad270,e270,hx270_0,hx270_1⟩:=at_T64 HR1.out x5_kl4 p270 q270
   cases e270
   replace hx270_0:=qR hx270_0
   replace hx270_1:=qR hx270_1
   replace p270:=eq_true p270
   replace q270:=eq_true q270
   replace H:=zf H
   obtain⟨t271,A8,H⟩:=H
   try dsimp only at H
   replace A8:=zz A8
   by_cases c9:t271=true
   ·subst c9
    rw[if_pos rfl] at H
    repeat(first|go_big_quiet_skip|(go_big_quiet_want;go_big_quiet_op;first|go_big_quiet_on|(with_reducible apply Exists.intro;refine⟨fun W hW=>?_,?_⟩;(first|with_reducible rfl|(go_at_call 99;exact callB (laws_eqNext.calls _ _ _ _ _ _ A8.out) hW)|(go_simp;with_reducible rfl));go_big_quiet_on)))
    clear HB
    refine zW fun w10 (HB:Below w.heap.size w w10)=>?_
    go_wp2_with(fail)
    go_roundg kl4
    case measure=>have:=HKkl4.out;omega
    case rel=>exact⟨(wrap64 (x5_kl4+1)),zr,⟨H⟩,⟨by have:=HKkl4.out;omega⟩,⟨zv HLkl4.out HB⟩⟩
   replace c9:=Bool.eq_false_iff.mpr c9
   subst c9
   rw[if_neg (by decide)] at H
   obtain rfl:=zi H
   repeat(first|go_big_quiet_skip|(go_big_quiet_want;go_big_quiet_op;first|go_big_quiet_on|(with_reducible apply Exists.intro;refine⟨fun W hW=>?_,?_⟩;(first|with_reducible rfl|(go_at_call 99;exact callB (laws_eqNext.calls _ _ _ _ _ _ A8.out) hW)|(go_simp;with_reducible rfl));go_big_quiet_on)))
   clear HB
   refine zW fun w11 (HB:Below w.heap.size w w11)=>?_
   go_wp2_with(fail)
   go_ret
   exact⟨ze,zv HW.out HB⟩
def laws_eqWorld.f(k:Nat)(l0_0:List (S94))(l0_1:List (S67))(l0_2:List (S61))(l0_3:List (S64))(l1_0:List (S94))(l1_1:List (S67))(l1_2:List (S61))(l1_3:List (S64)):Option (Bool):=(laws_eqItemS.f k l0_0 l1_0).bind fun t274=>(if t274=true then((laws_eqProfileS.f k l0_1 l1_1).bind fun t275=>(if t275=true then((laws_eqPendingS.f k l0_2 l1_2).bind fun t276=>(if t276=true then((laws_eqNextS.f k l0_3 l1_3).bind fun t277=>(if t277=true then(some true) else(some false))) else(some false))) else(some false))) else(some false))
theorem laws_eqWorld.calls(k:Nat)(A0_0:Option Addr)(c0_0:Nat)(l0_0:List (S94))(A0_1:Option Addr)(c0_1:Nat)(l0_1:List (S67))(A0_2:Option Addr)(c0_2:Nat)(l0_2:List (S61))(A0_3:Option Addr)(c0_3:Nat)(l0_3:List (S64))(A1_0:Option Addr)(c1_0:Nat)(l1_0:List (S94))(A1_1:Option Addr)(c1_1:Nat)(l1_1:List (S67))(A1_2:Option Addr)(c1_2:Nat)(l1_2:List (S61))(A1_3:Option Addr)(c1_3:Nat)(l1_3:List (S64))(r:Bool)(w:World)(hr0_0:Kd.C k94 w A0_0 l0_0.length l0_0)(hc0_0:l0_0.length≤c0_0)(hr0_1:Kd.C k67 w A0_1 l0_1.length l0_1)(hc0_1:l0_1.length≤c0_1)(hr0_2:Kd.C k61 w A0_2 l0_2.length l0_2)(hc0_2:l0_2.length≤c0_2)(hr0_3:Kd.C k64 w A0_3 l0_3.length l0_3)(hc0_3:l0_3.length≤c0_3)(hr1_0:Kd.C k94 w A1_0 l1_0.length l1_0)(hc1_0:l1_0.length≤c1_0)(hr1_1:Kd.C k67 w A1_1 l1_1.length l1_1)(hc1_1:l1_1.length≤c1_1)(hr1_2:Kd.C k61 w A1_2 l1_2.length l1_2)(hc1_2:l1_2.length≤c1_2)(hr1_3:Kd.C k64 w A1_3 l1_3.length l1_3)(hc1_3:l1_3.length≤c1_3)(h:laws_eqWorld.f k l0_0 l0_1 l0_2 l0_3 l1_0 l1_1 l1_2 l1_3=some r):
 Calls Tryz.prog 11 #[.agg #[.slice A0_0 l0_0.length c0_0,.slice A0_1 l0_1.length c0_1,.slice A0_2 l0_2.length c0_2,.slice A0_3 l0_3.length c0_3],.agg #[.slice A1_0 l1_0.length c1_0,.slice A1_1 l1_1.length c1_1,.slice A1_2 l1_2.length c1_2,.slice A1_3 l1_3.length c1_3]] w fun e w'=>e= .returned (.bool r)∧Below w.heap.size w w':=by
 have hu35:=Tryz.underlying35
 have HR0_0:=zz hr0_0
 have HC0_0:=zz hc0_0
 clear hr0_0 hc0_0
 have HR0_1:=zz hr0_1
 have HC0_1:=zz hc0_1
 clear hr0_1 hc0_1
 have HR0_2:=zz hr0_2
 have HC0_2:=zz hc0_2
 clear hr0_2 hc0_2
 have HR0_3:=zz hr0_3
 have HC0_3:=zz hc0_3
 clear hr0_3 hc0_3
 have HR1_0:=zz hr1_0
 have HC1_0:=zz hc1_0
 clear hr1_0 hc1_0
 have HR1_1:=zz hr1_1
 have HC1_1:=zz hc1_1
 clear hr1_1 hc1_1
 have HR1_2:=zz hr1_2
 have HC1_2:=zz hc1_2
 clear hr1_2 hc1_2
 have HR1_3:=zz hr1_3
 have HC1_3:=zz hc1_3
 clear hr1_3 hc1_3
 have HB:=zz (Below.refl w.heap.size w)
 unfold laws_eqWorld.f at h
 have H:=h
 clear h
 replace HB:=HB.out
 have HW:=zz (Below.refl w.heap.size w)
 go_enter Tryz.func11,Tryz.ntmps11
 replace H:=zf H
 obtain⟨t274,A3,H⟩:=H
 try dsimp only at H
 replace A3:=zz A3
 go_wp2_with(first|(refine zN 2 ?_;(try(refine z4 ?_;dsimp only));refine zX 2 35 #[.slice A0_0 l0_0.length c0_0,.slice A0_1 l0_1.length c0_1,.slice A0_2 l0_2.length c0_2,.slice A0_3 l0_3.length c0_3] ?_;intro gb272 hg w6 hbox hb;have hst:=zv HB hb;clear hg hb HB;replace HW:=zz (zv HW.out hst);replace HR0_0:=zz (Kd.qC HR0_0.out hst);replace HR0_1:=zz (Kd.qC HR0_1.out hst);replace HR0_2:=zz (Kd.qC HR0_2.out hst);replace HR0_3:=zz (Kd.qC HR0_3.out hst);replace HR1_0:=zz (Kd.qC HR1_0.out hst);replace HR1_1:=zz (Kd.qC HR1_1.out hst);replace HR1_2:=zz (Kd.qC HR1_2.out hst);replace HR1_3:=zz (Kd.qC HR1_3.out hst);obtain⟨hbx272_0,hbx272_1,hbx272_2,hbx272_3⟩:=zx4 hbox;have HB:=Below.refl w6.heap.size w6;clear hbox hst)|(refine zN 3 ?_;(try(refine z4 ?_;dsimp only));refine zX 3 35 #[.slice A1_0 l1_0.length c1_0,.slice A1_1 l1_1.length c1_1,.slice A1_2 l1_2.length c1_2,.slice A1_3 l1_3.length c1_3] ?_;intro gb273 hg w7 hbox hb;have hst:=zv HB hb;clear hg hb HB;replace HW:=zz (zv HW.out hst);replace HR0_0:=zz (Kd.qC HR0_0.out hst);replace HR0_1:=zz (Kd.qC HR0_1.out hst);replace HR0_2:=zz (Kd.qC HR0_2.out hst);replace HR0_3:=zz (Kd.qC HR0_3.out hst);replace HR1_0:=zz (Kd.qC HR1_0.out hst);replace HR1_1:=zz (Kd.qC HR1_1.out hst);replace HR1_2:=zz (Kd.qC HR1_2.out hst);replace HR1_3:=zz (Kd.qC HR1_3.out hst);replace hbx272_0:=qH hbx272_0 hst;replace hbx272_1:=qH hbx272_1 hst;replace hbx272_2:=qH hbx272_2 hst;replace hbx272_3:=qH hbx272_3 hst;obtain⟨hbx273_0,hbx273_1,hbx273_2,hbx273_3⟩:=zx4 hbox;have HB:=Below.refl w7.heap.size w7;clear hbox hst))
 refine(laws_eqItemS.calls k _ _ _ _ _ _ _ _ (Kd.qC HR0_0.out HB) HC0_0.out (Kd.qC HR1_0.out HB) HC1_0.out A3.out).mono ?_
 rintro e w8 ⟨rfl,hb⟩
 replace HB:=zv HB hb
 clear hb
 by_cases c4:t274=true
 case neg=>
  replace c4:=Bool.eq_false_iff.mpr c4
  subst c4
  rw[if_neg (by decide)] at H
  obtain rfl:=zi H
  go_wp2_with(fail)
  go_ret
  exact⟨ze,zv HW.out HB⟩
 subst c4
 rw[if_pos rfl] at H
 replace H:=zf H
 obtain⟨t275,A9,H⟩:=H
 try dsimp only at H
 replace A9:=zz A9
 by_cases c10:t275=true
 case neg=>
  replace c10:=Bool.eq_false_iff.mpr c10
  subst c10
  rw[if_neg (by decide)] at H
  go_wp2_with(fail)
  refine(laws_eqProfileS.calls k _ _ _ _ _ _ _ _ (Kd.qC HR0_1.out HB) HC0_1.out (Kd.qC HR1_1.out HB) HC1_1.out A9.out).mono ?_
  rintro e w26 ⟨rfl,hb⟩
  replace HB:=zv HB hb
  clear hb
  obtain rfl:=zi H
  go_wp2_with(fail)
  go_ret
  exact⟨ze,zv HW.out HB⟩
 subst c10
 rw[if_pos rfl] at H
 go_wp2_with(fail)
 refine(laws_eqProfileS.calls k _ _ _ _ _ _ _ _ (Kd.qC HR0_1.out HB) HC0_1.out (Kd.qC HR1_1.out HB) HC1_1.out A9.out).mono ?_
 rintro e w12 ⟨rfl,hb⟩
 replace HB:=zv HB hb
 clear hb
 replace H:=zf H
 obtain⟨t276,A13,H⟩:=H
 try dsimp only at H
 replace A13:=zz A13
 by_cases c14:t276=true
 case neg=>
  replace c14:=Bool.eq_false_iff.mpr c14
  subst c14
  rw[if_neg (by decide)] at H
  go_wp2_with(fail)
  refine(laws_eqPendingS.calls k _ _ _ _ _ _ _ _ (Kd.qC HR0_2.out HB) HC0_2.out (Kd.qC HR1_2.out HB) HC1_2.out A13.out).mono ?_
  rintro e w24 ⟨rfl,hb⟩
  replace HB:=zv HB hb
  clear hb
  obtain rfl:=zi H
  go_wp2_with(fail)
  go_ret
  exact⟨ze,zv HW.out HB⟩
 subst c14
 rw[if_pos rfl] at H
 go_wp2_with(fail)
 refine(laws_eqPendingS.calls k _ _ _ _ _ _ _ _ (Kd.qC HR0_2.out HB) HC0_2.out (Kd.qC HR1_2.out HB) HC1_2.out A13.out).mono ?_
 rintro e w16 ⟨rfl,hb⟩
 replace HB:=zv HB hb
 clear hb
 replace H:=zf H
 obtain⟨t277,A17,H⟩:=H
 try dsimp only at H
 replace A17:=zz A17
 by_cases c18:t277=true
 ·subst c18
  rw[if_pos rfl] at H
  go_wp2_with(fail)
  refine(laws_eqNextS.calls k _ _ _ _ _ _ _ _ (Kd.qC HR0_3.out HB) HC0_3.out (Kd.qC HR1_3.out HB) HC1_3.out A17.out).mono ?_
  rintro e w20 ⟨rfl,hb⟩
  replace HB:=zv HB hb
  clear hb
  obtain rfl:=zi H
  go_wp2_with(fail)
  go_ret
  exact⟨ze,zv HW.out HB⟩
 replace c18:=Bool.eq_false_iff.mpr c18
 subst c18
 rw[if_neg (by decide)] at H
 go_wp2_with(fail)
 refine(laws_eqNextS.calls k _ _ _ _ _ _ _ _ (Kd.qC HR0_3.out HB) HC0_3.out (Kd.qC HR1_3.out HB) HC1_3.out A17.out).mono ?_
 rintro e w22 ⟨rfl,hb⟩
 replace HB:=zv HB hb
 clear hb
 obtain rfl:=zi H
 go_wp2_with(fail)
 go_ret
 exact⟨ze,zv HW.out HB⟩
end Go.Proofs.YtcekmnclmldmmaaGreatDoor.Q
