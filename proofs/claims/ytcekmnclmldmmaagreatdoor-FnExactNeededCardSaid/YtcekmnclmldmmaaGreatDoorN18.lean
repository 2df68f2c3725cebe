import Derived.Test.YtcekmnclmldmmaaGreatDoorN14
import Derived.Test.YtcekmnclmldmmaaGreatDoorN16
set_option linter.unusedVariables false
set_option linter.unusedSimpArgs false
namespace Go.Proofs.YtcekmnclmldmmaaGreatDoor.Q
open Go.RowKit W1 W2 W3
attribute [local go_sem] max2_int min2_int max_two min_two max_three min_three max_four min_four
attribute [local go_sem high] bl_leq bl_gtr bl_geq
set_option maxHeartbeats 8000000
set_option maxRecDepth 100000
def impl_pendingOk.f(k:Nat)(a0_0:ByteArray)(l0_1:List (S96))(a0_2:ByteArray):Option (Bool):=(impl_AddressOk.f k a0_0).bind fun t655=>(if t655=true then((impl_TreeOk.f k l0_1).bind fun t656=>(if t656=true then(if a0_2.toList=([]:List UInt8) then(some true) else((impl_AddressOk.f k a0_2).bind fun t657=>(some t657))) else(some false))) else(some false))
theorem impl_pendingOk.calls(k:Nat)(a0_0:ByteArray)(A0_1:Option Addr)(c0_1:Nat)(l0_1:List (S96))(a0_2:ByteArray)(r:Bool)(w:World)(hr0_1:Kd.C k96 w A0_1 l0_1.length l0_1)(hc0_1:l0_1.length≤c0_1)(hG_:GOK w)(h:impl_pendingOk.f k a0_0 l0_1 a0_2=some r):
 Calls Tryz.prog 44 #[.agg #[.string a0_0,.slice A0_1 l0_1.length c0_1,.string a0_2]] w fun e w'=>e= .returned (.bool r)∧Below w.heap.size w w':=by
 have hu61:=Tryz.underlying61
 have HG:=zz hG_
 clear hG_
 have HR0_1:=zz hr0_1
 have HC0_1:=zz hc0_1
 clear hr0_1 hc0_1
 have HB:=zz (Below.refl w.heap.size w)
 unfold impl_pendingOk.f at h
 have H:=h
 clear h
 replace HB:=HB.out
 have HW:=zz (Below.refl w.heap.size w)
 go_enter Tryz.func44,Tryz.ntmps44
 replace H:=zf H
 obtain⟨t655,A2,H⟩:=H
 try dsimp only at H
 replace A2:=zz A2
 go_wp2_with(first|(refine zN 1 ?_;(try(refine z4 ?_;dsimp only));refine zX 1 61 #[.string a0_0,.slice A0_1 l0_1.length c0_1,.string a0_2] ?_;intro gb654 hg w4 hbox hb;have hst:=zv HB hb;clear hg hb HB;replace HW:=zz (zv HW.out hst);replace HR0_1:=zz (Kd.qC HR0_1.out hst);obtain⟨hbx654_0,hbx654_1,hbx654_2⟩:=zx3 hbox;have HB:=Below.refl w4.heap.size w4;clear hbox hst))
 refine(impl_AddressOk.calls k _ _ _ A2.out).mono ?_
 rintro e w5 ⟨rfl,hd⟩
 replace HB:=zv HB hd.below
 clear hd
 by_cases c3:t655=true
 case neg=>
  replace c3:=Bool.eq_false_iff.mpr c3
  subst c3
  rw[if_neg (by decide)] at H
  obtain rfl:=zi H
  go_wp2_with(fail)
  go_ret
  exact⟨ze,zv HW.out HB⟩
 subst c3
 rw[if_pos rfl] at H
 replace H:=zf H
 obtain⟨t656,A6,H⟩:=H
 try dsimp only at H
 replace A6:=zz A6
 by_cases c7:t656=true
 case neg=>
  replace c7:=Bool.eq_false_iff.mpr c7
  subst c7
  rw[if_neg (by decide)] at H
  go_wp2_with(fail)
  refine(impl_TreeOk.calls k _ _ _ _ _ (Kd.qC HR0_1.out HB) HC0_1.out (GOK.below HG.out (zv HW.out HB)) A6.out).mono ?_
  rintro e w16 ⟨rfl,hb⟩
  replace HB:=zv HB hb
  clear hb
  obtain rfl:=zi H
  go_wp2_with(fail)
  go_ret
  exact⟨ze,zv HW.out HB⟩
 subst c7
 rw[if_pos rfl] at H
 by_cases c8:a0_2.toList=([]:List UInt8)
 ·rw[if_pos c8] at H
  obtain⟨c8b0,c8b1⟩:=zq c8
  clear c8
  go_wp2_with(fail)
  refine(impl_TreeOk.calls k _ _ _ _ _ (Kd.qC HR0_1.out HB) HC0_1.out (GOK.below HG.out (zv HW.out HB)) A6.out).mono ?_
  rintro e w10 ⟨rfl,hb⟩
  replace HB:=zv HB hb
  clear hb
  obtain rfl:=zi H
  go_wp2_with(fail)
  go_ret
  exact⟨ze,zv HW.out HB⟩
 rw[if_neg c8] at H
 obtain⟨c8b0,c8b1⟩:=zw c8
 go_wp2_with(fail)
 refine(impl_TreeOk.calls k _ _ _ _ _ (Kd.qC HR0_1.out HB) HC0_1.out (GOK.below HG.out (zv HW.out HB)) A6.out).mono ?_
 rintro e w12 ⟨rfl,hb⟩
 replace HB:=zv HB hb
 clear hb
 replace H:=zf H
 obtain⟨t657,A13,H⟩:=H
 try dsimp only at H
 replace A13:=zz A13
 go_wp2_with(fail)
 refine(impl_AddressOk.calls k _ _ _ A13.out).mono ?_
 rintro e w14 ⟨rfl,hd⟩
 replace HB:=zv HB hd.below
 clear hd
 obtain rfl:=zi H
 go_wp2_with(fail)
 go_ret
 exact⟨ze,zv HW.out HB⟩
def impl_itemOf.l0:Nat→ByteArray→List (S94)→Int→Int→Option (Int)
 |0,_,_,_,_=>none
 |k+1,x1,x7,x8,x9=>if x9<x8 then(if 0≤x9 then(if x9<(x7.length:Int) then(if((qL x7 x9).f0).toList=x1.toList then(some x9) else(impl_itemOf.l0 k x1 x7 x8 (wrap64 (x9+1)))) else(none)) else(none)) else(some (-1))
def impl_itemOf.f(k:Nat)(l0:List (S94))(a1:ByteArray):Option (Int):=impl_itemOf.l0 k a1 l0 (l0.length:Int) 0
theorem impl_itemOf.calls(k:Nat)(A0:Option Addr)(c0:Nat)(l0:List (S94))(a1:ByteArray)(r:Int)(w:World)(hr0:Kd.C k94 w A0 l0.length l0)(hc0:l0.length≤c0)(h:impl_itemOf.f k l0 a1=some r):
 Calls Tryz.prog 47 #[.slice A0 l0.length c0,.string a1] w fun e w'=>e= .returned (.int .i64 r)∧Below w.heap.size w w':=by
 have hu94:=Tryz.underlying94
 have HR0:=zz hr0
 have HC0:=zz hc0
 clear hr0 hc0
 have HB:=zz (Below.refl w.heap.size w)
 unfold impl_itemOf.f at h
 have H:=h
 clear h
 replace HB:=HB.out
 have HW:=zz (Below.refl w.heap.size w)
 go_enter Tryz.func47,Tryz.ntmps47
 go_wp2_with(fail)
 go_loopg[9] k (fun kq v9 w'=>∃(x9_kl3:Int),v9= .int .i64 x9_kl3∧qB (impl_itemOf.l0 kq a1 l0 (l0.length:Int) x9_kl3=some r)∧qB (kq≤k)∧qB (Below w.heap.size w w'))
 case atStart=>exact⟨(0),zr,⟨H⟩,⟨Nat.le_refl _⟩,⟨HB⟩⟩
 case round=>
  clear H HB
  obtain⟨x9_kl3,rfl,H,HKkl3,HB⟩:=hrel
  replace HB:=HB.out
  replace H:=H.out
  have HLkl3:=zz (Below.refl w.heap.size w)
  cases gk with
  |zero=>exact absurd H (by simp[impl_itemOf.l0])
  |succ kl3=>
   simp only[impl_itemOf.l0] at H
   by_cases c4:x9_kl3<(l0.length:Int)
   case neg=>
    rw[if_neg c4] at H
    have c4b0:=z0 c4
    clear c4
    obtain rfl:=zi H
    go_wp2_with(fail)
    go_ret
    exact⟨ze,zv HW.out HB⟩
   rw[if_pos c4] at H
   have c4b0:=z1 c4
   clear c4
   by_cases c5:0≤x9_kl3
   case neg=>exact zno H c5
   rw[if_pos c5] at H
   have c5b0:=z1 c5
   clear c5
   by_cases c6:x9_kl3<(l0.length:Int)
   case neg=>exact zno H c6
   rw[if_pos c6] at H
   have c6b0:=z1 c6
   clear c6
   have p658:0≤(x9_kl3:Int):=z2
   have q658:(x9_kl3:Int)<(l0.length:Int):=z2
   obtain⟨ad658,A658_2,c658_2,A658_4,c658_4,e658,hx658_0,hx658_1,hx658_2,hx658_3,hx658_4,hl658_2,hC658_2,hl658_4,hC658_4⟩:=at_T94 HR0.out x9_kl3 p658 q658
   cases e658
   replace hx658_0:=qR hx658_0
   replace hx658_1:=qR hx658_1
   replace hx658_2:=qR hx658_2
   replace hx658_3:=qR hx658_3
   replace hx658_4:=qR hx658_4
   have HR658_2:=zz hC658_2
   have HC658_2:=zz hl658_2
   clear hC658_2 hl658_2
   have HR658_4:=zz hC658_4
   have HC658_4:=zz hl658_4
   clear hC658_4 hl658_4
   replace p658:=eq_true p658
   replace q658:=eq_true q658
   by_cases c7:((qL l0 x9_kl3).f0).toList=a1.toList
   case neg=>
    rw[if_neg c7] at H
    obtain⟨c7b0,c7b1⟩:=zw c7
    go_wp2_with(first|(refine zN 6 ?_;(try(refine z4 ?_;dsimp only));refine zX 6 94 #[.string (⟨#[]⟩:ByteArray),.string (⟨#[]⟩:ByteArray),.slice none 0 0,.string (⟨#[]⟩:ByteArray),.slice none 0 0] ?_;intro gb659 hg w10 hbox hb;have hge:w.heap.size≤gb659:=(by rw[hg];exact qG HB);clear hg;have hst:Below w.heap.size w (((((w10.setCell ⟨gb659,0,none⟩ (.string ((qL l0 x9_kl3).f0))).setCell ⟨gb659,1,none⟩ (.string ((qL l0 x9_kl3).f1))).setCell ⟨gb659,2,none⟩ (.slice A658_2 ((qL l0 x9_kl3).f2).length c658_2)).setCell ⟨gb659,3,none⟩ (.string ((qL l0 x9_kl3).f3))).setCell ⟨gb659,4,none⟩ (.slice A658_4 ((qL l0 x9_kl3).f4).length c658_4)):=(qM (qM (qM (qM (qM (zv HB hb) hge) hge) hge) hge) hge);have hbx:(((((w10.setCell ⟨gb659,0,none⟩ (.string ((qL l0 x9_kl3).f0))).setCell ⟨gb659,1,none⟩ (.string ((qL l0 x9_kl3).f1))).setCell ⟨gb659,2,none⟩ (.slice A658_2 ((qL l0 x9_kl3).f2).length c658_2)).setCell ⟨gb659,3,none⟩ (.string ((qL l0 x9_kl3).f3))).setCell ⟨gb659,4,none⟩ (.slice A658_4 ((qL l0 x9_kl3).f4).length c658_4)).heap[gb659]?=some (.cells #[.string ((qL l0 x9_kl3).f0),.string ((qL l0 x9_kl3).f1),.slice A658_2 ((qL l0 x9_kl3).f2).length c658_2,.string ((qL l0 x9_kl3).f3),.slice A658_4 ((qL l0 x9_kl3).f4).length c658_4] 94 (0,0)):=(qP (cs:= #[.string ((qL l0 x9_kl3).f0),.string ((qL l0 x9_kl3).f1),.slice A658_2 ((qL l0 x9_kl3).f2).length c658_2,.string ((qL l0 x9_kl3).f3),.slice none 0 0]) (qP (cs:= #[.string ((qL l0 x9_kl3).f0),.string ((qL l0 x9_kl3).f1),.slice A658_2 ((qL l0 x9_kl3).f2).length c658_2,.string (⟨#[]⟩:ByteArray),.slice none 0 0]) (qP (cs:= #[.string ((qL l0 x9_kl3).f0),.string ((qL l0 x9_kl3).f1),.slice none 0 0,.string (⟨#[]⟩:ByteArray),.slice none 0 0]) (qP (cs:= #[.string ((qL l0 x9_kl3).f0),.string (⟨#[]⟩:ByteArray),.slice none 0 0,.string (⟨#[]⟩:ByteArray),.slice none 0 0]) (qP (cs:= #[.string (⟨#[]⟩:ByteArray),.string (⟨#[]⟩:ByteArray),.slice none 0 0,.string (⟨#[]⟩:ByteArray),.slice none 0 0]) hbox 0 _ rfl) 1 _ rfl) 2 _ rfl) 3 _ rfl) 4 _ rfl);obtain⟨hs659_0,hs659_1,hs659_2,hs659_3,hs659_4,hf659_0,hf659_1,hf659_2,hf659_3,hf659_4⟩:=zc5 hbox)|((with_reducible refine qY (t:=94) (p:=6) rfl ?_);(try(refine z4 ?_;dsimp only));refine qV (t:=94) (p:=6) (v:=?vo_w11) (w1:=(((((w10.setCell ⟨gb659,0,none⟩ (.string ((qL l0 x9_kl3).f0))).setCell ⟨gb659,1,none⟩ (.string ((qL l0 x9_kl3).f1))).setCell ⟨gb659,2,none⟩ (.slice A658_2 ((qL l0 x9_kl3).f2).length c658_2)).setCell ⟨gb659,3,none⟩ (.string ((qL l0 x9_kl3).f3))).setCell ⟨gb659,4,none⟩ (.slice A658_4 ((qL l0 x9_kl3).f4).length c658_4))) ?hg ?ho ?hn ?hr ?_;(case ho=>rfl);(case hg=>rfl);(case hn=>rfl);(case hr=>first|(go_simp;done)|(go_simp;rfl));intro w11 hw;replace hst:=hst;rw[←hw] at hst hbx;clear hw hb hbox hge HB hs659_0 hf659_0 hs659_1 hf659_1 hs659_2 hf659_2 hs659_3 hf659_3 hs659_4 hf659_4;replace HW:=zz (zv HW.out hst);replace HLkl3:=zz (zv HLkl3.out hst);replace HR0:=zz (Kd.qC HR0.out hst);replace HR658_2:=zz (Kd.qC HR658_2.out hst);replace HR658_4:=zz (Kd.qC HR658_4.out hst);replace hx658_0:=qH hx658_0 hst;replace hx658_1:=qH hx658_1 hst;replace hx658_2:=qH hx658_2 hst;replace hx658_3:=qH hx658_3 hst;replace hx658_4:=qH hx658_4 hst;obtain⟨hbx659_0,hbx659_1,hbx659_2,hbx659_3,hbx659_4⟩:=zx5 hbx;have HB:=Below.refl w11.heap.size w11;clear hbx hst))
    go_roundg kl3
    case measure=>have:=HKkl3.out;omega
    case rel=>exact⟨(wrap64 (x9_kl3+1)),zr,⟨H⟩,⟨by have:=HKkl3.out;omega⟩,⟨zv HLkl3.out HB⟩⟩
   rw[if_pos c7] at H
   obtain⟨c7b0,c7b1⟩:=zq c7
   clear c7
   obtain rfl:=zi H
   go_wp2_with(first|(refine zN 6 ?_;(try(refine z4 ?_;dsimp only));refine zX 6 94 #[.string (⟨#[]⟩:ByteArray),.string (⟨#[]⟩:ByteArray),.slice none 0 0,.string (⟨#[]⟩:ByteArray),.slice none 0 0] ?_;intro gb659 hg w8 hbox hb;have hge:w.heap.size≤gb659:=(by rw[hg];exact qG HB);clear hg;have hst:Below w.heap.size w (((((w8.setCell ⟨gb659,0,none⟩ (.string ((qL l0 x9_kl3).f0))).setCell ⟨gb659,1,none⟩ (.string ((qL l0 x9_kl3).f1))).setCell ⟨gb659,2,none⟩ (.slice A658_2 ((qL l0 x9_kl3).f2).length c658_2)).setCell ⟨gb659,3,none⟩ (.string ((qL l0 x9_kl3).f3))).setCell ⟨gb659,4,none⟩ (.slice A658_4 ((qL l0 x9_kl3).f4).length c658_4)):=(qM (qM (qM (qM (qM (zv HB hb) hge) hge) hge) hge) hge);have hbx:(((((w8.setCell ⟨gb659,0,none⟩ (.string ((qL l0 x9_kl3).f0))).setCell ⟨gb659,1,none⟩ (.string ((qL l0 x9_kl3).f1))).setCell ⟨gb659,2,none⟩ (.slice A658_2 ((qL l0 x9_kl3).f2).length c658_2)).setCell ⟨gb659,3,none⟩ (.string ((qL l0 x9_kl3).f3))).setCell ⟨gb659,4,none⟩ (.slice A658_4 ((qL l0 x9_kl3).f4).length c658_4)).heap[gb659]?=some (.cells #[.string ((qL l0 x9_kl3).f0),.string ((qL l0 x9_kl3).f1),.slice A658_2 ((qL l0 x9_kl3).f2).length c658_2,.string ((qL l0 x9_kl3).f3),.slice A658_4 ((qL l0 x9_kl3).f4).length c658_4] 94 (0,0)):=(qP (cs:= #[.string ((qL l0 x9_kl3).f0),.string ((qL l0 x9_kl3).f1),.slice A658_2 ((qL l0 x9_kl3).f2).length c658_2,.string ((qL l0 x9_kl3).f3),.slice none 0 0]) (qP (cs:= #[.string ((qL l0 x9_kl3).f0),.string ((qL l0 x9_kl3).f1),.slice A658_2 ((qL l0 x9_kl3).f2).length c658_2,.string (⟨#[]⟩:ByteArray),.slice none 0 0]) (qP (cs:= #[.string ((qL l0 x9_kl3).f0),.string ((qL l0 x9_kl3).f1),.slice none 0 0,.string (⟨#[]⟩:ByteArray),.slice none 0 0]) (qP (cs:= #[.string ((qL l0 x9_kl3).f0),.string (⟨#[]⟩:ByteArray),.slice none 0 0,.string (⟨#[]⟩:ByteArray),.slice none 0 0]) (qP (cs:= #[.string (⟨#[]⟩:ByteArray),.string (⟨#[]⟩:ByteArray),.slice none 0 0,.string (⟨#[]⟩:ByteArray),.slice none 0 0]) hbox 0 _ rfl) 1 _ rfl) 2 _ rfl) 3 _ rfl) 4 _ rfl);obtain⟨hs659_0,hs659_1,hs659_2,hs659_3,hs659_4,hf659_0,hf659_1,hf659_2,hf659_3,hf659_4⟩:=zc5 hbox)|((with_reducible refine qY (t:=94) (p:=6) rfl ?_);(try(refine z4 ?_;dsimp only));refine qV (t:=94) (p:=6) (v:=?vo_w9) (w1:=(((((w8.setCell ⟨gb659,0,none⟩ (.string ((qL l0 x9_kl3).f0))).setCell ⟨gb659,1,none⟩ (.string ((qL l0 x9_kl3).f1))).setCell ⟨gb659,2,none⟩ (.slice A658_2 ((qL l0 x9_kl3).f2).length c658_2)).setCell ⟨gb659,3,none⟩ (.string ((qL l0 x9_kl3).f3))).setCell ⟨gb659,4,none⟩ (.slice A658_4 ((qL l0 x9_kl3).f4).length c658_4))) ?hg ?ho ?hn ?hr ?_;(case ho=>rfl);(case hg=>rfl);(case hn=>rfl);(case hr=>first|(go_simp;done)|(go_simp;rfl));intro w9 hw;replace hst:=hst;rw[←hw] at hst hbx;clear hw hb hbox hge HB hs659_0 hf659_0 hs659_1 hf659_1 hs659_2 hf659_2 hs659_3 hf659_3 hs659_4 hf659_4;replace HW:=zz (zv HW.out hst);replace HLkl3:=zz (zv HLkl3.out hst);replace HR0:=zz (Kd.qC HR0.out hst);replace HR658_2:=zz (Kd.qC HR658_2.out hst);replace HR658_4:=zz (Kd.qC HR658_4.out hst);replace hx658_0:=qH hx658_0 hst;replace hx658_1:=qH hx658_1 hst;replace hx658_2:=qH hx658_2 hst;replace hx658_3:=qH hx658_3 hst;replace hx658_4:=qH hx658_4 hst;obtain⟨hbx659_0,hbx659_1,hbx659_2,hbx659_3,hbx659_4⟩:=zx5 hbx;have HB:=Below.refl w9.heap.size w9;clear hbx hst))
   go_ret
   exact⟨ze,zv HW.out HB⟩
mutual
def impl_WorldOk.l0:Nat→List (S61)→Int→Int→List (S94)→List (S67)→List (S61)→List (S64)→Option (Bool)
 |0,_,_,_,_,_,_,_=>none
 |k+1,x34,x35,x36,x661000,x661001,x661002,x661003=>if x36<x35 then(if 0≤x36 then(if x36<(x34.length:Int) then((impl_pendingOk.f k ((rd_T61 x34 x36).f0) ((rd_T61 x34 x36).f1) ((rd_T61 x34 x36).f2)).bind fun t665=>(if t665=true then(impl_WorldOk.l0 k x34 x35 (wrap64 (x36+1)) x661000 x661001 x661002 x661003) else(some false))) else(none)) else(none)) else(impl_WorldOk.l1 k x661003 (x661003.length:Int) 0 x661000 x661001 x661002 x661003)
def impl_WorldOk.l1:Nat→List (S64)→Int→Int→List (S94)→List (S67)→List (S61)→List (S64)→Option (Bool)
 |0,_,_,_,_,_,_,_=>none
 |k+1,x45,x46,x47,x661000,x661001,x661002,x661003=>if x47<x46 then(if 0≤x47 then(if x47<(x45.length:Int) then((impl_NameOk.f k ((rd_T64 x45 x47).f0)).bind fun t668=>(if t668=true then((impl_AddressOk.f k ((rd_T64 x45 x47).f1)).bind fun t669=>(if t669=true then(impl_WorldOk.l1 k x45 x46 (wrap64 (x47+1)) x661000 x661001 x661002 x661003) else(some false))) else(some false))) else(none)) else(none)) else(impl_WorldOk.l2 k x661001 (x661001.length:Int) 0 x661000 x661001 x661002 x661003)
def impl_WorldOk.l2:Nat→List (S67)→Int→Int→List (S94)→List (S67)→List (S61)→List (S64)→Option (Bool)
 |0,_,_,_,_,_,_,_=>none
 |k+1,x63,x64,x65,x661000,x661001,x661002,x661003=>if x65<x64 then(if 0≤x65 then(if x65<(x63.length:Int) then(impl_WorldOk.l3 k x63 x64 x65 ((qD x63 x65).f2) (((qD x63 x65).f2).length:Int) 0 x661000 x661001 x661002 x661003) else(none)) else(none)) else(some true)
def impl_WorldOk.l3:Nat→List (S67)→Int→Int→List (S70)→Int→Int→List (S94)→List (S67)→List (S61)→List (S64)→Option (Bool)
 |0,_,_,_,_,_,_,_,_,_,_=>none
 |k+1,x63,x64,x65,x70,x71,x72,x661000,x661001,x661002,x661003=>if x72<x71 then(if 0≤x72 then(if x72<(x70.length:Int) then((impl_itemOf.f k x661000 ((qN x70 x72).f1)).bind fun t674=>(if t674<0 then(some false) else(impl_WorldOk.l3 k x63 x64 x65 x70 x71 (wrap64 (x72+1)) x661000 x661001 x661002 x661003))) else(none)) else(none)) else(impl_WorldOk.l2 k x63 x64 (wrap64 (x65+1)) x661000 x661001 x661002 x661003)
end
def impl_WorldOk.f(k:Nat)(l0_0:List (S94))(l0_1:List (S67))(l0_2:List (S61))(l0_3:List (S64)):Option (Bool):=(impl_StoreOk.f k l0_0).bind fun t661=>(if t661=true then((impl_ProfilesOk.f k l0_1).bind fun t662=>(if t662=true then(if(l0_2.length:Int)>20 then(some false) else(if(l0_3.length:Int)>20 then(some false) else(impl_WorldOk.l0 k l0_2 (l0_2.length:Int) 0 l0_0 l0_1 l0_2 l0_3))) else(some false))) else(some false))
theorem impl_WorldOk.calls(k:Nat)(A0_0:Option Addr)(c0_0:Nat)(l0_0:List (S94))(A0_1:Option Addr)(c0_1:Nat)(l0_1:List (S67))(A0_2:Option Addr)(c0_2:Nat)(l0_2:List (S61))(A0_3:Option Addr)(c0_3:Nat)(l0_3:List (S64))(r:Bool)(w:World)(hr0_0:Kd.C k94 w A0_0 l0_0.length l0_0)(hc0_0:l0_0.length≤c0_0)(hr0_1:Kd.C k67 w A0_1 l0_1.length l0_1)(hc0_1:l0_1.length≤c0_1)(hr0_2:Kd.C k61 w A0_2 l0_2.length l0_2)(hc0_2:l0_2.length≤c0_2)(hr0_3:Kd.C k64 w A0_3 l0_3.length l0_3)(hc0_3:l0_3.length≤c0_3)(hG_:GOK w)(h:impl_WorldOk.f k l0_0 l0_1 l0_2 l0_3=some r):
 Calls Tryz.prog 10 #[.agg #[.slice A0_0 l0_0.length c0_0,.slice A0_1 l0_1.length c0_1,.slice A0_2 l0_2.length c0_2,.slice A0_3 l0_3.length c0_3]] w fun e w'=>e= .returned (.bool r)∧Below w.heap.size w w':=by
 have hu35:=Tryz.underlying35
 have hu61:=Tryz.underlying61
 have hu64:=Tryz.underlying64
 have hu67:=Tryz.underlying67
 have hu70:=Tryz.underlying70
 have HG:=zz hG_
 clear hG_
 have HR0_0:=zz hr0_0
 have HC0_0:=zz hc0_0
 clear hr0_0 hc0_0
 have HR0_1:=zz hr0_1
 have HC0_1:=zz hc0_1
 clear hr0_1 hc0_1
 have HR0_2:=zz hr0_2
 have HC0_2:=zz hc0_2
 clear hr0_2 hc0_2
 have HR0_3:=zz hr0_3
 have HC0_3:=zz hc0_3
 clear hr0_3 hc0_3
 have HB:=zz (Below.refl w.heap.size w)
 unfold impl_WorldOk.f at h
 have H:=h
 clear h
 replace HB:=HB.out
 have HW:=zz (Below.refl w.heap.size w)
 go_enter Tryz.func10,Tryz.ntmps10
 replace H:=zf H
 obtain⟨t661,A2,H⟩:=H
 try dsimp only at H
 replace A2:=zz A2
 go_wp2_with(first|(refine zN 1 ?_;(try(refine z4 ?_;dsimp only));refine zX 1 35 #[.slice A0_0 l0_0.length c0_0,.slice A0_1 l0_1.length c0_1,.slice A0_2 l0_2.length c0_2,.slice A0_3 l0_3.length c0_3] ?_;intro gb660 hg w5 hbox hb;have hst:=zv HB hb;clear hg hb HB;replace HW:=zz (zv HW.out hst);replace HR0_0:=zz (Kd.qC HR0_0.out hst);replace HR0_1:=zz (Kd.qC HR0_1.out hst);replace HR0_2:=zz (Kd.qC HR0_2.out hst);replace HR0_3:=zz (Kd.qC HR0_3.out hst);obtain⟨hbx660_0,hbx660_1,hbx660_2,hbx660_3⟩:=zx4 hbox;have HB:=Below.refl w5.heap.size w5;clear hbox hst))
 refine(impl_StoreOk.calls k _ _ _ _ _ (Kd.qC HR0_0.out HB) HC0_0.out (GOK.below HG.out (zv HW.out HB)) A2.out).mono ?_
 rintro e w6 ⟨rfl,hb⟩
 replace HB:=zv HB hb
 clear hb
 by_cases c3:t661=true
 case neg=>
  replace c3:=Bool.eq_false_iff.mpr c3
  subst c3
  rw[if_neg (by decide)] at H
  obtain rfl:=zi H
  go_wp2_with(fail)
  go_ret
  exact⟨ze,zv HW.out HB⟩
 subst c3
 rw[if_pos rfl] at H
 replace H:=zf H
 obtain⟨t662,A7,H⟩:=H
 try dsimp only at H
 replace A7:=zz A7
 by_cases c8:t662=true
 case neg=>
  replace c8:=Bool.eq_false_iff.mpr c8
  subst c8
  rw[if_neg (by decide)] at H
  go_wp2_with(fail)
  refine(impl_ProfilesOk.calls k _ _ _ _ _ (Kd.qC HR0_1.out HB) HC0_1.out A7.out).mono ?_
  rintro e w68 ⟨rfl,hb⟩
  replace HB:=zv HB hb
  clear hb
  obtain rfl:=zi H
  go_wp2_with(fail)
  go_ret
  exact⟨ze,zv HW.out HB⟩
 subst c8
 rw[if_pos rfl] at H
 by_cases c9:(l0_2.length:Int)>20
 ·rw[if_pos c9] at H
  have c9b0:=zgt c9
  have c9b1:decide (20<l0_2.length)=true:=z1 (by omega)
  clear c9
  go_wp2_with(fail)
  refine(impl_ProfilesOk.calls k _ _ _ _ _ (Kd.qC HR0_1.out HB) HC0_1.out A7.out).mono ?_
  rintro e w11 ⟨rfl,hb⟩
  replace HB:=zv HB hb
  clear hb
  obtain rfl:=zi H
  go_wp2_with(fail)
  go_ret
  exact⟨ze,zv HW.out HB⟩
 rw[if_neg c9] at H
 have c9b0:=zgtn c9
 have c9b1:decide (20<l0_2.length)=false:=z0 (by omega)
 clear c9
 by_cases c12:(l0_3.length:Int)>20
 ·rw[if_pos c12] at H
  have c12b0:=zgt c12
  have c12b1:decide (20<l0_3.length)=true:=z1 (by omega)
  clear c12
  go_wp2_with(fail)
  refine(impl_ProfilesOk.calls k _ _ _ _ _ (Kd.qC HR0_1.out HB) HC0_1.out A7.out).mono ?_
  rintro e w14 ⟨rfl,hb⟩
  replace HB:=zv HB hb
  clear hb
  obtain rfl:=zi H
  go_wp2_with(fail)
  go_ret
  exact⟨ze,zv HW.out HB⟩
 rw[if_neg c12] at H
 have c12b0:=zgtn c12
 have c12b1:decide (20<l0_3.length)=false:=z0 (by omega)
 clear c12
 go_wp2_with(fail)
 refine(impl_ProfilesOk.calls k _ _ _ _ _ (Kd.qC HR0_1.out HB) HC0_1.out A7.out).mono ?_
 rintro e w16 ⟨rfl,hb⟩
 replace HB:=zv HB hb
 clear hb
 go_wp2_with(fail)
 go_loopg[36] k (fun kq v36 w'=>∃(x36_kl17:Int),v36= .int .i64 x36_kl17∧qB (impl_WorldOk.l0 kq l0_2 (l0_2.length:Int) x36_kl17 l0_0 l0_1 l0_2 l0_3=some r)∧qB (kq≤k)∧qB (Below w5.heap.size w5 w'))
 case atStart=>exact⟨(0),zr,⟨H⟩,⟨Nat.le_refl _⟩,⟨HB⟩⟩
 case round=>
  clear H HB
  obtain⟨x36_kl17,rfl,H,HKkl17,HB⟩:=hrel
  replace HB:=HB.out
  replace H:=H.out
  have HLkl17:=zz (Below.refl w5.heap.size w5)
  cases gk with
  |zero=>exact absurd H (by simp[impl_WorldOk.l0])
  |succ kl17=>
   simp only[impl_WorldOk.l0] at H
   by_cases c18:x36_kl17<(l0_2.length:Int)
   ·rw[if_pos c18] at H
    have c18b0:=z1 c18
    clear c18
    by_cases c19:0≤x36_kl17
    case neg=>exact zno H c19
    rw[if_pos c19] at H
    have c19b0:=z1 c19
    clear c19
    by_cases c20:x36_kl17<(l0_2.length:Int)
    case neg=>exact zno H c20
    rw[if_pos c20] at H
    have c20b0:=z1 c20
    clear c20
    have p663:0≤(x36_kl17:Int):=z2
    have q663:(x36_kl17:Int)<(l0_2.length:Int):=z2
    obtain⟨ad663,A663_1,c663_1,e663,hx663_0,hx663_1,hx663_2,hl663_1,hC663_1⟩:=at_T61 HR0_2.out x36_kl17 p663 q663
    cases e663
    replace hx663_0:=qR hx663_0
    replace hx663_1:=qR hx663_1
    replace hx663_2:=qR hx663_2
    have HR663_1:=zz hC663_1
    have HC663_1:=zz hl663_1
    clear hC663_1 hl663_1
    replace p663:=eq_true p663
    replace q663:=eq_true q663
    replace H:=zf H
    obtain⟨t665,A21,H⟩:=H
    try dsimp only at H
    replace A21:=zz A21
    go_wp2_with(first|(refine zN 4 ?_;(try(refine z4 ?_;dsimp only));refine zX 4 61 #[.string (⟨#[]⟩:ByteArray),.slice none 0 0,.string (⟨#[]⟩:ByteArray)] ?_;intro gb664 hg w24 hbox hb;have hge:w5.heap.size≤gb664:=(by rw[hg];exact qG HB);clear hg;have hst:Below w5.heap.size w5 (((w24.setCell ⟨gb664,0,none⟩ (.string ((rd_T61 l0_2 x36_kl17).f0))).setCell ⟨gb664,1,none⟩ (.slice A663_1 ((rd_T61 l0_2 x36_kl17).f1).length c663_1)).setCell ⟨gb664,2,none⟩ (.string ((rd_T61 l0_2 x36_kl17).f2))):=(qM (qM (qM (zv HB hb) hge) hge) hge);have hbx:(((w24.setCell ⟨gb664,0,none⟩ (.string ((rd_T61 l0_2 x36_kl17).f0))).setCell ⟨gb664,1,none⟩ (.slice A663_1 ((rd_T61 l0_2 x36_kl17).f1).length c663_1)).setCell ⟨gb664,2,none⟩ (.string ((rd_T61 l0_2 x36_kl17).f2))).heap[gb664]?=some (.cells #[.string ((rd_T61 l0_2 x36_kl17).f0),.slice A663_1 ((rd_T61 l0_2 x36_kl17).f1).length c663_1,.string ((rd_T61 l0_2 x36_kl17).f2)] 61 (0,0)):=(qP (cs:= #[.string ((rd_T61 l0_2 x36_kl17).f0),.slice A663_1 ((rd_T61 l0_2 x36_kl17).f1).length c663_1,.string (⟨#[]⟩:ByteArray)]) (qP (cs:= #[.string ((rd_T61 l0_2 x36_kl17).f0),.slice none 0 0,.string (⟨#[]⟩:ByteArray)]) (qP (cs:= #[.string (⟨#[]⟩:ByteArray),.slice none 0 0,.string (⟨#[]⟩:ByteArray)]) hbox 0 _ rfl) 1 _ rfl) 2 _ rfl);obtain⟨hs664_0,hs664_1,hs664_2,hf664_0,hf664_1,hf664_2⟩:=zc3 hbox)|((with_reducible refine qY (t:=61) (p:=4) rfl ?_);(try(refine z4 ?_;dsimp only));refine qV (t:=61) (p:=4) (v:=?vo_w25) (w1:=(((w24.setCell ⟨gb664,0,none⟩ (.string ((rd_T61 l0_2 x36_kl17).f0))).setCell ⟨gb664,1,none⟩ (.slice A663_1 ((rd_T61 l0_2 x36_kl17).f1).length c663_1)).setCell ⟨gb664,2,none⟩ (.string ((rd_T61 l0_2 x36_kl17).f2)))) ?hg ?ho ?hn ?hr ?_;(case ho=>rfl);(case hg=>rfl);(case hn=>rfl);(case hr=>first|(go_simp;done)|(go_simp;rfl));intro w25 hw;replace hst:=hst;rw[←hw] at hst hbx;clear hw hb hbox hge HB hs664_0 hf664_0 hs664_1 hf664_1 hs664_2 hf664_2;replace HW:=zz (zv HW.out hst);replace HLkl17:=zz (zv HLkl17.out hst);replace HR0_0:=zz (Kd.qC HR0_0.out hst);replace HR0_1:=zz (Kd.qC HR0_1.out hst);replace HR0_2:=zz (Kd.qC HR0_2.out hst);replace HR0_3:=zz (Kd.qC HR0_3.out hst);replace HR663_1:=zz (Kd.qC HR663_1.out hst);replace hbx660_0:=qH hbx660_0 hst;replace hbx660_1:=qH hbx660_1 hst;replace hbx660_2:=qH hbx660_2 hst;replace hbx660_3:=qH hbx660_3 hst;replace hx663_0:=qH hx663_0 hst;replace hx663_1:=qH hx663_1 hst;replace hx663_2:=qH hx663_2 hst;obtain⟨hbx664_0,hbx664_1,hbx664_2⟩:=zx3 hbx;have HB:=Below.refl w25.heap.size w25;clear hbx hst))
    refine(impl_pendingOk.calls kl17 _ _ _ _ _ _ _ (Kd.qC HR663_1.out HB) HC663_1.out (GOK.below HG.out (zv HW.out HB)) A21.out).mono ?_
    rintro e w26 ⟨rfl,hb⟩
    replace HB:=zv HB hb
    clear hb
    by_cases c22:t665=true
    ·subst c22
     rw[if_pos rfl] at H
     go_wp2_with(fail)
     go_roundg kl17
     case measure=>have:=HKkl17.out;omega
     case rel=>exact⟨(wrap64 (x36_kl17+1)),zr,⟨H⟩,⟨by have:=HKkl17.out;omega⟩,⟨zv HLkl17.out HB⟩⟩
    replace c22:=Bool.eq_false_iff.mpr c22
    subst c22
    rw[if_neg (by decide)] at H
    obtain rfl:=zi H
    go_wp2_with(fail)
    go_ret
    exact⟨ze,zv HW.out HB⟩
   rw[if_neg c18] at H
   have c18b0:=z0 c18
   clear c18
   go_wp2_with(fail)
   go_loopg[47] kl17 (fun kq v47 w'=>∃(x47_kl31:Int),v47= .int .i64 x47_kl31∧qB (impl_WorldOk.l1 kq l0_3 (l0_3.length:Int) x47_kl31 l0_0 l0_1 l0_2 l0_3=some r)∧qB (kq≤kl17)∧qB (Below w5.heap.size w5 w'))
   case atStart=>exact⟨(0),zr,⟨H⟩,⟨Nat.le_refl _⟩,⟨HB⟩⟩
   case round=>
    clear H HB
    obtain⟨x47_kl31,rfl,H,HKkl31,HB⟩:=hrel
    replace HB:=HB.out
    replace H:=H.out
    have HLkl31:=zz (Below.refl w5.heap.size w5)
    cases gk with
    |zero=>exact absurd H (by simp[impl_WorldOk.l1])
    |succ kl31=>
     simp only[impl_WorldOk.l1] at H
     by_cases c32:x47_kl31<(l0_3.length:Int)
     ·rw[if_pos c32] at H
      have c32b0:=z1 c32
      clear c32
      by_cases c33:0≤x47_kl31
      case neg=>exact zno H c33
      rw[if_pos c33] at H
      have c33b0:=z1 c33
      clear c33
      by_cases c34:x47_kl31<(l0_3.length:Int)
      case neg=>exact zno H c34
      rw[if_pos c34] at H
      have c34b0:=z1 c34
      clear c34
      have p666:0≤(x47_kl31:Int):=z2
      have q666:(x47_kl31:Int)<(l0_3.length:Int):=z2
      obtain⟨ad666,e666,hx666_0,hx666_1⟩:=at_T64 HR0_3.out x47_kl31 p666 q666
      cases e666
      replace hx666_0:=qR hx666_0
      replace hx666_1:=qR hx666_1
      replace p666:=eq_true p666
      replace q666:=eq_true q666
      replace H:=zf H
      obtain⟨t668,A35,H⟩:=H
      try dsimp only at H
      replace A35:=zz A35
      go_wp2_with(first|(refine zN 6 ?_;(try(refine z4 ?_;dsimp only));refine zX 6 64 #[.string (⟨#[]⟩:ByteArray),.string (⟨#[]⟩:ByteArray)] ?_;intro gb667 hg w37 hbox hb;have hge:w5.heap.size≤gb667:=(by rw[hg];exact qG HB);clear hg;have hst:Below w5.heap.size w5 ((w37.setCell ⟨gb667,0,none⟩ (.string ((rd_T64 l0_3 x47_kl31).f0))).setCell ⟨gb667,1,none⟩ (.string ((rd_T64 l0_3 x47_kl31).f1))):=(qM (qM (zv HB hb) hge) hge);have hbx:((w37.setCell ⟨gb667,0,none⟩ (.string ((rd_T64 l0_3 x47_kl31).f0))).setCell ⟨gb667,1,none⟩ (.string ((rd_T64 l0_3 x47_kl31).f1))).heap[gb667]?=some (.cells #[.string ((rd_T64 l0_3 x47_kl31).f0),.string ((rd_T64 l0_3 x47_kl31).f1)] 64 (0,0)):=(qP (cs:= #[.string ((rd_T64 l0_3 x47_kl31).f0),.string (⟨#[]⟩:ByteArray)]) (qP (cs:= #[.string (⟨#[]⟩:ByteArray),.string (⟨#[]⟩:ByteArray)]) hbox 0 _ rfl) 1 _ rfl);obtain⟨hs667_0,hs667_1,hf667_0,hf667_1⟩:=zc2 hbox)|((with_reducible refine qY (t:=64) (p:=6) rfl ?_);(try(refine z4 ?_;dsimp only));refine qV (t:=64) (p:=6) (v:=?vo_w38) (w1:=((w37.setCell ⟨gb667,0,none⟩ (.string ((rd_T64 l0_3 x47_kl31).f0))).setCell ⟨gb667,1,none⟩ (.string ((rd_T64 l0_3 x47_kl31).f1)))) ?hg ?ho ?hn ?hr ?_;(case ho=>rfl);(case hg=>rfl);(case hn=>rfl);(case hr=>first|(go_simp;done)|(go_simp;rfl));intro w38 hw;replace hst:=hst;rw[←hw] at hst hbx;clear hw hb hbox hge HB hs667_0 hf667_0 hs667_1 hf667_1;replace HW:=zz (zv HW.out hst);replace HLkl17:=zz (zv HLkl17.out hst);replace HLkl31:=zz (zv HLkl31.out hst);replace HR0_0:=zz (Kd.qC HR0_0.out hst);replace HR0_1:=zz (Kd.qC HR0_1.out hst);replace HR0_2:=zz (Kd.qC HR0_2.out hst);replace HR0_3:=zz (Kd.qC HR0_3.out hst);replace hbx660_0:=qH hbx660_0 hst;replace hbx660_1:=qH hbx660_1 hst;replace hbx660_2:=qH hbx660_2 hst;replace hbx660_3:=qH hbx660_3 hst;replace hx666_0:=qH hx666_0 hst;replace hx666_1:=qH hx666_1 hst;obtain⟨hbx667_0,hbx667_1⟩:=zx2 hbx;have HB:=Below.refl w38.heap.size w38;clear hbx hst))
      refine(impl_NameOk.calls kl31 _ _ _ A35.out).mono ?_
      rintro e w39 ⟨rfl,hd⟩
      replace HB:=zv HB hd.below
      clear hd
      by_cases c36:t668=true
      case neg=>
       replace c36:=Bool.eq_false_iff.mpr c36
       subst c36
       rw[if_neg (by decide)] at H
       obtain rfl:=zi H
       go_wp2_with(fail)
       go_ret
       exact⟨ze,zv HW.out HB⟩
      subst c36
      rw[if_pos rfl] at H
      replace H:=zf H
      obtain⟨t669,A40,H⟩:=H
      try dsimp only at H
      replace A40:=zz A40
      by_cases c41:t669=true
      ·subst c41
       rw[if_pos rfl] at H
       go_wp2_with(fail)
       refine(impl_AddressOk.calls kl31 _ _ _ A40.out).mono ?_
       rintro e w42 ⟨rfl,hd⟩
       replace HB:=zv HB hd.below
       clear hd
       go_wp2_with(fail)
       go_roundg kl31
       case measure=>have:=HKkl17.out;have:=HKkl31.out;omega
       case rel=>exact⟨(wrap64 (x47_kl31+1)),zr,⟨H⟩,⟨by have:=HKkl17.out;have:=HKkl31.out;omega⟩,⟨zv HLkl31.out HB⟩⟩
      replace c41:=Bool.eq_false_iff.mpr c41
      subst c41
      rw[if_neg (by decide)] at H
      go_wp2_with(fail)
      refine(impl_AddressOk.calls kl31 _ _ _ A40.out).mono ?_
      rintro e w43 ⟨rfl,hd⟩
      replace HB:=zv HB hd.below
      clear hd
      obtain rfl:=zi H
      go_wp2_with(fail)
      go_ret
      exact⟨ze,zv HW.out HB⟩
     rw[if_neg c32] at H
     have c32b0:=z0 c32
     clear c32
     go_wp2_with(fail)
     go_loopg[65] kl31 (fun kq v65 w'=>∃(x65_kl47:Int),v65= .int .i64 x65_kl47∧qB (impl_WorldOk.l2 kq l0_1 (l0_1.length:Int) x65_kl47 l0_0 l0_1 l0_2 l0_3=some r)∧qB (kq≤kl31)∧qB (Below w5.heap.size w5 w'))
     case atStart=>exact⟨(0),zr,⟨H⟩,⟨Nat.le_refl _⟩,⟨HB⟩⟩
     case round=>
      clear H HB
      obtain⟨x65_kl47,rfl,H,HKkl47,HB⟩:=hrel
      replace HB:=HB.out
      replace H:=H.out
      have HLkl47:=zz (Below.refl w5.heap.size w5)
      cases gk with
      |zero=>exact absurd H (by simp[impl_WorldOk.l2])
      |succ kl47=>
       simp only[impl_WorldOk.l2] at H
       by_cases c48:x65_kl47<(l0_1.length:Int)
       case neg=>
        rw[if_neg c48] at H
        have c48b0:=z0 c48
        clear c48
        obtain rfl:=zi H
        go_wp2_with(fail)
        go_ret
        exact⟨ze,zv HW.out HB⟩
       rw[if_pos c48] at H
       have c48b0:=z1 c48
       clear c48
       by_cases c49:0≤x65_kl47
       case neg=>exact zno H c49
       rw[if_pos c49] at H
       have c49b0:=z1 c49
       clear c49
       by_cases c50:x65_kl47<(l0_1.length:Int)
       case neg=>exact zno H c50
       rw[if_pos c50] at H
       have c50b0:=z1 c50
       clear c50
       have p670:0≤(x65_kl47:Int):=z2
       have q670:(x65_kl47:Int)<(l0_1.length:Int):=z2
       obtain⟨ad670,A670_2,c670_2,e670,hx670_0,hx670_1,hx670_2,hl670_2,hC670_2⟩:=at_T67 HR0_1.out x65_kl47 p670 q670
       cases e670
       replace hx670_0:=qR hx670_0
       replace hx670_1:=qR hx670_1
       replace hx670_2:=qR hx670_2
       have HR670_2:=zz hC670_2
       have HC670_2:=zz hl670_2
       clear hC670_2 hl670_2
       replace p670:=eq_true p670
       replace q670:=eq_true q670
       go_wp2_with(first|(refine zN 8 ?_;(try(refine z4 ?_;dsimp only));refine zX 8 67 #[.string (⟨#[]⟩:ByteArray),.int .i64 0,.slice none 0 0] ?_;intro gb671 hg w52 hbox hb;have hge:w5.heap.size≤gb671:=(by rw[hg];exact qG HB);clear hg;have hst:Below w5.heap.size w5 (((w52.setCell ⟨gb671,0,none⟩ (.string ((qD l0_1 x65_kl47).f0))).setCell ⟨gb671,1,none⟩ (.int .i64 ((qD l0_1 x65_kl47).f1))).setCell ⟨gb671,2,none⟩ (.slice A670_2 ((qD l0_1 x65_kl47).f2).length c670_2)):=(qM (qM (qM (zv HB hb) hge) hge) hge);have hbx:(((w52.setCell ⟨gb671,0,none⟩ (.string ((qD l0_1 x65_kl47).f0))).setCell ⟨gb671,1,none⟩ (.int .i64 ((qD l0_1 x65_kl47).f1))).setCell ⟨gb671,2,none⟩ (.slice A670_2 ((qD l0_1 x65_kl47).f2).length c670_2)).heap[gb671]?=some (.cells #[.string ((qD l0_1 x65_kl47).f0),.int .i64 ((qD l0_1 x65_kl47).f1),.slice A670_2 ((qD l0_1 x65_kl47).f2).length c670_2] 67 (0,0)):=(qP (cs:= #[.string ((qD l0_1 x65_kl47).f0),.int .i64 ((qD l0_1 x65_kl47).f1),.slice none 0 0]) (qP (cs:= #[.string ((qD l0_1 x65_kl47).f0),.int .i64 0,.slice none 0 0]) (qP (cs:= #[.string (⟨#[]⟩:ByteArray),.int .i64 0,.slice none 0 0]) hbox 0 _ rfl) 1 _ rfl) 2 _ rfl);obtain⟨hs671_0,hs671_1,hs671_2,hf671_0,hf671_1,hf671_2⟩:=zc3 hbox)|((with_reducible refine qY (t:=67) (p:=8) rfl ?_);(try(refine z4 ?_;dsimp only));refine qV (t:=67) (p:=8) (v:=?vo_w53) (w1:=(((w52.setCell ⟨gb671,0,none⟩ (.string ((qD l0_1 x65_kl47).f0))).setCell ⟨gb671,1,none⟩ (.int .i64 ((qD l0_1 x65_kl47).f1))).setCell ⟨gb671,2,none⟩ (.slice A670_2 ((qD l0_1 x65_kl47).f2).length c670_2))) ?hg ?ho ?hn ?hr ?_;(case ho=>rfl);(case hg=>rfl);(case hn=>rfl);(case hr=>first|(go_simp;done)|(go_simp;rfl));intro w53 hw;replace hst:=hst;rw[←hw] at hst hbx;clear hw hb hbox hge HB hs671_0 hf671_0 hs671_1 hf671_1 hs671_2 hf671_2;replace HW:=zz (zv HW.out hst);replace HLkl17:=zz (zv HLkl17.out hst);replace HLkl31:=zz (zv HLkl31.out hst);replace HLkl47:=zz (zv HLkl47.out hst);replace HR0_0:=zz (Kd.qC HR0_0.out hst);replace HR0_1:=zz (Kd.qC HR0_1.out hst);replace HR0_2:=zz (Kd.qC HR0_2.out hst);replace HR0_3:=zz (Kd.qC HR0_3.out hst);replace HR670_2:=zz (Kd.qC HR670_2.out hst);replace hbx660_0:=qH hbx660_0 hst;replace hbx660_1:=qH hbx660_1 hst;replace hbx660_2:=qH hbx660_2 hst;replace hbx660_3:=qH hbx660_3 hst;replace hx670_0:=qH hx670_0 hst;replace hx670_1:=qH hx670_1 hst;replace hx670_2:=qH hx670_2 hst;obtain⟨hbx671_0,hbx671_1,hbx671_2⟩:=zx3 hbx;have HB:=Below.refl w53.heap.size w53;clear hbx hst))
       go_loopg[72] kl47 (fun kq v72 w'=>∃(x72_kl51:Int),v72= .int .i64 x72_kl51∧qB (impl_WorldOk.l3 kq l0_1 (l0_1.length:Int) x65_kl47 ((qD l0_1 x65_kl47).f2) (((qD l0_1 x65_kl47).f2).length:Int) x72_kl51 l0_0 l0_1 l0_2 l0_3=some r)∧qB (kq≤kl47)∧qB (Below w53.heap.size w53 w'))
       case atStart=>exact⟨(0),zr,⟨H⟩,⟨Nat.le_refl _⟩,⟨HB⟩⟩
       case round=>
        clear H HB
        obtain⟨x72_kl51,rfl,H,HKkl51,HB⟩:=hrel
        replace HB:=HB.out
        replace H:=H.out
        have HLkl51:=zz (Below.refl w53.heap.size w53)
        cases gk with
        |zero=>exact absurd H (by simp[impl_WorldOk.l3])
        |succ kl51=>
         simp only[impl_WorldOk.l3] at H
         by_cases c54:x72_kl51<(((qD l0_1 x65_kl47).f2).length:Int)
         case neg=>
          rw[if_neg c54] at H
          have c54b0:=z0 c54
          clear c54
          go_wp2_with(fail)
          go_roundg kl51
          case measure=>have:=HKkl17.out;have:=HKkl31.out;have:=HKkl47.out;have:=HKkl51.out;omega
          case rel=>exact⟨(wrap64 (x65_kl47+1)),zr,⟨H⟩,⟨by have:=HKkl17.out;have:=HKkl31.out;have:=HKkl47.out;have:=HKkl51.out;omega⟩,⟨zv HLkl47.out HB⟩⟩
         rw[if_pos c54] at H
         have c54b0:=z1 c54
         clear c54
         by_cases c55:0≤x72_kl51
         case neg=>exact zno H c55
         rw[if_pos c55] at H
         have c55b0:=z1 c55
         clear c55
         by_cases c56:x72_kl51<(((qD l0_1 x65_kl47).f2).length:Int)
         case neg=>exact zno H c56
         rw[if_pos c56] at H
         have c56b0:=z1 c56
         clear c56
         have p672:0≤(x72_kl51:Int):=z2
         have q672:(x72_kl51:Int)<(((qD l0_1 x65_kl47).f2).length:Int):=z2
         obtain⟨ad672,e672,hx672_0,hx672_1⟩:=at_T70 HR670_2.out x72_kl51 p672 q672
         cases e672
         replace hx672_0:=qR hx672_0
         replace hx672_1:=qR hx672_1
         replace p672:=eq_true p672
         replace q672:=eq_true q672
         replace H:=zf H
         obtain⟨t674,A57,H⟩:=H
         try dsimp only at H
         replace A57:=zz A57
         go_wp2_with(first|(refine zN 10 ?_;(try(refine z4 ?_;dsimp only));refine zX 10 70 #[.int .i64 0,.string (⟨#[]⟩:ByteArray)] ?_;intro gb673 hg w60 hbox hb;have hge:w53.heap.size≤gb673:=(by rw[hg];exact qG HB);clear hg;have hst:Below w53.heap.size w53 ((w60.setCell ⟨gb673,0,none⟩ (.int .i64 ((qN ((qD l0_1 x65_kl47).f2) x72_kl51).f0))).setCell ⟨gb673,1,none⟩ (.string ((qN ((qD l0_1 x65_kl47).f2) x72_kl51).f1))):=(qM (qM (zv HB hb) hge) hge);have hbx:((w60.setCell ⟨gb673,0,none⟩ (.int .i64 ((qN ((qD l0_1 x65_kl47).f2) x72_kl51).f0))).setCell ⟨gb673,1,none⟩ (.string ((qN ((qD l0_1 x65_kl47).f2) x72_kl51).f1))).heap[gb673]?=some (.cells #[.int .i64 ((qN ((qD l0_1 x65_kl47).f2) x72_kl51).f0),.string ((qN ((qD l0_1 x65_kl47).f2) x72_kl51).f1)] 70 (0,0)):=(qP (cs:= #[.int .i64 ((qN ((qD l0_1 x65_kl47).f2) x72_kl51).f0),.string (⟨#[]⟩:ByteArray)]) (qP (cs:= #[.int .i64 0,.string (⟨#[]⟩:ByteArray)]) hbox 0 _ rfl) 1 _ rfl);obtain⟨hs673_0,hs673_1,hf673_0,hf673_1⟩:=zc2 hbox)|((with_reducible refine qY (t:=70) (p:=10) rfl ?_);(try(refine z4 ?_;dsimp only));refine qV (t:=70) (p:=10) (v:=?vo_w61) (w1:=((w60.setCell ⟨gb673,0,none⟩ (.int .i64 ((qN ((qD l0_1 x65_kl47).f2) x72_kl51).f0))).setCell ⟨gb673,1,none⟩ (.string ((qN ((qD l0_1 x65_kl47).f2) x72_kl51).f1)))) ?hg ?ho ?hn ?hr ?_;(case ho=>rfl);(case hg=>rfl);(case hn=>rfl);(case hr=>first|(go_simp;done)|(go_simp;rfl));intro w61 hw;replace hst:=hst;rw[←hw] at hst hbx;clear hw hb hbox hge HB hs673_0 hf673_0 hs673_1 hf673_1;replace HW:=zz (zv HW.out hst);replace HLkl17:=zz (zv HLkl17.out hst);replace HLkl31:=zz (zv HLkl31.out hst);replace HLkl47:=zz (zv HLkl47.out hst);replace HLkl51:=zz (zv HLkl51.out hst);replace HR0_0:=zz (Kd.qC HR0_0.out hst);replace HR0_1:=zz (Kd.qC HR0_1.out hst);replace HR0_2:=zz (Kd.qC HR0_2.out hst);replace HR0_3:=zz (Kd.qC HR0_3.out hst);replace HR670_2:=zz (Kd.qC HR670_2.out hst);replace hbx660_0:=qH hbx660_0 hst;replace hbx660_1:=qH hbx660_1 hst;replace hbx660_2:=qH hbx660_2 hst;replace hbx660_3:=qH hbx660_3 hst;replace hx670_0:=qH hx670_0 hst;replace hx670_1:=qH hx670_1 hst;replace hx670_2:=qH hx670_2 hst;replace hbx671_0:=qH hbx671_0 hst;replace hbx671_1:=qH hbx671_1 hst;replace hbx671_2:=qH hbx671_2 hst;replace hx672_0:=qH hx672_0 hst;replace hx672_1:=qH hx672_1 hst;obtain⟨hbx673_0,hbx673_1⟩:=zx2 hbx;have HB:=Below.refl w61.heap.size w61;clear hbx hst))
         refine(impl_itemOf.calls kl51 _ _ _ _ _ _ (Kd.qC HR0_0.out HB) HC0_0.out A57.out).mono ?_
         rintro e w62 ⟨rfl,hb⟩
         replace HB:=zv HB hb
         clear hb
         by_cases c58:t674<0
         ·rw[if_pos c58] at H
          have c58b0:=z1 c58
          clear c58
          obtain rfl:=zi H
          go_wp2_with(fail)
          go_ret
          exact⟨ze,zv HW.out HB⟩
         rw[if_neg c58] at H
         have c58b0:=z0 c58
         clear c58
         go_wp2_with(fail)
         go_roundg kl51
         case measure=>have:=HKkl17.out;have:=HKkl31.out;have:=HKkl47.out;have:=HKkl51.out;omega
         case rel=>exact⟨(wrap64 (x72_kl51+1)),zr,⟨H⟩,⟨by have:=HKkl17.out;have:=HKkl31.out;have:=HKkl47.out;have:=HKkl51.out;omega⟩,⟨zv HLkl51.out HB⟩⟩
def spec_l19Item.f(k:Nat)(a0:ByteArray)(l1:List (S96))(a2:ByteArray):Option (Bool):=(spec_AddressOk.f k a0).bind fun t462=>(if t462=true then((spec_TreeOk.f k l1).bind fun t463=>(if t463=true then(if a2.toList=([]:List UInt8) then(some true) else((spec_AddressOk.f k a2).bind fun t464=>(some t464))) else(some false))) else(some false))
theorem spec_l19Item.calls(k:Nat)(a0:ByteArray)(A1:Option Addr)(c1:Nat)(l1:List (S96))(a2:ByteArray)(r:Bool)(w:World)(hr1:Kd.C k96 w A1 l1.length l1)(hc1:l1.length≤c1)(h:spec_l19Item.f k a0 l1 a2=some r):
 Calls Tryz.prog 34 #[.string a0,.slice A1 l1.length c1,.string a2] w fun e w'=>e= .returned (.bool r)∧Below w.heap.size w w':=by
 have HR1:=zz hr1
 have HC1:=zz hc1
 clear hr1 hc1
 have HB:=zz (Below.refl w.heap.size w)
 unfold spec_l19Item.f at h
 have H:=h
 clear h
 replace HB:=HB.out
 have HW:=zz (Below.refl w.heap.size w)
 go_enter Tryz.func34,Tryz.ntmps34
 replace H:=zf H
 obtain⟨t462,A4,H⟩:=H
 try dsimp only at H
 replace A4:=zz A4
 by_cases c5:t462=true
 case neg=>
  replace c5:=Bool.eq_false_iff.mpr c5
  subst c5
  rw[if_neg (by decide)] at H
  go_wp2_with(fail)
  refine(spec_AddressOk.calls k _ _ _ A4.out).mono ?_
  rintro e w18 ⟨rfl,hd⟩
  replace HB:=zv HB hd.below
  clear hd
  obtain rfl:=zi H
  go_wp2_with(fail)
  go_ret
  exact⟨ze,zv HW.out HB⟩
 subst c5
 rw[if_pos rfl] at H
 go_wp2_with(fail)
 refine(spec_AddressOk.calls k _ _ _ A4.out).mono ?_
 rintro e w6 ⟨rfl,hd⟩
 replace HB:=zv HB hd.below
 clear hd
 replace H:=zf H
 obtain⟨t463,A7,H⟩:=H
 try dsimp only at H
 replace A7:=zz A7
 by_cases c8:t463=true
 case neg=>
  replace c8:=Bool.eq_false_iff.mpr c8
  subst c8
  rw[if_neg (by decide)] at H
  go_wp2_with(fail)
  refine(spec_TreeOk.calls k _ _ _ _ _ (Kd.qC HR1.out HB) HC1.out A7.out).mono ?_
  rintro e w17 ⟨rfl,hb⟩
  replace HB:=zv HB hb
  clear hb
  obtain rfl:=zi H
  go_wp2_with(fail)
  go_ret
  exact⟨ze,zv HW.out HB⟩
 subst c8
 rw[if_pos rfl] at H
 by_cases c9:a2.toList=([]:List UInt8)
 ·rw[if_pos c9] at H
  obtain⟨c9b0,c9b1⟩:=zq c9
  clear c9
  go_wp2_with(fail)
  refine(spec_TreeOk.calls k _ _ _ _ _ (Kd.qC HR1.out HB) HC1.out A7.out).mono ?_
  rintro e w11 ⟨rfl,hb⟩
  replace HB:=zv HB hb
  clear hb
  obtain rfl:=zi H
  go_wp2_with(fail)
  go_ret
  exact⟨ze,zv HW.out HB⟩
 rw[if_neg c9] at H
 obtain⟨c9b0,c9b1⟩:=zw c9
 go_wp2_with(fail)
 refine(spec_TreeOk.calls k _ _ _ _ _ (Kd.qC HR1.out HB) HC1.out A7.out).mono ?_
 rintro e w13 ⟨rfl,hb⟩
 replace HB:=zv HB hb
 clear hb
 replace H:=zf H
 obtain⟨t464,A14,H⟩:=H
 try dsimp only at H
 replace A14:=zz A14
 go_wp2_with(fail)
 refine(spec_AddressOk.calls k _ _ _ A14.out).mono ?_
 rintro e w15 ⟨rfl,hd⟩
 replace HB:=zv HB hd.below
 clear hd
 obtain rfl:=zi H
 go_wp2_with(fail)
 go_ret
 exact⟨ze,zv HW.out HB⟩
def spec_l12Find.l0:Nat→List (S94)→ByteArray→Int→Option (Int)
 |0,_,_,_=>none
 |k+1,x0,x1,x5=>if x5<(x0.length:Int) then(if 0≤x5 then(if((qL x0 x5).f0).toList=x1.toList then(some x5) else(spec_l12Find.l0 k x0 x1 (wrap64 (x5+1)))) else(none)) else(some (-1))
def spec_l12Find.f(k:Nat)(l0:List (S94))(a1:ByteArray):Option (Int):=spec_l12Find.l0 k l0 a1 0
theorem spec_l12Find.calls(k:Nat)(A0:Option Addr)(c0:Nat)(l0:List (S94))(a1:ByteArray)(r:Int)(w:World)(hr0:Kd.C k94 w A0 l0.length l0)(hc0:l0.length≤c0)(h:spec_l12Find.f k l0 a1=some r):
 Calls Tryz.prog 37 #[.slice A0 l0.length c0,.string a1] w fun e w'=>e= .returned (.int .i64 r)∧qE w w':=by
 have HR0:=zz hr0
 have HC0:=zz hc0
 clear hr0 hc0
 unfold spec_l12Find.f at h
 have H:=h
 clear h
 have H':=zz H
 clear H
 go_enter Tryz.func37,Tryz.ntmps37
 go_wp2
 go_loopg[5] k (fun kq v5 w'=>∃(x5_1:Int),v5= .int .i64 x5_1∧qB (spec_l12Find.l0 kq l0 a1 x5_1=some r)∧qB (kq≤k)∧qE w w')
 case atStart=>exact⟨(0),zr,H',⟨Nat.le_refl _⟩,by repeat(first|exact qE.refl _|apply qE.step)⟩
 case round=>
  clear H'
  try clear p2
  obtain⟨x5_1,rfl,HA,HK1,⟨m1,rfl⟩⟩:=hrel
  cases gk with
  |zero=>exact absurd HA.out (by simp[spec_l12Find.l0])
  |succ k1=>
   have H:=HA.out
   clear HA
   simp only[spec_l12Find.l0] at H
   by_cases c3:x5_1<(l0.length:Int)
   case neg=>
    rw[if_neg c3] at H
    have c3b0:=z0 c3
    clear c3
    obtain rfl:=zi H
    go_wp2
    go_ret
    exact⟨zr,by repeat(first|exact qE.refl _|apply qE.step)⟩
   rw[if_pos c3] at H
   have c3b0:=z1 c3
   clear c3
   by_cases c4:0≤x5_1
   case neg=>exact zno H c4
   rw[if_pos c4] at H
   have c4b0:=z1 c4
   clear c4
   by_cases c5:((qL l0 x5_1).f0).toList=a1.toList
   ·rw[if_pos c5] at H
    obtain⟨c5b0,c5b1⟩:=zq c5
    clear c5
    obtain rfl:=zi H
    have p465:0≤(x5_1:Int):=z2
    have q465:x5_1<(l0.length:Int):=z2
    obtain⟨ad465,A465_2,c465_2,A465_4,c465_4,e465,hx465_0,hx465_1,hx465_2,hx465_3,hx465_4,hl465_2,hi465_2,hl465_4,hi465_4⟩:=at_T94 HR0.out x5_1 p465 q465
    cases e465
    have HR465_2:=zz hi465_2
    have HC465_2:=zz hl465_2
    clear hi465_2 hl465_2
    have HR465_4:=zz hi465_4
    have HC465_4:=zz hl465_4
    clear hi465_4 hl465_4
    replace p465:=eq_true p465
    replace q465:=eq_true q465
    go_wp2
    go_ret
    exact⟨zr,by repeat(first|exact qE.refl _|apply qE.step)⟩
   rw[if_neg c5] at H
   obtain⟨c5b0,c5b1⟩:=zw c5
   have H':=zz H
   clear H
   have p465:0≤(x5_1:Int):=z2
   have q465:x5_1<(l0.length:Int):=z2
   obtain⟨ad465,A465_2,c465_2,A465_4,c465_4,e465,hx465_0,hx465_1,hx465_2,hx465_3,hx465_4,hl465_2,hi465_2,hl465_4,hi465_4⟩:=at_T94 HR0.out x5_1 p465 q465
   cases e465
   have HR465_2:=zz hi465_2
   have HC465_2:=zz hl465_2
   clear hi465_2 hl465_2
   have HR465_4:=zz hi465_4
   have HC465_4:=zz hl465_4
   clear hi465_4 hl465_4
   replace p465:=eq_true p465
   replace q465:=eq_true q465
   go_wp2
   go_roundg k1
   case measure=>have:=HK1.out;omega
   case rel=>exact⟨(wrap64 (x5_1+1)),zr,H',⟨by have:=HK1.out;omega⟩,by repeat(first|exact qE.refl _|apply qE.step)⟩
mutual
def spec_WorldOk.l0:Nat→Int→List (S94)→List (S67)→List (S61)→List (S64)→Option (Bool)
 |0,_,_,_,_,_=>none
 |k+1,x3,x467000,x467001,x467002,x467003=>if x3<(x467002.length:Int) then(if 0≤x3 then((spec_l19Item.f k ((rd_T61 x467002 x3).f0) ((rd_T61 x467002 x3).f1) ((rd_T61 x467002 x3).f2)).bind fun t472=>(if t472=true then(spec_WorldOk.l0 k (wrap64 (x3+1)) x467000 x467001 x467002 x467003) else(some false))) else(none)) else(spec_WorldOk.l1 k 0 x467000 x467001 x467002 x467003)
def spec_WorldOk.l1:Nat→Int→List (S94)→List (S67)→List (S61)→List (S64)→Option (Bool)
 |0,_,_,_,_,_=>none
 |k+1,x4,x467000,x467001,x467002,x467003=>if x4<(x467003.length:Int) then(if 0≤x4 then((spec_NameOk.f k ((rd_T64 x467003 x4).f0)).bind fun t474=>(if t474=true then((spec_AddressOk.f k ((rd_T64 x467003 x4).f1)).bind fun t476=>(if t476=true then(spec_WorldOk.l1 k (wrap64 (x4+1)) x467000 x467001 x467002 x467003) else(some false))) else(some false))) else(none)) else(spec_WorldOk.l2 k 0 x467000 x467001 x467002 x467003)
def spec_WorldOk.l2:Nat→Int→List (S94)→List (S67)→List (S61)→List (S64)→Option (Bool)
 |0,_,_,_,_,_=>none
 |k+1,x5,x467000,x467001,x467002,x467003=>if x5<(x467001.length:Int) then(spec_WorldOk.l3 k x5 0 x467000 x467001 x467002 x467003) else(some true)
def spec_WorldOk.l3:Nat→Int→Int→List (S94)→List (S67)→List (S61)→List (S64)→Option (Bool)
 |0,_,_,_,_,_,_=>none
 |k+1,x5,x6,x467000,x467001,x467002,x467003=>if 0≤x5 then(if x5<(x467001.length:Int) then(if x6<(((qD x467001 x5).f2).length:Int) then(if 0≤x6 then((spec_l12Find.f k x467000 ((qN ((qD x467001 x5).f2) x6).f1)).bind fun t480=>(if t480<0 then(some false) else(spec_WorldOk.l3 k x5 (wrap64 (x6+1)) x467000 x467001 x467002 x467003))) else(none)) else(spec_WorldOk.l2 k (wrap64 (x5+1)) x467000 x467001 x467002 x467003)) else(none)) else(none)
end
def spec_WorldOk.f(k:Nat)(l0_0:List (S94))(l0_1:List (S67))(l0_2:List (S61))(l0_3:List (S64)):Option (Bool):=(spec_StoreOk.f k l0_0).bind fun t467=>(if t467=true then((spec_ProfilesOk.f k l0_1).bind fun t468=>(if t468=true then(if(l0_2.length:Int)>20 then(some false) else(if(l0_3.length:Int)>20 then(some false) else(spec_WorldOk.l0 k 0 l0_0 l0_1 l0_2 l0_3))) else(some false))) else(some false))
theorem spec_WorldOk.calls(k:Nat)(A0_0:Option Addr)(c0_0:Nat)(l0_0:List (S94))(A0_1:Option Addr)(c0_1:Nat)(l0_1:List (S67))(A0_2:Option Addr)(c0_2:Nat)(l0_2:List (S61))(A0_3:Option Addr)(c0_3:Nat)(l0_3:List (S64))(r:Bool)(w:World)(hr0_0:Kd.C k94 w A0_0 l0_0.length l0_0)(hc0_0:l0_0.length≤c0_0)(hr0_1:Kd.C k67 w A0_1 l0_1.length l0_1)(hc0_1:l0_1.length≤c0_1)(hr0_2:Kd.C k61 w A0_2 l0_2.length l0_2)(hc0_2:l0_2.length≤c0_2)(hr0_3:Kd.C k64 w A0_3 l0_3.length l0_3)(hc0_3:l0_3.length≤c0_3)(h:spec_WorldOk.f k l0_0 l0_1 l0_2 l0_3=some r):
 Calls Tryz.prog 8 #[.agg #[.slice A0_0 l0_0.length c0_0,.slice A0_1 l0_1.length c0_1,.slice A0_2 l0_2.length c0_2,.slice A0_3 l0_3.length c0_3]] w fun e w'=>e= .returned (.bool r)∧Below w.heap.size w w':=by
 have hu35:=Tryz.underlying35
 have HR0_0:=zz hr0_0
 have HC0_0:=zz hc0_0
 clear hr0_0 hc0_0
 have HR0_1:=zz hr0_1
 have HC0_1:=zz hc0_1
 clear hr0_1 hc0_1
 have HR0_2:=zz hr0_2
 have HC0_2:=zz hc0_2
 clear hr0_2 hc0_2
 have HR0_3:=zz hr0_3
 have HC0_3:=zz hc0_3
 clear hr0_3 hc0_3
 have HB:=zz (Below.refl w.heap.size w)
 unfold spec_WorldOk.f at h
 have H:=h
 clear h
 replace HB:=HB.out
 have HW:=zz (Below.refl w.heap.size w)
 go_enter Tryz.func8,Tryz.ntmps8
 replace H:=zf H
 obtain⟨t467,A2,H⟩:=H
 try dsimp only at H
 replace A2:=zz A2
 go_wp2_with(first|(refine zN 1 ?_;(try(refine z4 ?_;dsimp only));refine zX 1 35 #[.slice A0_0 l0_0.length c0_0,.slice A0_1 l0_1.length c0_1,.slice A0_2 l0_2.length c0_2,.slice A0_3 l0_3.length c0_3] ?_;intro gb466 hg w5 hbox hb;have hst:=zv HB hb;clear hg hb HB;replace HW:=zz (zv HW.out hst);replace HR0_0:=zz (Kd.qC HR0_0.out hst);replace HR0_1:=zz (Kd.qC HR0_1.out hst);replace HR0_2:=zz (Kd.qC HR0_2.out hst);replace HR0_3:=zz (Kd.qC HR0_3.out hst);obtain⟨hbx466_0,hbx466_1,hbx466_2,hbx466_3⟩:=zx4 hbox;have HB:=Below.refl w5.heap.size w5;clear hbox hst))
 refine(spec_StoreOk.calls k _ _ _ _ _ (Kd.qC HR0_0.out HB) HC0_0.out A2.out).mono ?_
 rintro e w6 ⟨rfl,hb⟩
 replace HB:=zv HB hb
 clear hb
 by_cases c3:t467=true
 case neg=>
  replace c3:=Bool.eq_false_iff.mpr c3
  subst c3
  rw[if_neg (by decide)] at H
  obtain rfl:=zi H
  go_wp2_with(fail)
  go_ret
  exact⟨ze,zv HW.out HB⟩
 subst c3
 rw[if_pos rfl] at H
 replace H:=zf H
 obtain⟨t468,A7,H⟩:=H
 try dsimp only at H
 replace A7:=zz A7
 by_cases c8:t468=true
 case neg=>
  replace c8:=Bool.eq_false_iff.mpr c8
  subst c8
  rw[if_neg (by decide)] at H
  go_wp2_with(fail)
  refine(spec_ProfilesOk.calls k _ _ _ _ _ (Kd.qC HR0_1.out HB) HC0_1.out A7.out).mono ?_
  rintro e w47 ⟨rfl,hb⟩
  replace HB:=zv HB hb
  clear hb
  obtain rfl:=zi H
  go_wp2_with(fail)
  go_ret
  exact⟨ze,zv HW.out HB⟩
 subst c8
 rw[if_pos rfl] at H
 by_cases c9:(l0_2.length:Int)>20
 ·rw[if_pos c9] at H
  have c9b0:=zgt c9
  have c9b1:decide (20<l0_2.length)=true:=z1 (by omega)
  clear c9
  go_wp2_with(fail)
  refine(spec_ProfilesOk.calls k _ _ _ _ _ (Kd.qC HR0_1.out HB) HC0_1.out A7.out).mono ?_
  rintro e w11 ⟨rfl,hb⟩
  replace HB:=zv HB hb
  clear hb
  obtain rfl:=zi H
  go_wp2_with(fail)
  go_ret
  exact⟨ze,zv HW.out HB⟩
 rw[if_neg c9] at H
 have c9b0:=zgtn c9
 have c9b1:decide (20<l0_2.length)=false:=z0 (by omega)
 clear c9
 by_cases c12:(l0_3.length:Int)>20
 ·rw[if_pos c12] at H
  have c12b0:=zgt c12
  have c12b1:decide (20<l0_3.length)=true:=z1 (by omega)
  clear c12
  go_wp2_with(fail)
  refine(spec_ProfilesOk.calls k _ _ _ _ _ (Kd.qC HR0_1.out HB) HC0_1.out A7.out).mono ?_
  rintro e w14 ⟨rfl,hb⟩
  replace HB:=zv HB hb
  clear hb
  obtain rfl:=zi H
  go_wp2_with(fail)
  go_ret
  exact⟨ze,zv HW.out HB⟩
 rw[if_neg c12] at H
 have c12b0:=zgtn c12
 have c12b1:decide (20<l0_3.length)=false:=z0 (by omega)
 clear c12
 go_wp2_with(fail)
 refine(spec_ProfilesOk.calls k _ _ _ _ _ (Kd.qC HR0_1.out HB) HC0_1.out A7.out).mono ?_
 rintro e w16 ⟨rfl,hb⟩
 replace HB:=zv HB hb
 clear hb
 go_wp2_with(fail)
 go_loopg[3] k (fun kq v3 w'=>∃(x3_kl17:Int),v3= .int .i64 x3_kl17∧qB (spec_WorldOk.l0 kq x3_kl17 l0_0 l0_1 l0_2 l0_3=some r)∧qB (kq≤k)∧qB (Below w5.heap.size w5 w'))
 case atStart=>exact⟨(0),zr,⟨H⟩,⟨Nat.le_refl _⟩,⟨HB⟩⟩
 case round=>
  clear H HB
  obtain⟨x3_kl17,rfl,H,HKkl17,HB⟩:=hrel
  replace HB:=HB.out
  replace H:=H.out
  have HLkl17:=zz (Below.refl w5.heap.size w5)
  cases gk with
  |zero=>exact absurd H (by simp[spec_WorldOk.l0])
  |succ kl17=>
   simp only[spec_WorldOk.l0] at H
   by_cases c18:x3_kl17<(l0_2.length:Int)
   ·rw[if_pos c18] at H
    have c18b0:=z1 c18
    clear c18
    go_wp2_with(fail)
    try simp only[Act.put,List.setIfInBounds_toArray,List.set_cons_zero,List.set_cons_succ]
    refine vB (C:=fun W_=>Below w5.heap.size w5 W_) zk zk (qQ HB) ?_
    by_cases c19:0≤x3_kl17
    case neg=>exact zno H c19
    rw[if_pos c19] at H
    have c19b0:=z1 c19
    clear c19
    have p469:0≤(x3_kl17:Int):=z2
    have q469:(x3_kl17:Int)<(l0_2.length:Int):=z2
    obtain⟨ad469,A469_1,c469_1,e469,hx469_0,hx469_1,hx469_2,hl469_1,hC469_1⟩:=at_T61 HR0_2.out x3_kl17 p469 q469
    cases e469
    replace hx469_0:=qR hx469_0
    replace hx469_1:=qR hx469_1
    replace hx469_2:=qR hx469_2
    have HR469_1:=zz hC469_1
    have HC469_1:=zz hl469_1
    clear hC469_1 hl469_1
    replace p469:=eq_true p469
    replace q469:=eq_true q469
    replace H:=zf H
    obtain⟨t472,A20,H⟩:=H
    try dsimp only at H
    replace A20:=zz A20
    by_cases c21:t472=true
    ·subst c21
     rw[if_pos rfl] at H
     repeat(first|go_big_quiet_skip|(go_big_quiet_want;go_big_quiet_op;first|go_big_quiet_on|(with_reducible apply Exists.intro;refine⟨fun W hW=>?_,?_⟩;(first|with_reducible rfl|(go_at_call 34;exact callB (spec_l19Item.calls kl17 _ _ _ _ _ _ _ (Kd.qC HR469_1.out hW) HC469_1.out A20.out) hW)|(go_simp;with_reducible rfl));go_big_quiet_on)))
     clear HB
     refine zW fun w22 (HB:Below w5.heap.size w5 w22)=>?_
     go_wp2_with(fail)
     go_roundg kl17
     case measure=>have:=HKkl17.out;omega
     case rel=>exact⟨(wrap64 (x3_kl17+1)),zr,⟨H⟩,⟨by have:=HKkl17.out;omega⟩,⟨zv HLkl17.out HB⟩⟩
    replace c21:=Bool.eq_false_iff.mpr c21
    subst c21
    rw[if_neg (by decide)] at H
    obtain rfl:=zi H
    repeat(first|go_big_quiet_skip|(go_big_quiet_want;go_big_quiet_op;first|go_big_quiet_on|(with_reducible apply Exists.intro;refine⟨fun W hW=>?_,?_⟩;(first|with_reducible rfl|(go_at_call 34;exact callB (spec_l19Item.calls kl17 _ _ _ _ _ _ _ (Kd.qC HR469_1.out hW) HC469_1.out A20.out) hW)|(go_simp;with_reducible rfl));go_big_quiet_on)))
    clear HB
    refine zW fun w23 (HB:Below w5.heap.size w5 w23)=>?_
    go_wp2_with(fail)
    go_ret
    exact⟨ze,zv HW.out HB⟩
   rw[if_neg c18] at H
   have c18b0:=z0 c18
   clear c18
   go_wp2_with(fail)
   go_loopg[4] kl17 (fun kq v4 w'=>∃(x4_kl24:Int),v4= .int .i64 x4_kl24∧qB (spec_WorldOk.l1 kq x4_kl24 l0_0 l0_1 l0_2 l0_3=some r)∧qB (kq≤kl17)∧qB (Below w5.heap.size w5 w'))
   case atStart=>exact⟨(0),zr,⟨H⟩,⟨Nat.le_refl _⟩,⟨HB⟩⟩
   case round=>
    clear H HB
    obtain⟨x4_kl24,rfl,H,HKkl24,HB⟩:=hrel
    replace HB:=HB.out
    replace H:=H.out
    have HLkl24:=zz (Below.refl w5.heap.size w5)
    cases gk with
    |zero=>exact absurd H (by simp[spec_WorldOk.l1])
    |succ kl24=>
     simp only[spec_WorldOk.l1] at H
     by_cases c25:x4_kl24<(l0_3.length:Int)
     ·rw[if_pos c25] at H
      have c25b0:=z1 c25
      clear c25
      by_cases c26:0≤x4_kl24
      case neg=>exact zno H c26
      rw[if_pos c26] at H
      have c26b0:=z1 c26
      clear c26
      have p473:0≤(x4_kl24:Int):=z2
      have q473:(x4_kl24:Int)<(l0_3.length:Int):=z2
      obtain⟨ad473,e473,hx473_0,hx473_1⟩:=at_T64 HR0_3.out x4_kl24 p473 q473
      cases e473
      replace hx473_0:=qR hx473_0
      replace hx473_1:=qR hx473_1
      replace p473:=eq_true p473
      replace q473:=eq_true q473
      replace H:=zf H
      obtain⟨t474,A27,H⟩:=H
      try dsimp only at H
      replace A27:=zz A27
      by_cases c28:t474=true
      case neg=>
       replace c28:=Bool.eq_false_iff.mpr c28
       subst c28
       rw[if_neg (by decide)] at H
       go_wp2_with(fail)
       refine(spec_NameOk.calls kl24 _ _ _ A27.out).mono ?_
       rintro e w34 ⟨rfl,hd⟩
       replace HB:=zv HB hd.below
       clear hd
       obtain rfl:=zi H
       go_wp2_with(fail)
       go_ret
       exact⟨ze,zv HW.out HB⟩
      subst c28
      rw[if_pos rfl] at H
      go_wp2_with(fail)
      refine(spec_NameOk.calls kl24 _ _ _ A27.out).mono ?_
      rintro e w29 ⟨rfl,hd⟩
      replace HB:=zv HB hd.below
      clear hd
      replace H:=zf H
      obtain⟨t476,A30,H⟩:=H
      try dsimp only at H
      replace A30:=zz A30
      by_cases c31:t476=true
      ·subst c31
       rw[if_pos rfl] at H
       go_wp2_with(fail)
       refine(spec_AddressOk.calls kl24 _ _ _ A30.out).mono ?_
       rintro e w32 ⟨rfl,hd⟩
       replace HB:=zv HB hd.below
       clear hd
       go_wp2_with(fail)
       go_roundg kl24
       case measure=>have:=HKkl17.out;have:=HKkl24.out;omega
       case rel=>exact⟨(wrap64 (x4_kl24+1)),zr,⟨H⟩,⟨by have:=HKkl17.out;have:=HKkl24.out;omega⟩,⟨zv HLkl24.out HB⟩⟩
      replace c31:=Bool.eq_false_iff.mpr c31
      subst c31
      rw[if_neg (by decide)] at H
      go_wp2_with(fail)
      refine(spec_AddressOk.calls kl24 _ _ _ A30.out).mono ?_
      rintro e w33 ⟨rfl,hd⟩
      replace HB:=zv HB hd.below
      clear hd
      obtain rfl:=zi H
      go_wp2_with(fail)
      go_ret
      exact⟨ze,zv HW.out HB⟩
     rw[if_neg c25] at H
     have c25b0:=z0 c25
     clear c25
     go_wp2_with(fail)
     go_loopg[5] kl24 (fun kq v5 w'=>∃(x5_kl35:Int),v5= .int .i64 x5_kl35∧qB (spec_WorldOk.l2 kq x5_kl35 l0_0 l0_1 l0_2 l0_3=some r)∧qB (kq≤kl24)∧qB (Below w5.heap.size w5 w'))
     case atStart=>exact⟨(0),zr,⟨H⟩,⟨Nat.le_refl _⟩,⟨HB⟩⟩
     case round=>
      clear H HB
      obtain⟨x5_kl35,rfl,H,HKkl35,HB⟩:=hrel
      replace HB:=HB.out
      replace H:=H.out
      have HLkl35:=zz (Below.refl w5.heap.size w5)
      cases gk with
      |zero=>exact absurd H (by simp[spec_WorldOk.l2])
      |succ kl35=>
       simp only[spec_WorldOk.l2] at H
       by_cases c36:x5_kl35<(l0_1.length:Int)
       case neg=>
        rw[if_neg c36] at H
        have c36b0:=z0 c36
        clear c36
        obtain rfl:=zi H
        go_wp2_with(fail)
        go_ret
        exact⟨ze,zv HW.out HB⟩
       rw[if_pos c36] at H
       have c36b0:=z1 c36
       clear c36
       go_wp2_with(fail)
       go_loopg[6] kl35 (fun kq v6 w'=>∃(x6_kl37:Int),v6= .int .i64 x6_kl37∧qB (spec_WorldOk.l3 kq x5_kl35 x6_kl37 l0_0 l0_1 l0_2 l0_3=some r)∧qB (kq≤kl35)∧qB (Below w5.heap.size w5 w'))
       case atStart=>exact⟨(0),zr,⟨H⟩,⟨Nat.le_refl _⟩,⟨HB⟩⟩
       case round=>
        clear H HB
        obtain⟨x6_kl37,rfl,H,HKkl37,HB⟩:=hrel
        replace HB:=HB.out
        replace H:=H.out
        have HLkl37:=zz (Below.refl w5.heap.size w5)
        cases gk with
        |zero=>exact absurd H (by simp[spec_WorldOk.l3])
        |succ kl37=>
         simp only[spec_WorldOk.l3] at H
         by_cases c38:0≤x5_kl35
         case neg=>exact zno H c38
         rw[if_pos c38] at H
         have c38b0:=z1 c38
         clear c38
         by_cases c39:x5_kl35<(l0_1.length:Int)
         case neg=>exact zno H c39
         rw[if_pos c39] at H
         have c39b0:=z1 c39
         clear c39
         have p477:0≤(x5_kl35:Int):=z2
         have q477:(x5_kl35:Int)<(l0_1.length:Int):=z2
         obtain⟨ad477,A477_2,c477_2,e477,hx477_0,hx477_1,hx477_2,hl477_2,hC477_2⟩:=at_T67 HR0_1.out x5_kl35 p477 q477
         cases e477
         replace hx477_0:=qR hx477_0
         replace hx477_1:=qR hx477_1
         replace hx477_2:=qR hx477_2
         have HR477_2:=zz hC477_2
         have HC477_2:=zz hl477_2
         clear hC477_2 hl477_2
         replace p477:=eq_true p477
         replace q477:=eq_true q477
         by_cases c40:x6_kl37<(((qD l0_1 x5_kl35).f2).length:Int)
         case neg=>
          rw[if_neg c40] at H
          have c40b0:=z0 c40
          clear c40
          go_wp2_with(fail)
          go_roundg kl37
          case measure=>have:=HKkl17.out;have:=HKkl24.out;have:=HKkl35.out;have:=HKkl37.out;omega
          case rel=>exact⟨(wrap64 (x5_kl35+1)),zr,⟨H⟩,⟨by have:=HKkl17.out;have:=HKkl24.out;have:=HKkl35.out;have:=HKkl37.out;omega⟩,⟨zv HLkl35.out HB⟩⟩
         rw[if_pos c40] at H
         have c40b0:=z1 c40
         clear c40
         go_wp2_with(fail)
         try simp only[Act.put,List.setIfInBounds_toArray,List.set_cons_zero,List.set_cons_succ]
         refine vB (C:=fun W_=>Below w5.heap.size w5 W_) zk zk (qQ HB) ?_
         by_cases c41:0≤x6_kl37
         case neg=>exact zno H c41
         rw[if_pos c41] at H
         have c41b0:=z1 c41
         clear c41
         have p479:0≤(x6_kl37:Int):=z2
         have q479:(x6_kl37:Int)<(((qD l0_1 x5_kl35).f2).length:Int):=z2
         obtain⟨ad479,e479,hx479_0,hx479_1⟩:=at_T70 HR477_2.out x6_kl37 p479 q479
         cases e479
         replace hx479_0:=qR hx479_0
         replace hx479_1:=qR hx479_1
         replace p479:=eq_true p479
         replace q479:=eq_true q479
         replace H:=zf H
         obtain⟨t480,A42,H⟩:=H
         try dsimp only at H
         replace A42:=zz A42
         by_cases c43:t480<0
         ·rw[if_pos c43] at H
          have c43b0:=z1 c43
          clear c43
          obtain rfl:=zi H
          repeat(first|go_big_quiet_skip|(go_big_quiet_want;go_big_quiet_op;first|go_big_quiet_on|(with_reducible apply Exists.intro;refine⟨fun W hW=>?_,?_⟩;(first|with_reducible rfl|(go_at_call 37;exact callD (spec_l12Find.calls kl37 _ _ _ _ _ _ (Kd.qC HR0_0.out hW) HC0_0.out A42.out) hW)|(go_simp;with_reducible rfl));go_big_quiet_on)))
          clear HB
          refine zW fun w44 (HB:Below w5.heap.size w5 w44)=>?_
          go_wp2_with(fail)
          go_ret
          exact⟨ze,zv HW.out HB⟩
         rw[if_neg c43] at H
         have c43b0:=z0 c43
         clear c43
         repeat(first|go_big_quiet_skip|(go_big_quiet_want;go_big_quiet_op;first|go_big_quiet_on|(with_reducible apply Exists.intro;refine⟨fun W hW=>?_,?_⟩;(first|with_reducible rfl|(go_at_call 37;exact callD (spec_l12Find.calls kl37 _ _ _ _ _ _ (Kd.qC HR0_0.out hW) HC0_0.out A42.out) hW)|(go_simp;with_reducible rfl));go_big_quiet_on)))
         clear HB
         refine zW fun w45 (HB:Below w5.heap.size w5 w45)=>?_
         go_wp2_with(fail)
         go_roundg kl37
         case measure=>have:=HKkl17.out;have:=HKkl24.out;have:=HKkl35.out;have:=HKkl37.out;omega
         case rel=>exact⟨(wrap64 (x6_kl37+1)),zr,⟨H⟩,⟨by have:=HKkl17.out;have:=HKkl24.out;have:=HKkl35.out;have:=HKkl37.out;omega⟩,⟨zv HLkl37.out HB⟩⟩
end Go.Proofs.YtcekmnclmldmmaaGreatDoor.Q
