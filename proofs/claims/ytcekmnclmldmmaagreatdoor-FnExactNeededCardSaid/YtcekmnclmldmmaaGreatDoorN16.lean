import Derived.Test.YtcekmnclmldmmaaGreatDoorN04
set_option linter.unusedVariables false
set_option linter.unusedSimpArgs false
namespace Go.Proofs.YtcekmnclmldmmaaGreatDoor.Q
open Go.RowKit W1 W2 W3
attribute [local go_sem] max2_int min2_int max_two min_two max_three min_three max_four min_four
attribute [local go_sem high] bl_leq bl_gtr bl_geq
set_option maxHeartbeats 8000000
set_option maxRecDepth 100000
mutual
def impl_ProfilesOk.l0:Nat→List (S67)→List (S67)→Int→Int→Option (Bool)
 |0,_,_,_,_=>none
 |k+1,x0,x11,x12,x13=>if x13<x12 then(if 0≤x13 then(if x13<(x11.length:Int) then((impl_NameOk.f k ((qD x11 x13).f0)).bind fun t648=>(if t648=true then(if x13>0 then(if 0≤(wrap64 (x13 - 1)) then(if(wrap64 (x13 - 1))<(x0.length:Int) then(if((Op.bytesLess (((qD x0 (wrap64 (x13 - 1))).f0).toList) (((qD x11 x13).f0).toList))=true) then(if(((qD x11 x13).f2).length:Int)>50 then(some false) else(impl_ProfilesOk.l1 k x0 (((qD x11 x13).f1)==0) x11 x12 x13 ((qD x11 x13).f2) (((qD x11 x13).f2).length:Int) 0 ((qD x11 x13).f0) ((qD x11 x13).f1) ((qD x11 x13).f2))) else(some false)) else(none)) else(none)) else(if(((qD x11 x13).f2).length:Int)>50 then(some false) else(impl_ProfilesOk.l1 k x0 (((qD x11 x13).f1)==0) x11 x12 x13 ((qD x11 x13).f2) (((qD x11 x13).f2).length:Int) 0 ((qD x11 x13).f0) ((qD x11 x13).f1) ((qD x11 x13).f2)))) else(some false))) else(none)) else(none)) else(some true)
def impl_ProfilesOk.l1:Nat→List (S67)→Bool→List (S67)→Int→Int→List (S70)→Int→Int→ByteArray→Int→List (S70)→Option (Bool)
 |0,_,_,_,_,_,_,_,_,_,_,_=>none
 |k+1,x0,x5,x11,x12,x13,x47,x48,x49,x648000,x648001,x648002=>if x49<x48 then(if 0≤x49 then(if x49<(x47.length:Int) then(if((qN x47 x49).f0)<1 then(some false) else(if((qN x47 x49).f0)>9007199254740992 then(some false) else((impl_AddressOk.f k ((qN x47 x49).f1)).bind fun t652=>(if t652=true then(if x49>0 then(if 0≤(wrap64 (x49 - 1)) then(if(wrap64 (x49 - 1))<(x648002.length:Int) then(if((qN x648002 (wrap64 (x49 - 1))).f0)≥((qN x47 x49).f0) then(some false) else(if x5=true then(impl_ProfilesOk.l1 k x0 true x11 x12 x13 x47 x48 (wrap64 (x49+1)) x648000 x648001 x648002) else(impl_ProfilesOk.l1 k x0 (((qN x47 x49).f0)==x648001) x11 x12 x13 x47 x48 (wrap64 (x49+1)) x648000 x648001 x648002))) else(none)) else(none)) else(if x5=true then(impl_ProfilesOk.l1 k x0 true x11 x12 x13 x47 x48 (wrap64 (x49+1)) x648000 x648001 x648002) else(impl_ProfilesOk.l1 k x0 (((qN x47 x49).f0)==x648001) x11 x12 x13 x47 x48 (wrap64 (x49+1)) x648000 x648001 x648002))) else(some false))))) else(none)) else(none)) else(if x5=true then(impl_ProfilesOk.l0 k x0 x11 x12 (wrap64 (x13+1))) else(some false))
end
def impl_ProfilesOk.f(k:Nat)(l0:List (S67)):Option (Bool):=if(l0.length:Int)>20 then(some false) else(impl_ProfilesOk.l0 k l0 l0 (l0.length:Int) 0)
theorem impl_ProfilesOk.calls(k:Nat)(A0:Option Addr)(c0:Nat)(l0:List (S67))(r:Bool)(w:World)(hr0:Kd.C k67 w A0 l0.length l0)(hc0:l0.length≤c0)(h:impl_ProfilesOk.f k l0=some r):
 Calls Tryz.prog 43 #[.slice A0 l0.length c0] w fun e w'=>e= .returned (.bool r)∧Below w.heap.size w w':=by
 have hu67:=Tryz.underlying67
 have hu70:=Tryz.underlying70
 have HR0:=zz hr0
 have HC0:=zz hc0
 clear hr0 hc0
 have HB:=zz (Below.refl w.heap.size w)
 unfold impl_ProfilesOk.f at h
 have H:=h
 clear h
 replace HB:=HB.out
 have HW:=zz (Below.refl w.heap.size w)
 go_enter Tryz.func43,Tryz.ntmps43
 by_cases c2:(l0.length:Int)>20
 ·rw[if_pos c2] at H
  have c2b0:=zgt c2
  have c2b1:decide (20<l0.length)=true:=z1 (by omega)
  clear c2
  obtain rfl:=zi H
  go_wp2_with(fail)
  go_ret
  exact⟨ze,zv HW.out HB⟩
 rw[if_neg c2] at H
 have c2b0:=zgtn c2
 have c2b1:decide (20<l0.length)=false:=z0 (by omega)
 clear c2
 go_wp2_with(fail)
 go_loopg[13] k (fun kq v13 w'=>∃(x13_kl3:Int),v13= .int .i64 x13_kl3∧qB (impl_ProfilesOk.l0 kq l0 l0 (l0.length:Int) x13_kl3=some r)∧qB (kq≤k)∧qB (Below w.heap.size w w'))
 case atStart=>exact⟨(0),zr,⟨H⟩,⟨Nat.le_refl _⟩,⟨HB⟩⟩
 case round=>
  clear H HB
  obtain⟨x13_kl3,rfl,H,HKkl3,HB⟩:=hrel
  replace HB:=HB.out
  replace H:=H.out
  have HLkl3:=zz (Below.refl w.heap.size w)
  cases gk with
  |zero=>exact absurd H (by simp[impl_ProfilesOk.l0])
  |succ kl3=>
   simp only[impl_ProfilesOk.l0] at H
   by_cases c4:x13_kl3<(l0.length:Int)
   case neg=>
    rw[if_neg c4] at H
    have c4b0:=z0 c4
    clear c4
    obtain rfl:=zi H
    go_wp2_with(fail)
    go_ret
    exact⟨ze,zv HW.out HB⟩
   rw[if_pos c4] at H
   have c4b0:=z1 c4
   clear c4
   by_cases c5:0≤x13_kl3
   case neg=>exact zno H c5
   rw[if_pos c5] at H
   have c5b0:=z1 c5
   clear c5
   by_cases c6:x13_kl3<(l0.length:Int)
   case neg=>exact zno H c6
   rw[if_pos c6] at H
   have c6b0:=z1 c6
   clear c6
   have p646:0≤(x13_kl3:Int):=z2
   have q646:(x13_kl3:Int)<(l0.length:Int):=z2
   obtain⟨ad646,A646_2,c646_2,e646,hx646_0,hx646_1,hx646_2,hl646_2,hC646_2⟩:=at_T67 HR0.out x13_kl3 p646 q646
   cases e646
   replace hx646_0:=qR hx646_0
   replace hx646_1:=qR hx646_1
   replace hx646_2:=qR hx646_2
   have HR646_2:=zz hC646_2
   have HC646_2:=zz hl646_2
   clear hC646_2 hl646_2
   replace p646:=eq_true p646
   replace q646:=eq_true q646
   go_wp2_with(first|(refine zN 4 ?_;(try(refine z4 ?_;dsimp only));refine zX 4 67 #[.string (⟨#[]⟩:ByteArray),.int .i64 0,.slice none 0 0] ?_;intro gb647 hg w7 hbox hb;have hge:w.heap.size≤gb647:=(by rw[hg];exact qG HB);clear hg;have hst:Below w.heap.size w (((w7.setCell ⟨gb647,0,none⟩ (.string ((qD l0 x13_kl3).f0))).setCell ⟨gb647,1,none⟩ (.int .i64 ((qD l0 x13_kl3).f1))).setCell ⟨gb647,2,none⟩ (.slice A646_2 ((qD l0 x13_kl3).f2).length c646_2)):=(qM (qM (qM (zv HB hb) hge) hge) hge);have hbx:(((w7.setCell ⟨gb647,0,none⟩ (.string ((qD l0 x13_kl3).f0))).setCell ⟨gb647,1,none⟩ (.int .i64 ((qD l0 x13_kl3).f1))).setCell ⟨gb647,2,none⟩ (.slice A646_2 ((qD l0 x13_kl3).f2).length c646_2)).heap[gb647]?=some (.cells #[.string ((qD l0 x13_kl3).f0),.int .i64 ((qD l0 x13_kl3).f1),.slice A646_2 ((qD l0 x13_kl3).f2).length c646_2] 67 (0,0)):=(qP (cs:= #[.string ((qD l0 x13_kl3).f0),.int .i64 ((qD l0 x13_kl3).f1),.slice none 0 0]) (qP (cs:= #[.string ((qD l0 x13_kl3).f0),.int .i64 0,.slice none 0 0]) (qP (cs:= #[.string (⟨#[]⟩:ByteArray),.int .i64 0,.slice none 0 0]) hbox 0 _ rfl) 1 _ rfl) 2 _ rfl);obtain⟨hs647_0,hs647_1,hs647_2,hf647_0,hf647_1,hf647_2⟩:=zc3 hbox)|((with_reducible refine qY (t:=67) (p:=4) rfl ?_);(try(refine z4 ?_;dsimp only));refine qV (t:=67) (p:=4) (v:=?vo_w8) (w1:=(((w7.setCell ⟨gb647,0,none⟩ (.string ((qD l0 x13_kl3).f0))).setCell ⟨gb647,1,none⟩ (.int .i64 ((qD l0 x13_kl3).f1))).setCell ⟨gb647,2,none⟩ (.slice A646_2 ((qD l0 x13_kl3).f2).length c646_2))) ?hg ?ho ?hn ?hr ?_;(case ho=>rfl);(case hg=>rfl);(case hn=>rfl);(case hr=>first|(go_simp;done)|(go_simp;rfl));intro w8 hw;replace hst:=hst;rw[←hw] at hst hbx;clear hw hb hbox hge HB hs647_0 hf647_0 hs647_1 hf647_1 hs647_2 hf647_2;replace HW:=zz (zv HW.out hst);replace HLkl3:=zz (zv HLkl3.out hst);replace HR0:=zz (Kd.qC HR0.out hst);replace HR646_2:=zz (Kd.qC HR646_2.out hst);replace hx646_0:=qH hx646_0 hst;replace hx646_1:=qH hx646_1 hst;replace hx646_2:=qH hx646_2 hst;obtain⟨hbx647_0,hbx647_1,hbx647_2⟩:=zx3 hbx;have HB:=Below.refl w8.heap.size w8;clear hbx hst))
   try simp only[Act.put,List.setIfInBounds_toArray,List.set_cons_zero,List.set_cons_succ]
   refine vB (C:=fun W_=>Below w8.heap.size w8 W_) zk zk (qQ HB) ?_
   replace H:=zf H
   obtain⟨t648,A9,H⟩:=H
   try dsimp only at H
   replace A9:=zz A9
   by_cases c10:t648=true
   case neg=>
    replace c10:=Bool.eq_false_iff.mpr c10
    subst c10
    rw[if_neg (by decide)] at H
    obtain rfl:=zi H
    repeat(first|go_big_quiet_skip|(go_big_quiet_want;go_big_quiet_op;first|go_big_quiet_on|(with_reducible apply Exists.intro;refine⟨fun W hW=>?_,?_⟩;(first|with_reducible rfl|(go_at_call 45;exact callD (impl_NameOk.calls kl3 _ _ _ A9.out) hW)|(go_simp;with_reducible rfl));go_big_quiet_on)))
    clear HB
    refine zW fun w75 (HB:Below w8.heap.size w8 w75)=>?_
    go_wp2_with(fail)
    go_ret
    exact⟨ze,zv HW.out HB⟩
   subst c10
   rw[if_pos rfl] at H
   by_cases c11:x13_kl3>0
   case neg=>
    rw[if_neg c11] at H
    have c11b0:=zgtn c11
    clear c11
    by_cases c46:(((qD l0 x13_kl3).f2).length:Int)>50
    ·rw[if_pos c46] at H
     have c46b0:=zgt c46
     have c46b1:decide (50<((qD l0 x13_kl3).f2).length)=true:=z1 (by omega)
     clear c46
     obtain rfl:=zi H
     repeat(first|go_big_quiet_skip|(go_big_quiet_want;go_big_quiet_op;first|go_big_quiet_on|(with_reducible apply Exists.intro;refine⟨fun W hW=>?_,?_⟩;(first|with_reducible rfl|(go_at_call 45;exact callD (impl_NameOk.calls kl3 _ _ _ A9.out) hW)|(go_simp;with_reducible rfl));go_big_quiet_on)))
     clear HB
     refine zW fun w47 (HB:Below w8.heap.size w8 w47)=>?_
     go_wp2_with(fail)
     go_ret
     exact⟨ze,zv HW.out HB⟩
    rw[if_neg c46] at H
    have c46b0:=zgtn c46
    have c46b1:decide (50<((qD l0 x13_kl3).f2).length)=false:=z0 (by omega)
    clear c46
    repeat(first|go_big_quiet_skip|(go_big_quiet_want;go_big_quiet_op;first|go_big_quiet_on|(with_reducible apply Exists.intro;refine⟨fun W hW=>?_,?_⟩;(first|with_reducible rfl|(go_at_call 45;exact callD (impl_NameOk.calls kl3 _ _ _ A9.out) hW)|(go_simp;with_reducible rfl));go_big_quiet_on)))
    clear HB
    refine zW fun w49 (HB:Below w8.heap.size w8 w49)=>?_
    go_wp2_with(fail)
    go_loopg[5,49] kl3 (fun kq v5 v49 w'=>∃(x5_kl48:Bool) (x49_kl48:Int),v5= .bool x5_kl48∧v49= .int .i64 x49_kl48∧qB (impl_ProfilesOk.l1 kq l0 x5_kl48 l0 (l0.length:Int) x13_kl3 ((qD l0 x13_kl3).f2) (((qD l0 x13_kl3).f2).length:Int) x49_kl48 ((qD l0 x13_kl3).f0) ((qD l0 x13_kl3).f1) ((qD l0 x13_kl3).f2)=some r)∧qB (kq≤kl3)∧qB (Below w8.heap.size w8 w'))
    case atStart=>exact⟨((((qD l0 x13_kl3).f1)==0)),(0),zr,zr,⟨H⟩,⟨Nat.le_refl _⟩,⟨HB⟩⟩
    case round=>
     clear H HB
     obtain⟨x5_kl48,x49_kl48,rfl,rfl,H,HKkl48,HB⟩:=hrel
     replace HB:=HB.out
     replace H:=H.out
     have HLkl48:=zz (Below.refl w8.heap.size w8)
     cases gk with
     |zero=>exact absurd H (by simp[impl_ProfilesOk.l1])
     |succ kl48=>
      simp only[impl_ProfilesOk.l1] at H
      by_cases c50:x49_kl48<(((qD l0 x13_kl3).f2).length:Int)
      ·rw[if_pos c50] at H
       have c50b0:=z1 c50
       clear c50
       by_cases c51:0≤x49_kl48
       case neg=>exact zno H c51
       rw[if_pos c51] at H
       have c51b0:=z1 c51
       clear c51
       by_cases c52:x49_kl48<(((qD l0 x13_kl3).f2).length:Int)
       case neg=>exact zno H c52
       rw[if_pos c52] at H
       have c52b0:=z1 c52
       clear c52
       have p650:0≤(x49_kl48:Int):=z2
       have q650:(x49_kl48:Int)<(((qD l0 x13_kl3).f2).length:Int):=z2
       obtain⟨ad650,e650,hx650_0,hx650_1⟩:=at_T70 HR646_2.out x49_kl48 p650 q650
       cases e650
       replace hx650_0:=qR hx650_0
       replace hx650_1:=qR hx650_1
       replace p650:=eq_true p650
       replace q650:=eq_true q650
       go_wp2_with(first|(refine zN 7 ?_;(try(refine z4 ?_;dsimp only));refine zX 7 70 #[.int .i64 0,.string (⟨#[]⟩:ByteArray)] ?_;intro gb651 hg w53 hbox hb;have hge:w8.heap.size≤gb651:=(by rw[hg];exact qG HB);clear hg;have hst:Below w8.heap.size w8 ((w53.setCell ⟨gb651,0,none⟩ (.int .i64 ((qN ((qD l0 x13_kl3).f2) x49_kl48).f0))).setCell ⟨gb651,1,none⟩ (.string ((qN ((qD l0 x13_kl3).f2) x49_kl48).f1))):=(qM (qM (zv HB hb) hge) hge);have hbx:((w53.setCell ⟨gb651,0,none⟩ (.int .i64 ((qN ((qD l0 x13_kl3).f2) x49_kl48).f0))).setCell ⟨gb651,1,none⟩ (.string ((qN ((qD l0 x13_kl3).f2) x49_kl48).f1))).heap[gb651]?=some (.cells #[.int .i64 ((qN ((qD l0 x13_kl3).f2) x49_kl48).f0),.string ((qN ((qD l0 x13_kl3).f2) x49_kl48).f1)] 70 (0,0)):=(qP (cs:= #[.int .i64 ((qN ((qD l0 x13_kl3).f2) x49_kl48).f0),.string (⟨#[]⟩:ByteArray)]) (qP (cs:= #[.int .i64 0,.string (⟨#[]⟩:ByteArray)]) hbox 0 _ rfl) 1 _ rfl);obtain⟨hs651_0,hs651_1,hf651_0,hf651_1⟩:=zc2 hbox)|((with_reducible refine qY (t:=70) (p:=7) rfl ?_);(try(refine z4 ?_;dsimp only));refine qV (t:=70) (p:=7) (v:=?vo_w54) (w1:=((w53.setCell ⟨gb651,0,none⟩ (.int .i64 ((qN ((qD l0 x13_kl3).f2) x49_kl48).f0))).setCell ⟨gb651,1,none⟩ (.string ((qN ((qD l0 x13_kl3).f2) x49_kl48).f1)))) ?hg ?ho ?hn ?hr ?_;(case ho=>rfl);(case hg=>rfl);(case hn=>rfl);(case hr=>first|(go_simp;done)|(go_simp;rfl));intro w54 hw;replace hst:=hst;rw[←hw] at hst hbx;clear hw hb hbox hge HB hs651_0 hf651_0 hs651_1 hf651_1;replace HW:=zz (zv HW.out hst);replace HLkl3:=zz (zv HLkl3.out hst);replace HLkl48:=zz (zv HLkl48.out hst);replace HR0:=zz (Kd.qC HR0.out hst);replace HR646_2:=zz (Kd.qC HR646_2.out hst);replace hx646_0:=qH hx646_0 hst;replace hx646_1:=qH hx646_1 hst;replace hx646_2:=qH hx646_2 hst;replace hbx647_0:=qH hbx647_0 hst;replace hbx647_1:=qH hbx647_1 hst;replace hbx647_2:=qH hbx647_2 hst;replace hx650_0:=qH hx650_0 hst;replace hx650_1:=qH hx650_1 hst;obtain⟨hbx651_0,hbx651_1⟩:=zx2 hbx;have HB:=Below.refl w54.heap.size w54;clear hbx hst))
       try simp only[Act.put,List.setIfInBounds_toArray,List.set_cons_zero,List.set_cons_succ]
       refine vB (C:=fun W_=>Below w54.heap.size w54 W_) zk zk (qQ HB) ?_
       by_cases c55:((qN ((qD l0 x13_kl3).f2) x49_kl48).f0)<1
       ·rw[if_pos c55] at H
        have c55b0:=z1 c55
        clear c55
        obtain rfl:=zi H
        repeat(first|go_big_quiet_skip|(go_big_quiet_want;go_big_quiet_op;first|go_big_quiet_on|(refine zE ?_;go_big_quiet_on)))
        clear HB
        refine zW fun w56 (HB:Below w54.heap.size w54 w56)=>?_
        go_wp2_with(fail)
        go_ret
        exact⟨ze,zv HW.out HB⟩
       rw[if_neg c55] at H
       have c55b0:=z0 c55
       clear c55
       by_cases c57:((qN ((qD l0 x13_kl3).f2) x49_kl48).f0)>9007199254740992
       ·rw[if_pos c57] at H
        have c57b0:=zgt c57
        clear c57
        obtain rfl:=zi H
        repeat(first|go_big_quiet_skip|(go_big_quiet_want;go_big_quiet_op;first|go_big_quiet_on|(refine zE ?_;go_big_quiet_on)))
        clear HB
        refine zW fun w58 (HB:Below w54.heap.size w54 w58)=>?_
        go_wp2_with(fail)
        go_ret
        exact⟨ze,zv HW.out HB⟩
       rw[if_neg c57] at H
       have c57b0:=zgtn c57
       clear c57
       replace H:=zf H
       obtain⟨t652,A59,H⟩:=H
       try dsimp only at H
       replace A59:=zz A59
       by_cases c60:t652=true
       case neg=>
        replace c60:=Bool.eq_false_iff.mpr c60
        subst c60
        rw[if_neg (by decide)] at H
        obtain rfl:=zi H
        repeat(first|go_big_quiet_skip|(go_big_quiet_want;go_big_quiet_op;first|go_big_quiet_on|(with_reducible apply Exists.intro;refine⟨fun W hW=>?_,?_⟩;(first|with_reducible rfl|(go_at_call 46;exact callD (impl_AddressOk.calls kl48 _ _ _ A59.out) hW)|(go_simp;with_reducible rfl));go_big_quiet_on)))
        clear HB
        refine zW fun w73 (HB:Below w54.heap.size w54 w73)=>?_
        go_wp2_with(fail)
        go_ret
        exact⟨ze,zv HW.out HB⟩
       subst c60
       rw[if_pos rfl] at H
       by_cases c61:x49_kl48>0
       case neg=>
        rw[if_neg c61] at H
        have c61b0:=zgtn c61
        clear c61
        by_cases c70:x5_kl48=true
        ·subst c70
         rw[if_pos rfl] at H
         repeat(first|go_big_quiet_skip|(go_big_quiet_want;go_big_quiet_op;first|go_big_quiet_on|(with_reducible apply Exists.intro;refine⟨fun W hW=>?_,?_⟩;(first|with_reducible rfl|(go_at_call 46;exact callD (impl_AddressOk.calls kl48 _ _ _ A59.out) hW)|(go_simp;with_reducible rfl));go_big_quiet_on)))
         clear HB
         refine zW fun w71 (HB:Below w54.heap.size w54 w71)=>?_
         go_wp2_with(fail)
         go_roundg kl48
         case measure=>have:=HKkl3.out;have:=HKkl48.out;omega
         case rel=>exact⟨(true),(wrap64 (x49_kl48+1)),zr,zr,⟨H⟩,⟨by have:=HKkl3.out;have:=HKkl48.out;omega⟩,⟨zv HLkl48.out HB⟩⟩
        replace c70:=Bool.eq_false_iff.mpr c70
        subst c70
        rw[if_neg (by decide)] at H
        repeat(first|go_big_quiet_skip|(go_big_quiet_want;go_big_quiet_op;first|go_big_quiet_on|(with_reducible apply Exists.intro;refine⟨fun W hW=>?_,?_⟩;(first|with_reducible rfl|(go_at_call 46;exact callD (impl_AddressOk.calls kl48 _ _ _ A59.out) hW)|(go_simp;with_reducible rfl));go_big_quiet_on)))
        clear HB
        refine zW fun w72 (HB:Below w54.heap.size w54 w72)=>?_
        go_wp2_with(fail)
        go_roundg kl48
        case measure=>have:=HKkl3.out;have:=HKkl48.out;omega
        case rel=>exact⟨((((qN ((qD l0 x13_kl3).f2) x49_kl48).f0)==((qD l0 x13_kl3).f1))),(wrap64 (x49_kl48+1)),zr,zr,⟨H⟩,⟨by have:=HKkl3.out;have:=HKkl48.out;omega⟩,⟨zv HLkl48.out HB⟩⟩
       rw[if_pos c61] at H
       have c61b0:=zgt c61
       clear c61
       obtain⟨ji62,hji62⟩:∃j_:Int,(wrap64 (x49_kl48 - 1))=j_:=⟨_,rfl⟩
       (first|rw[hji62] at H|simp only[hji62] at H)
       have hji62w:(IntKind.i64.wrap (x49_kl48 - 1))=ji62:=(i64_w _).trans hji62
       (try rw[hji62] at A9)
       (try rw[hji62] at A59)
       by_cases c63:0≤(ji62)
       case neg=>exact zno H c63
       rw[if_pos c63] at H
       have c63b0:=z1 c63
       clear c63
       by_cases c64:(ji62)<(((qD l0 x13_kl3).f2).length:Int)
       case neg=>exact zno H c64
       rw[if_pos c64] at H
       have c64b0:=z1 c64
       clear c64
       have p653:0≤((ji62):Int):=z2
       have q653:((ji62):Int)<(((qD l0 x13_kl3).f2).length:Int):=z2
       obtain⟨ad653,e653,hx653_0,hx653_1⟩:=at_T70 HR646_2.out (ji62) p653 q653
       obtain rfl:ad650=ad653:=(by injection e653)
       replace hx653_0:=qR hx653_0
       replace hx653_1:=qR hx653_1
       replace p653:=eq_true p653
       replace q653:=eq_true q653
       by_cases c65:((qN ((qD l0 x13_kl3).f2) (ji62)).f0)≥((qN ((qD l0 x13_kl3).f2) x49_kl48).f0)
       ·rw[if_pos c65] at H
        have c65b0:=zge c65
        clear c65
        obtain rfl:=zi H
        repeat(first|go_big_quiet_skip|(go_big_quiet_want;go_big_quiet_op;first|go_big_quiet_on|(with_reducible apply Exists.intro;refine⟨fun W hW=>?_,?_⟩;(first|with_reducible rfl|(go_at_call 46;exact callD (impl_AddressOk.calls kl48 _ _ _ A59.out) hW)|(go_simp;with_reducible rfl));go_big_quiet_on)))
        clear HB
        refine zW fun w66 (HB:Below w54.heap.size w54 w66)=>?_
        go_wp2_with(fail)
        go_ret
        exact⟨ze,zv HW.out HB⟩
       rw[if_neg c65] at H
       have c65b0:=zgen c65
       clear c65
       by_cases c67:x5_kl48=true
       ·subst c67
        rw[if_pos rfl] at H
        repeat(first|go_big_quiet_skip|(go_big_quiet_want;go_big_quiet_op;first|go_big_quiet_on|(with_reducible apply Exists.intro;refine⟨fun W hW=>?_,?_⟩;(first|with_reducible rfl|(go_at_call 46;exact callD (impl_AddressOk.calls kl48 _ _ _ A59.out) hW)|(go_simp;with_reducible rfl));go_big_quiet_on)))
        clear HB
        refine zW fun w68 (HB:Below w54.heap.size w54 w68)=>?_
        go_wp2_with(fail)
        go_roundg kl48
        case measure=>have:=HKkl3.out;have:=HKkl48.out;omega
        case rel=>exact⟨(true),(wrap64 (x49_kl48+1)),zr,zr,⟨H⟩,⟨by have:=HKkl3.out;have:=HKkl48.out;omega⟩,⟨zv HLkl48.out HB⟩⟩
       replace c67:=Bool.eq_false_iff.mpr c67
       subst c67
       rw[if_neg (by decide)] at H
       repeat(first|go_big_quiet_skip|(go_big_quiet_want;go_big_quiet_op;first|go_big_quiet_on|(with_reducible apply Exists.intro;refine⟨fun W hW=>?_,?_⟩;(first|with_reducible rfl|(go_at_call 46;exact callD (impl_AddressOk.calls kl48 _ _ _ A59.out) hW)|(go_simp;with_reducible rfl));go_big_quiet_on)))
       clear HB
       refine zW fun w69 (HB:Below w54.heap.size w54 w69)=>?_
       go_wp2_with(fail)
       go_roundg kl48
       case measure=>have:=HKkl3.out;have:=HKkl48.out;omega
       case rel=>exact⟨((((qN ((qD l0 x13_kl3).f2) x49_kl48).f0)==((qD l0 x13_kl3).f1))),(wrap64 (x49_kl48+1)),zr,zr,⟨H⟩,⟨by have:=HKkl3.out;have:=HKkl48.out;omega⟩,⟨zv HLkl48.out HB⟩⟩
      rw[if_neg c50] at H
      have c50b0:=z0 c50
      clear c50
      by_cases c74:x5_kl48=true
      ·subst c74
       rw[if_pos rfl] at H
       go_wp2_with(fail)
       go_roundg kl48
       case measure=>have:=HKkl3.out;have:=HKkl48.out;omega
       case rel=>exact⟨(wrap64 (x13_kl3+1)),zr,⟨H⟩,⟨by have:=HKkl3.out;have:=HKkl48.out;omega⟩,⟨zv HLkl3.out HB⟩⟩
      replace c74:=Bool.eq_false_iff.mpr c74
      subst c74
      rw[if_neg (by decide)] at H
      obtain rfl:=zi H
      go_wp2_with(fail)
      go_ret
      exact⟨ze,zv HW.out HB⟩
   rw[if_pos c11] at H
   have c11b0:=zgt c11
   clear c11
   obtain⟨ji12,hji12⟩:∃j_:Int,(wrap64 (x13_kl3 - 1))=j_:=⟨_,rfl⟩
   (first|rw[hji12] at H|simp only[hji12] at H)
   have hji12w:(IntKind.i64.wrap (x13_kl3 - 1))=ji12:=(i64_w _).trans hji12
   (try rw[hji12] at A9)
   by_cases c13:0≤(ji12)
   case neg=>exact zno H c13
   rw[if_pos c13] at H
   have c13b0:=z1 c13
   clear c13
   by_cases c14:(ji12)<(l0.length:Int)
   case neg=>exact zno H c14
   rw[if_pos c14] at H
   have c14b0:=z1 c14
   clear c14
   have p649:0≤((ji12):Int):=z2
   have q649:((ji12):Int)<(l0.length:Int):=z2
   obtain⟨ad649,A649_2,c649_2,e649,hx649_0,hx649_1,hx649_2,hl649_2,hC649_2⟩:=at_T67 HR0.out (ji12) p649 q649
   obtain rfl:ad646=ad649:=(by injection e649)
   replace hx649_0:=qR hx649_0
   replace hx649_1:=qR hx649_1
   replace hx649_2:=qR hx649_2
   have HR649_2:=zz hC649_2
   have HC649_2:=zz hl649_2
   clear hC649_2 hl649_2
   replace p649:=eq_true p649
   replace q649:=eq_true q649
   by_cases c15:((Op.bytesLess (((qD l0 (ji12)).f0).toList) (((qD l0 x13_kl3).f0).toList))=true)
   case neg=>
    rw[if_neg c15] at H
    have c15b0:(Op.bytesLess (((qD l0 (ji12)).f0).toList) (((qD l0 x13_kl3).f0).toList))=false:=by simpa using c15
    clear c15
    obtain rfl:=zi H
    repeat(first|go_big_quiet_skip|(go_big_quiet_want;go_big_quiet_op;first|go_big_quiet_on|(with_reducible apply Exists.intro;refine⟨fun W hW=>?_,?_⟩;(first|with_reducible rfl|(go_at_call 45;exact callD (impl_NameOk.calls kl3 _ _ _ A9.out) hW)|(go_simp;with_reducible rfl));go_big_quiet_on)))
    clear HB
    refine zW fun w45 (HB:Below w8.heap.size w8 w45)=>?_
    go_wp2_with(fail)
    go_ret
    exact⟨ze,zv HW.out HB⟩
   rw[if_pos c15] at H
   have c15b0:(Op.bytesLess (((qD l0 (ji12)).f0).toList) (((qD l0 x13_kl3).f0).toList))=true:=c15
   clear c15
   by_cases c16:(((qD l0 x13_kl3).f2).length:Int)>50
   ·rw[if_pos c16] at H
    have c16b0:=zgt c16
    have c16b1:decide (50<((qD l0 x13_kl3).f2).length)=true:=z1 (by omega)
    clear c16
    obtain rfl:=zi H
    repeat(first|go_big_quiet_skip|(go_big_quiet_want;go_big_quiet_op;first|go_big_quiet_on|(with_reducible apply Exists.intro;refine⟨fun W hW=>?_,?_⟩;(first|with_reducible rfl|(go_at_call 45;exact callD (impl_NameOk.calls kl3 _ _ _ A9.out) hW)|(go_simp;with_reducible rfl));go_big_quiet_on)))
    clear HB
    refine zW fun w17 (HB:Below w8.heap.size w8 w17)=>?_
    go_wp2_with(fail)
    go_ret
    exact⟨ze,zv HW.out HB⟩
   rw[if_neg c16] at H
   have c16b0:=zgtn c16
   have c16b1:decide (50<((qD l0 x13_kl3).f2).length)=false:=z0 (by omega)
   clear c16
   repeat(first|go_big_quiet_skip|(go_big_quiet_want;go_big_quiet_op;first|go_big_quiet_on|(with_reducible apply Exists.intro;refine⟨fun W hW=>?_,?_⟩;(first|with_reducible rfl|(go_at_call 45;exact callD (impl_NameOk.calls kl3 _ _ _ A9.out) hW)|(go_simp;with_reducible rfl));go_big_quiet_on)))
   clear HB
   refine zW fun w19 (HB:Below w8.heap.size w8 w19)=>?_
   go_wp2_with(fail)
   go_loopg[5,49] kl3 (fun kq v5 v49 w'=>∃(x5_kl18:Bool) (x49_kl18:Int),v5= .bool x5_kl18∧v49= .int .i64 x49_kl18∧qB (impl_ProfilesOk.l1 kq l0 x5_kl18 l0 (l0.length:Int) x13_kl3 ((qD l0 x13_kl3).f2) (((qD l0 x13_kl3).f2).length:Int) x49_kl18 ((qD l0 x13_kl3).f0) ((qD l0 x13_kl3).f1) ((qD l0 x13_kl3).f2)=some r)∧qB (kq≤kl3)∧qB (Below w8.heap.size w8 w'))
   case atStart=>exact⟨((((qD l0 x13_kl3).f1)==0)),(0),zr,zr,⟨H⟩,⟨Nat.le_refl _⟩,⟨HB⟩⟩
   case round=>
    clear H HB
    obtain⟨x5_kl18,x49_kl18,rfl,rfl,H,HKkl18,HB⟩:=hrel
    replace HB:=HB.out
    replace H:=H.out
    have HLkl18:=zz (Below.refl w8.heap.size w8)
    cases gk with
    |zero=>exact absurd H (by simp[impl_ProfilesOk.l1])
    |succ kl18=>
     simp only[impl_ProfilesOk.l1] at H
     by_cases c20:x49_kl18<(((qD l0 x13_kl3).f2).length:Int)
     ·rw[if_pos c20] at H
      have c20b0:=z1 c20
      clear c20
      by_cases c21:0≤x49_kl18
      case neg=>exact zno H c21
      rw[if_pos c21] at H
      have c21b0:=z1 c21
      clear c21
      by_cases c22:x49_kl18<(((qD l0 x13_kl3).f2).length:Int)
      case neg=>exact zno H c22
      rw[if_pos c22] at H
      have c22b0:=z1 c22
      clear c22
      have p650:0≤(x49_kl18:Int):=z2
      have q650:(x49_kl18:Int)<(((qD l0 x13_kl3).f2).length:Int):=z2
      obtain⟨ad650,e650,hx650_0,hx650_1⟩:=at_T70 HR646_2.out x49_kl18 p650 q650
      cases e650
      replace hx650_0:=qR hx650_0
      replace hx650_1:=qR hx650_1
      replace p650:=eq_true p650
      replace q650:=eq_true q650
      go_wp2_with(first|(refine zN 7 ?_;(try(refine z4 ?_;dsimp only));refine zX 7 70 #[.int .i64 0,.string (⟨#[]⟩:ByteArray)] ?_;intro gb651 hg w23 hbox hb;have hge:w8.heap.size≤gb651:=(by rw[hg];exact qG HB);clear hg;have hst:Below w8.heap.size w8 ((w23.setCell ⟨gb651,0,none⟩ (.int .i64 ((qN ((qD l0 x13_kl3).f2) x49_kl18).f0))).setCell ⟨gb651,1,none⟩ (.string ((qN ((qD l0 x13_kl3).f2) x49_kl18).f1))):=(qM (qM (zv HB hb) hge) hge);have hbx:((w23.setCell ⟨gb651,0,none⟩ (.int .i64 ((qN ((qD l0 x13_kl3).f2) x49_kl18).f0))).setCell ⟨gb651,1,none⟩ (.string ((qN ((qD l0 x13_kl3).f2) x49_kl18).f1))).heap[gb651]?=some (.cells #[.int .i64 ((qN ((qD l0 x13_kl3).f2) x49_kl18).f0),.string ((qN ((qD l0 x13_kl3).f2) x49_kl18).f1)] 70 (0,0)):=(qP (cs:= #[.int .i64 ((qN ((qD l0 x13_kl3).f2) x49_kl18).f0),.string (⟨#[]⟩:ByteArray)]) (qP (cs:= #[.int .i64 0,.string (⟨#[]⟩:ByteArray)]) hbox 0 _ rfl) 1 _ rfl);obtain⟨hs651_0,hs651_1,hf651_0,hf651_1⟩:=zc2 hbox)|((with_reducible refine qY (t:=70) (p:=7) rfl ?_);(try(refine z4 ?_;dsimp only));refine qV (t:=70) (p:=7) (v:=?vo_w24) (w1:=((w23.setCell ⟨gb651,0,none⟩ (.int .i64 ((qN ((qD l0 x13_kl3).f2) x49_kl18).f0))).setCell ⟨gb651,1,none⟩ (.string ((qN ((qD l0 x13_kl3).f2) x49_kl18).f1)))) ?hg ?ho ?hn ?hr ?_;(case ho=>rfl);(case hg=>rfl);(case hn=>rfl);(case hr=>first|(go_simp;done)|(go_simp;rfl));intro w24 hw;replace hst:=hst;rw[←hw] at hst hbx;clear hw hb hbox hge HB hs651_0 hf651_0 hs651_1 hf651_1;replace HW:=zz (zv HW.out hst);replace HLkl3:=zz (zv HLkl3.out hst);replace HLkl18:=zz (zv HLkl18.out hst);replace HR0:=zz (Kd.qC HR0.out hst);replace HR646_2:=zz (Kd.qC HR646_2.out hst);replace HR649_2:=zz (Kd.qC HR649_2.out hst);replace hx646_0:=qH hx646_0 hst;replace hx646_1:=qH hx646_1 hst;replace hx646_2:=qH hx646_2 hst;replace hbx647_0:=qH hbx647_0 hst;replace hbx647_1:=qH hbx647_1 hst;replace hbx647_2:=qH hbx647_2 hst;replace hx649_0:=qH hx649_0 hst;replace hx649_1:=qH hx649_1 hst;replace hx649_2:=qH hx649_2 hst;replace hx650_0:=qH hx650_0 hst;replace hx650_1:=qH hx650_1 hst;obtain⟨hbx651_0,hbx651_1⟩:=zx2 hbx;have HB:=Below.refl w24.heap.size w24;clear hbx hst))
      try simp only[Act.put,List.setIfInBounds_toArray,List.set_cons_zero,List.set_cons_succ]
      refine vB (C:=fun W_=>Below w24.heap.size w24 W_) zk zk (qQ HB) ?_
      by_cases c25:((qN ((qD l0 x13_kl3).f2) x49_kl18).f0)<1
      ·rw[if_pos c25] at H
       have c25b0:=z1 c25
       clear c25
       obtain rfl:=zi H
       repeat(first|go_big_quiet_skip|(go_big_quiet_want;go_big_quiet_op;first|go_big_quiet_on|(refine zE ?_;go_big_quiet_on)))
       clear HB
       refine zW fun w26 (HB:Below w24.heap.size w24 w26)=>?_
       go_wp2_with(fail)
       go_ret
       exact⟨ze,zv HW.out HB⟩
      rw[if_neg c25] at H
      have c25b0:=z0 c25
      clear c25
      by_cases c27:((qN ((qD l0 x13_kl3).f2) x49_kl18).f0)>9007199254740992
      ·rw[if_pos c27] at H
       have c27b0:=zgt c27
       clear c27
       obtain rfl:=zi H
       repeat(first|go_big_quiet_skip|(go_big_quiet_want;go_big_quiet_op;first|go_big_quiet_on|(refine zE ?_;go_big_quiet_on)))
       clear HB
       refine zW fun w28 (HB:Below w24.heap.size w24 w28)=>?_
       go_wp2_with(fail)
       go_ret
       exact⟨ze,zv HW.out HB⟩
      rw[if_neg c27] at H
      have c27b0:=zgtn c27
      clear c27
      replace H:=zf H
      obtain⟨t652,A29,H⟩:=H
      try dsimp only at H
      replace A29:=zz A29
      by_cases c30:t652=true
      case neg=>
       replace c30:=Bool.eq_false_iff.mpr c30
       subst c30
       rw[if_neg (by decide)] at H
       obtain rfl:=zi H
       repeat(first|go_big_quiet_skip|(go_big_quiet_want;go_big_quiet_op;first|go_big_quiet_on|(with_reducible apply Exists.intro;refine⟨fun W hW=>?_,?_⟩;(first|with_reducible rfl|(go_at_call 46;exact callD (impl_AddressOk.calls kl18 _ _ _ A29.out) hW)|(go_simp;with_reducible rfl));go_big_quiet_on)))
       clear HB
       refine zW fun w43 (HB:Below w24.heap.size w24 w43)=>?_
       go_wp2_with(fail)
       go_ret
       exact⟨ze,zv HW.out HB⟩
      subst c30
      rw[if_pos rfl] at H
      by_cases c31:x49_kl18>0
      case neg=>
       rw[if_neg c31] at H
       have c31b0:=zgtn c31
       clear c31
       by_cases c40:x5_kl18=true
       ·subst c40
        rw[if_pos rfl] at H
        repeat(first|go_big_quiet_skip|(go_big_quiet_want;go_big_quiet_op;first|go_big_quiet_on|(with_reducible apply Exists.intro;refine⟨fun W hW=>?_,?_⟩;(first|with_reducible rfl|(go_at_call 46;exact callD (impl_AddressOk.calls kl18 _ _ _ A29.out) hW)|(go_simp;with_reducible rfl));go_big_quiet_on)))
        clear HB
        refine zW fun w41 (HB:Below w24.heap.size w24 w41)=>?_
        go_wp2_with(fail)
        go_roundg kl18
        case measure=>have:=HKkl3.out;have:=HKkl18.out;omega
        case rel=>exact⟨(true),(wrap64 (x49_kl18+1)),zr,zr,⟨H⟩,⟨by have:=HKkl3.out;have:=HKkl18.out;omega⟩,⟨zv HLkl18.out HB⟩⟩
       replace c40:=Bool.eq_false_iff.mpr c40
       subst c40
       rw[if_neg (by decide)] at H
       repeat(first|go_big_quiet_skip|(go_big_quiet_want;go_big_quiet_op;first|go_big_quiet_on|(with_reducible apply Exists.intro;refine⟨fun W hW=>?_,?_⟩;(first|with_reducible rfl|(go_at_call 46;exact callD (impl_AddressOk.calls kl18 _ _ _ A29.out) hW)|(go_simp;with_reducible rfl));go_big_quiet_on)))
       clear HB
       refine zW fun w42 (HB:Below w24.heap.size w24 w42)=>?_
       go_wp2_with(fail)
       go_roundg kl18
       case measure=>have:=HKkl3.out;have:=HKkl18.out;omega
       case rel=>exact⟨((((qN ((qD l0 x13_kl3).f2) x49_kl18).f0)==((qD l0 x13_kl3).f1))),(wrap64 (x49_kl18+1)),zr,zr,⟨H⟩,⟨by have:=HKkl3.out;have:=HKkl18.out;omega⟩,⟨zv HLkl18.out HB⟩⟩
      rw[if_pos c31] at H
      have c31b0:=zgt c31
      clear c31
      obtain⟨ji32,hji32⟩:∃j_:Int,(wrap64 (x49_kl18 - 1))=j_:=⟨_,rfl⟩
      (first|rw[hji32] at H|simp only[hji32] at H)
      have hji32w:(IntKind.i64.wrap (x49_kl18 - 1))=ji32:=(i64_w _).trans hji32
      (try rw[hji32] at A9)
      (try rw[hji32] at A29)
      by_cases c33:0≤(ji32)
      case neg=>exact zno H c33
      rw[if_pos c33] at H
      have c33b0:=z1 c33
      clear c33
      by_cases c34:(ji32)<(((qD l0 x13_kl3).f2).length:Int)
      case neg=>exact zno H c34
      rw[if_pos c34] at H
      have c34b0:=z1 c34
      clear c34
      have p653:0≤((ji32):Int):=z2
      have q653:((ji32):Int)<(((qD l0 x13_kl3).f2).length:Int):=z2
      obtain⟨ad653,e653,hx653_0,hx653_1⟩:=at_T70 HR646_2.out (ji32) p653 q653
      obtain rfl:ad650=ad653:=(by injection e653)
      replace hx653_0:=qR hx653_0
      replace hx653_1:=qR hx653_1
      replace p653:=eq_true p653
      replace q653:=eq_true q653
      by_cases c35:((qN ((qD l0 x13_kl3).f2) (ji32)).f0)≥((qN ((qD l0 x13_kl3).f2) x49_kl18).f0)
      ·rw[if_pos c35] at H
       have c35b0:=zge c35
       clear c35
       obtain rfl:=zi H
       repeat(first|go_big_quiet_skip|(go_big_quiet_want;go_big_quiet_op;first|go_big_quiet_on|(with_reducible apply Exists.intro;refine⟨fun W hW=>?_,?_⟩;(first|with_reducible rfl|(go_at_call 46;exact callD (impl_AddressOk.calls kl18 _ _ _ A29.out) hW)|(go_simp;with_reducible rfl));go_big_quiet_on)))
       clear HB
       refine zW fun w36 (HB:Below w24.heap.size w24 w36)=>?_
       go_wp2_with(fail)
       go_ret
       exact⟨ze,zv HW.out HB⟩
      rw[if_neg c35] at H
      have c35b0:=zgen c35
      clear c35
      by_cases c37:x5_kl18=true
      ·subst c37
       rw[if_pos rfl] at H
       repeat(first|go_big_quiet_skip|(go_big_quiet_want;go_big_quiet_op;first|go_big_quiet_on|(with_reducible apply Exists.intro;refine⟨fun W hW=>?_,?_⟩;(first|with_reducible rfl|(go_at_call 46;exact callD (impl_AddressOk.calls kl18 _ _ _ A29.out) hW)|(go_simp;with_reducible rfl));go_big_quiet_on)))
       clear HB
       refine zW fun w38 (HB:Below w24.heap.size w24 w38)=>?_
       go_wp2_with(fail)
       go_roundg kl18
       case measure=>have:=HKkl3.out;have:=HKkl18.out;omega
       case rel=>exact⟨(true),(wrap64 (x49_kl18+1)),zr,zr,⟨H⟩,⟨by have:=HKkl3.out;have:=HKkl18.out;omega⟩,⟨zv HLkl18.out HB⟩⟩
      replace c37:=Bool.eq_false_iff.mpr c37
      subst c37
      rw[if_neg (by decide)] at H
      repeat(first|go_big_quiet_skip|(go_big_quiet_want;go_big_quiet_op;first|go_big_quiet_on|(with_reducible apply Exists.intro;refine⟨fun W hW=>?_,?_⟩;(first|with_reducible rfl|(go_at_call 46;exact callD (impl_AddressOk.calls kl18 _ _ _ A29.out) hW)|(go_simp;with_reducible rfl));go_big_quiet_on)))
      clear HB
      refine zW fun w39 (HB:Below w24.heap.size w24 w39)=>?_
      go_wp2_with(fail)
      go_roundg kl18
      case measure=>have:=HKkl3.out;have:=HKkl18.out;omega
      case rel=>exact⟨((((qN ((qD l0 x13_kl3).f2) x49_kl18).f0)==((qD l0 x13_kl3).f1))),(wrap64 (x49_kl18+1)),zr,zr,⟨H⟩,⟨by have:=HKkl3.out;have:=HKkl18.out;omega⟩,⟨zv HLkl18.out HB⟩⟩
     rw[if_neg c20] at H
     have c20b0:=z0 c20
     clear c20
     by_cases c44:x5_kl18=true
     ·subst c44
      rw[if_pos rfl] at H
      go_wp2_with(fail)
      go_roundg kl18
      case measure=>have:=HKkl3.out;have:=HKkl18.out;omega
      case rel=>exact⟨(wrap64 (x13_kl3+1)),zr,⟨H⟩,⟨by have:=HKkl3.out;have:=HKkl18.out;omega⟩,⟨zv HLkl3.out HB⟩⟩
     replace c44:=Bool.eq_false_iff.mpr c44
     subst c44
     rw[if_neg (by decide)] at H
     obtain rfl:=zi H
     go_wp2_with(fail)
     go_ret
     exact⟨ze,zv HW.out HB⟩
def spec_l13Gen.l0:Nat→Int→Int→ByteArray→Int→List (S70)→Option (Int)
 |0,_,_,_,_,_=>none
 |k+1,x1,x5,x450000,x450001,x450002=>if x5<(x450002.length:Int) then(if 0≤x5 then(if((qN x450002 x5).f0)=x1 then(some x5) else(spec_l13Gen.l0 k x1 (wrap64 (x5+1)) x450000 x450001 x450002)) else(none)) else(some (-1))
def spec_l13Gen.f(k:Nat)(a0_0:ByteArray)(a0_1:Int)(l0_2:List (S70))(a1:Int):Option (Int):=spec_l13Gen.l0 k a1 0 a0_0 a0_1 l0_2
theorem spec_l13Gen.calls(k:Nat)(a0_0:ByteArray)(a0_1:Int)(A0_2:Option Addr)(c0_2:Nat)(l0_2:List (S70))(a1:Int)(r:Int)(w:World)(hr0_2:Kd.C k70 w A0_2 l0_2.length l0_2)(hc0_2:l0_2.length≤c0_2)(h:spec_l13Gen.f k a0_0 a0_1 l0_2 a1=some r):
 Calls Tryz.prog 80 #[.agg #[.string a0_0,.int .i64 a0_1,.slice A0_2 l0_2.length c0_2],.int .i64 a1] w fun e w'=>e= .returned (.int .i64 r)∧Below w.heap.size w w':=by
 have hu67:=Tryz.underlying67
 have HR0_2:=zz hr0_2
 have HC0_2:=zz hc0_2
 clear hr0_2 hc0_2
 have HB:=zz (Below.refl w.heap.size w)
 unfold spec_l13Gen.f at h
 have H:=h
 clear h
 replace HB:=HB.out
 have HW:=zz (Below.refl w.heap.size w)
 go_enter Tryz.func80,Tryz.ntmps80
 go_wp2_with(first|(refine zN 2 ?_;(try(refine z4 ?_;dsimp only));refine zX 2 67 #[.string a0_0,.int .i64 a0_1,.slice A0_2 l0_2.length c0_2] ?_;intro gb449 hg w4 hbox hb;have hst:=zv HB hb;clear hg hb HB;replace HW:=zz (zv HW.out hst);replace HR0_2:=zz (Kd.qC HR0_2.out hst);obtain⟨hbx449_0,hbx449_1,hbx449_2⟩:=zx3 hbox;have HB:=Below.refl w4.heap.size w4;clear hbox hst))
 go_loopg[5] k (fun kq v5 w'=>∃(x5_kl3:Int),v5= .int .i64 x5_kl3∧qB (spec_l13Gen.l0 kq a1 x5_kl3 a0_0 a0_1 l0_2=some r)∧qB (kq≤k)∧qB (Below w4.heap.size w4 w'))
 case atStart=>exact⟨(0),zr,⟨H⟩,⟨Nat.le_refl _⟩,⟨HB⟩⟩
 case round=>
  clear H HB
  obtain⟨x5_kl3,rfl,H,HKkl3,HB⟩:=hrel
  replace HB:=HB.out
  replace H:=H.out
  have HLkl3:=zz (Below.refl w4.heap.size w4)
  cases gk with
  |zero=>exact absurd H (by simp[spec_l13Gen.l0])
  |succ kl3=>
   simp only[spec_l13Gen.l0] at H
   by_cases c5:x5_kl3<(l0_2.length:Int)
   case neg=>
    rw[if_neg c5] at H
    have c5b0:=z0 c5
    clear c5
    obtain rfl:=zi H
    go_wp2_with(fail)
    go_ret
    exact⟨ze,zv HW.out HB⟩
   rw[if_pos c5] at H
   have c5b0:=z1 c5
   clear c5
   by_cases c6:0≤x5_kl3
   case neg=>exact zno H c6
   rw[if_pos c6] at H
   have c6b0:=z1 c6
   clear c6
   have p450:0≤(x5_kl3:Int):=z2
   have q450:(x5_kl3:Int)<(l0_2.length:Int):=z2
   obtain⟨ad450,e450,hx450_0,hx450_1⟩:=at_T70 HR0_2.out x5_kl3 p450 q450
   cases e450
   replace hx450_0:=qR hx450_0
   replace hx450_1:=qR hx450_1
   replace p450:=eq_true p450
   replace q450:=eq_true q450
   by_cases c7:((qN l0_2 x5_kl3).f0)=a1
   case neg=>
    rw[if_neg c7] at H
    obtain⟨c7b0,c7b1⟩:=zw c7
    go_wp2_with(fail)
    go_roundg kl3
    case measure=>have:=HKkl3.out;omega
    case rel=>exact⟨(wrap64 (x5_kl3+1)),zr,⟨H⟩,⟨by have:=HKkl3.out;omega⟩,⟨zv HLkl3.out HB⟩⟩
   rw[if_pos c7] at H
   obtain⟨c7b0,c7b1⟩:=zq c7
   clear c7
   obtain rfl:=zi H
   go_wp2_with(fail)
   go_ret
   exact⟨ze,zv HW.out HB⟩
mutual
def spec_ProfilesOk.l0:Nat→List (S67)→Int→Option (Bool)
 |0,_,_=>none
 |k+1,x0,x3=>if x3<(x0.length:Int) then(if 0≤x3 then((spec_NameOk.f k ((qD x0 x3).f0)).bind fun t453=>(if t453=true then(if x3>0 then(if 0≤(wrap64 (x3 - 1)) then(if(wrap64 (x3 - 1))<(x0.length:Int) then(if((Op.bytesLess (((qD x0 (wrap64 (x3 - 1))).f0).toList) (((qD x0 x3).f0).toList))=true) then(if(((qD x0 x3).f2).length:Int)>50 then(some false) else(if((qD x0 x3).f1)=0 then(spec_ProfilesOk.l1 k x0 x3 0 ((qD x0 x3).f0) ((qD x0 x3).f1) ((qD x0 x3).f2)) else((spec_l13Gen.f k ((qD x0 x3).f0) ((qD x0 x3).f1) ((qD x0 x3).f2) ((qD x0 x3).f1)).bind fun t460=>(if t460<0 then(some false) else(spec_ProfilesOk.l1 k x0 x3 0 ((qD x0 x3).f0) ((qD x0 x3).f1) ((qD x0 x3).f2)))))) else(some false)) else(none)) else(none)) else(if(((qD x0 x3).f2).length:Int)>50 then(some false) else(if((qD x0 x3).f1)=0 then(spec_ProfilesOk.l1 k x0 x3 0 ((qD x0 x3).f0) ((qD x0 x3).f1) ((qD x0 x3).f2)) else((spec_l13Gen.f k ((qD x0 x3).f0) ((qD x0 x3).f1) ((qD x0 x3).f2) ((qD x0 x3).f1)).bind fun t461=>(if t461<0 then(some false) else(spec_ProfilesOk.l1 k x0 x3 0 ((qD x0 x3).f0) ((qD x0 x3).f1) ((qD x0 x3).f2))))))) else(some false))) else(none)) else(some true)
def spec_ProfilesOk.l1:Nat→List (S67)→Int→Int→ByteArray→Int→List (S70)→Option (Bool)
 |0,_,_,_,_,_,_=>none
 |k+1,x0,x3,x5,x453000,x453001,x453002=>if x5<(x453002.length:Int) then(if 0≤x5 then(if((qN x453002 x5).f0)<1 then(some false) else(if((qN x453002 x5).f0)>9007199254740992 then(some false) else(if x5>0 then(if 0≤(wrap64 (x5 - 1)) then(if(wrap64 (x5 - 1))<(x453002.length:Int) then(if((qN x453002 (wrap64 (x5 - 1))).f0)≥((qN x453002 x5).f0) then(some false) else((spec_AddressOk.f k ((qN x453002 x5).f1)).bind fun t458=>(if t458=true then(spec_ProfilesOk.l1 k x0 x3 (wrap64 (x5+1)) x453000 x453001 x453002) else(some false)))) else(none)) else(none)) else((spec_AddressOk.f k ((qN x453002 x5).f1)).bind fun t459=>(if t459=true then(spec_ProfilesOk.l1 k x0 x3 (wrap64 (x5+1)) x453000 x453001 x453002) else(some false)))))) else(none)) else(spec_ProfilesOk.l0 k x0 (wrap64 (x3+1)))
end
def spec_ProfilesOk.f(k:Nat)(l0:List (S67)):Option (Bool):=if(l0.length:Int)>20 then(some false) else(spec_ProfilesOk.l0 k l0 0)
theorem spec_ProfilesOk.calls(k:Nat)(A0:Option Addr)(c0:Nat)(l0:List (S67))(r:Bool)(w:World)(hr0:Kd.C k67 w A0 l0.length l0)(hc0:l0.length≤c0)(h:spec_ProfilesOk.f k l0=some r):
 Calls Tryz.prog 33 #[.slice A0 l0.length c0] w fun e w'=>e= .returned (.bool r)∧Below w.heap.size w w':=by
 have hu67:=Tryz.underlying67
 have hu70:=Tryz.underlying70
 have HR0:=zz hr0
 have HC0:=zz hc0
 clear hr0 hc0
 have HB:=zz (Below.refl w.heap.size w)
 unfold spec_ProfilesOk.f at h
 have H:=h
 clear h
 replace HB:=HB.out
 have HW:=zz (Below.refl w.heap.size w)
 go_enter Tryz.func33,Tryz.ntmps33
 by_cases c2:(l0.length:Int)>20
 ·rw[if_pos c2] at H
  have c2b0:=zgt c2
  have c2b1:decide (20<l0.length)=true:=z1 (by omega)
  clear c2
  obtain rfl:=zi H
  go_wp2_with(fail)
  go_ret
  exact⟨ze,zv HW.out HB⟩
 rw[if_neg c2] at H
 have c2b0:=zgtn c2
 have c2b1:decide (20<l0.length)=false:=z0 (by omega)
 clear c2
 go_wp2_with(fail)
 go_loopg[3] k (fun kq v3 w'=>∃(x3_kl3:Int),v3= .int .i64 x3_kl3∧qB (spec_ProfilesOk.l0 kq l0 x3_kl3=some r)∧qB (kq≤k)∧qB (Below w.heap.size w w'))
 case atStart=>exact⟨(0),zr,⟨H⟩,⟨Nat.le_refl _⟩,⟨HB⟩⟩
 case round=>
  clear H HB
  obtain⟨x3_kl3,rfl,H,HKkl3,HB⟩:=hrel
  replace HB:=HB.out
  replace H:=H.out
  have HLkl3:=zz (Below.refl w.heap.size w)
  cases gk with
  |zero=>exact absurd H (by simp[spec_ProfilesOk.l0])
  |succ kl3=>
   simp only[spec_ProfilesOk.l0] at H
   by_cases c4:x3_kl3<(l0.length:Int)
   case neg=>
    rw[if_neg c4] at H
    have c4b0:=z0 c4
    clear c4
    obtain rfl:=zi H
    go_wp2_with(fail)
    go_ret
    exact⟨ze,zv HW.out HB⟩
   rw[if_pos c4] at H
   have c4b0:=z1 c4
   clear c4
   by_cases c5:0≤x3_kl3
   case neg=>exact zno H c5
   rw[if_pos c5] at H
   have c5b0:=z1 c5
   clear c5
   have p451:0≤(x3_kl3:Int):=z2
   have q451:(x3_kl3:Int)<(l0.length:Int):=z2
   obtain⟨ad451,A451_2,c451_2,e451,hx451_0,hx451_1,hx451_2,hl451_2,hC451_2⟩:=at_T67 HR0.out x3_kl3 p451 q451
   cases e451
   replace hx451_0:=qR hx451_0
   replace hx451_1:=qR hx451_1
   replace hx451_2:=qR hx451_2
   have HR451_2:=zz hC451_2
   have HC451_2:=zz hl451_2
   clear hC451_2 hl451_2
   replace p451:=eq_true p451
   replace q451:=eq_true q451
   go_wp2_with(first|(refine zN 4 ?_;(try(refine z4 ?_;dsimp only));refine zX 4 67 #[.string (⟨#[]⟩:ByteArray),.int .i64 0,.slice none 0 0] ?_;intro gb452 hg w6 hbox hb;have hge:w.heap.size≤gb452:=(by rw[hg];exact qG HB);clear hg;have hst:Below w.heap.size w (((w6.setCell ⟨gb452,0,none⟩ (.string ((qD l0 x3_kl3).f0))).setCell ⟨gb452,1,none⟩ (.int .i64 ((qD l0 x3_kl3).f1))).setCell ⟨gb452,2,none⟩ (.slice A451_2 ((qD l0 x3_kl3).f2).length c451_2)):=(qM (qM (qM (zv HB hb) hge) hge) hge);have hbx:(((w6.setCell ⟨gb452,0,none⟩ (.string ((qD l0 x3_kl3).f0))).setCell ⟨gb452,1,none⟩ (.int .i64 ((qD l0 x3_kl3).f1))).setCell ⟨gb452,2,none⟩ (.slice A451_2 ((qD l0 x3_kl3).f2).length c451_2)).heap[gb452]?=some (.cells #[.string ((qD l0 x3_kl3).f0),.int .i64 ((qD l0 x3_kl3).f1),.slice A451_2 ((qD l0 x3_kl3).f2).length c451_2] 67 (0,0)):=(qP (cs:= #[.string ((qD l0 x3_kl3).f0),.int .i64 ((qD l0 x3_kl3).f1),.slice none 0 0]) (qP (cs:= #[.string ((qD l0 x3_kl3).f0),.int .i64 0,.slice none 0 0]) (qP (cs:= #[.string (⟨#[]⟩:ByteArray),.int .i64 0,.slice none 0 0]) hbox 0 _ rfl) 1 _ rfl) 2 _ rfl);obtain⟨hs452_0,hs452_1,hs452_2,hf452_0,hf452_1,hf452_2⟩:=zc3 hbox)|((with_reducible refine qY (t:=67) (p:=4) rfl ?_);(try(refine z4 ?_;dsimp only));refine qV (t:=67) (p:=4) (v:=?vo_w7) (w1:=(((w6.setCell ⟨gb452,0,none⟩ (.string ((qD l0 x3_kl3).f0))).setCell ⟨gb452,1,none⟩ (.int .i64 ((qD l0 x3_kl3).f1))).setCell ⟨gb452,2,none⟩ (.slice A451_2 ((qD l0 x3_kl3).f2).length c451_2))) ?hg ?ho ?hn ?hr ?_;(case ho=>rfl);(case hg=>rfl);(case hn=>rfl);(case hr=>first|(go_simp;done)|(go_simp;rfl));intro w7 hw;replace hst:=hst;rw[←hw] at hst hbx;clear hw hb hbox hge HB hs452_0 hf452_0 hs452_1 hf452_1 hs452_2 hf452_2;replace HW:=zz (zv HW.out hst);replace HLkl3:=zz (zv HLkl3.out hst);replace HR0:=zz (Kd.qC HR0.out hst);replace HR451_2:=zz (Kd.qC HR451_2.out hst);replace hx451_0:=qH hx451_0 hst;replace hx451_1:=qH hx451_1 hst;replace hx451_2:=qH hx451_2 hst;obtain⟨hbx452_0,hbx452_1,hbx452_2⟩:=zx3 hbx;have HB:=Below.refl w7.heap.size w7;clear hbx hst))
   try simp only[Act.put,List.setIfInBounds_toArray,List.set_cons_zero,List.set_cons_succ]
   refine vB (C:=fun W_=>Below w7.heap.size w7 W_) zk zk (qQ HB) ?_
   replace H:=zf H
   obtain⟨t453,A8,H⟩:=H
   try dsimp only at H
   replace A8:=zz A8
   by_cases c9:t453=true
   case neg=>
    replace c9:=Bool.eq_false_iff.mpr c9
    subst c9
    rw[if_neg (by decide)] at H
    obtain rfl:=zi H
    repeat(first|go_big_quiet_skip|(go_big_quiet_want;go_big_quiet_op;first|go_big_quiet_on|(with_reducible apply Exists.intro;refine⟨fun W hW=>?_,?_⟩;(first|with_reducible rfl|(go_at_call 35;exact callD (spec_NameOk.calls kl3 _ _ _ A8.out) hW)|(go_simp;with_reducible rfl));go_big_quiet_on)))
    clear HB
    refine zW fun w124 (HB:Below w7.heap.size w7 w124)=>?_
    go_wp2_with(fail)
    go_ret
    exact⟨ze,zv HW.out HB⟩
   subst c9
   rw[if_pos rfl] at H
   by_cases c10:x3_kl3>0
   case neg=>
    rw[if_neg c10] at H
    have c10b0:=zgtn c10
    clear c10
    by_cases c70:(((qD l0 x3_kl3).f2).length:Int)>50
    ·rw[if_pos c70] at H
     have c70b0:=zgt c70
     have c70b1:decide (50<((qD l0 x3_kl3).f2).length)=true:=z1 (by omega)
     clear c70
     obtain rfl:=zi H
     repeat(first|go_big_quiet_skip|(go_big_quiet_want;go_big_quiet_op;first|go_big_quiet_on|(with_reducible apply Exists.intro;refine⟨fun W hW=>?_,?_⟩;(first|with_reducible rfl|(go_at_call 35;exact callD (spec_NameOk.calls kl3 _ _ _ A8.out) hW)|(go_simp;with_reducible rfl));go_big_quiet_on)))
     clear HB
     refine zW fun w71 (HB:Below w7.heap.size w7 w71)=>?_
     go_wp2_with(fail)
     go_ret
     exact⟨ze,zv HW.out HB⟩
    rw[if_neg c70] at H
    have c70b0:=zgtn c70
    have c70b1:decide (50<((qD l0 x3_kl3).f2).length)=false:=z0 (by omega)
    clear c70
    by_cases c72:((qD l0 x3_kl3).f1)=0
    case neg=>
     rw[if_neg c72] at H
     obtain⟨c72b0,c72b1⟩:=zw c72
     replace H:=zf H
     obtain⟨t461,A97,H⟩:=H
     try dsimp only at H
     replace A97:=zz A97
     by_cases c98:t461<0
     ·rw[if_pos c98] at H
      have c98b0:=z1 c98
      clear c98
      obtain rfl:=zi H
      repeat(first|go_big_quiet_skip|(go_big_quiet_want;go_big_quiet_op;first|go_big_quiet_on|(with_reducible apply Exists.intro;refine⟨fun W hW=>?_,?_⟩;(first|with_reducible rfl|(go_at_call 35;exact callD (spec_NameOk.calls kl3 _ _ _ A8.out) hW)|(go_at_call 80;exact callB (spec_l13Gen.calls kl3 _ _ _ _ _ _ _ _ (Kd.qC HR451_2.out hW) HC451_2.out A97.out) hW)|(go_simp;with_reducible rfl));go_big_quiet_on)))
      clear HB
      refine zW fun w99 (HB:Below w7.heap.size w7 w99)=>?_
      go_wp2_with(fail)
      go_ret
      exact⟨ze,zv HW.out HB⟩
     rw[if_neg c98] at H
     have c98b0:=z0 c98
     clear c98
     repeat(first|go_big_quiet_skip|(go_big_quiet_want;go_big_quiet_op;first|go_big_quiet_on|(with_reducible apply Exists.intro;refine⟨fun W hW=>?_,?_⟩;(first|with_reducible rfl|(go_at_call 35;exact callD (spec_NameOk.calls kl3 _ _ _ A8.out) hW)|(go_at_call 80;exact callB (spec_l13Gen.calls kl3 _ _ _ _ _ _ _ _ (Kd.qC HR451_2.out hW) HC451_2.out A97.out) hW)|(go_simp;with_reducible rfl));go_big_quiet_on)))
     clear HB
     refine zW fun w101 (HB:Below w7.heap.size w7 w101)=>?_
     go_wp2_with(fail)
     go_loopg[5] kl3 (fun kq v5 w'=>∃(x5_kl100:Int),v5= .int .i64 x5_kl100∧qB (spec_ProfilesOk.l1 kq l0 x3_kl3 x5_kl100 ((qD l0 x3_kl3).f0) ((qD l0 x3_kl3).f1) ((qD l0 x3_kl3).f2)=some r)∧qB (kq≤kl3)∧qB (Below w7.heap.size w7 w'))
     case atStart=>exact⟨(0),zr,⟨H⟩,⟨Nat.le_refl _⟩,⟨HB⟩⟩
     case round=>
      clear H HB
      obtain⟨x5_kl100,rfl,H,HKkl100,HB⟩:=hrel
      replace HB:=HB.out
      replace H:=H.out
      have HLkl100:=zz (Below.refl w7.heap.size w7)
      cases gk with
      |zero=>exact absurd H (by simp[spec_ProfilesOk.l1])
      |succ kl100=>
       simp only[spec_ProfilesOk.l1] at H
       by_cases c102:x5_kl100<(((qD l0 x3_kl3).f2).length:Int)
       case neg=>
        rw[if_neg c102] at H
        have c102b0:=z0 c102
        clear c102
        go_wp2_with(fail)
        go_roundg kl100
        case measure=>have:=HKkl3.out;have:=HKkl100.out;omega
        case rel=>exact⟨(wrap64 (x3_kl3+1)),zr,⟨H⟩,⟨by have:=HKkl3.out;have:=HKkl100.out;omega⟩,⟨zv HLkl3.out HB⟩⟩
       rw[if_pos c102] at H
       have c102b0:=z1 c102
       clear c102
       by_cases c103:0≤x5_kl100
       case neg=>exact zno H c103
       rw[if_pos c103] at H
       have c103b0:=z1 c103
       clear c103
       have p455:0≤(x5_kl100:Int):=z2
       have q455:(x5_kl100:Int)<(((qD l0 x3_kl3).f2).length:Int):=z2
       obtain⟨ad455,e455,hx455_0,hx455_1⟩:=at_T70 HR451_2.out x5_kl100 p455 q455
       cases e455
       replace hx455_0:=qR hx455_0
       replace hx455_1:=qR hx455_1
       replace p455:=eq_true p455
       replace q455:=eq_true q455
       go_wp2_with(first|(refine zN 6 ?_;(try(refine z4 ?_;dsimp only));refine zX 6 70 #[.int .i64 0,.string (⟨#[]⟩:ByteArray)] ?_;intro gb456 hg w104 hbox hb;have hge:w7.heap.size≤gb456:=(by rw[hg];exact qG HB);clear hg;have hst:Below w7.heap.size w7 ((w104.setCell ⟨gb456,0,none⟩ (.int .i64 ((qN ((qD l0 x3_kl3).f2) x5_kl100).f0))).setCell ⟨gb456,1,none⟩ (.string ((qN ((qD l0 x3_kl3).f2) x5_kl100).f1))):=(qM (qM (zv HB hb) hge) hge);have hbx:((w104.setCell ⟨gb456,0,none⟩ (.int .i64 ((qN ((qD l0 x3_kl3).f2) x5_kl100).f0))).setCell ⟨gb456,1,none⟩ (.string ((qN ((qD l0 x3_kl3).f2) x5_kl100).f1))).heap[gb456]?=some (.cells #[.int .i64 ((qN ((qD l0 x3_kl3).f2) x5_kl100).f0),.string ((qN ((qD l0 x3_kl3).f2) x5_kl100).f1)] 70 (0,0)):=(qP (cs:= #[.int .i64 ((qN ((qD l0 x3_kl3).f2) x5_kl100).f0),.string (⟨#[]⟩:ByteArray)]) (qP (cs:= #[.int .i64 0,.string (⟨#[]⟩:ByteArray)]) hbox 0 _ rfl) 1 _ rfl);obtain⟨hs456_0,hs456_1,hf456_0,hf456_1⟩:=zc2 hbox)|((with_reducible refine qY (t:=70) (p:=6) rfl ?_);(try(refine z4 ?_;dsimp only));refine qV (t:=70) (p:=6) (v:=?vo_w105) (w1:=((w104.setCell ⟨gb456,0,none⟩ (.int .i64 ((qN ((qD l0 x3_kl3).f2) x5_kl100).f0))).setCell ⟨gb456,1,none⟩ (.string ((qN ((qD l0 x3_kl3).f2) x5_kl100).f1)))) ?hg ?ho ?hn ?hr ?_;(case ho=>rfl);(case hg=>rfl);(case hn=>rfl);(case hr=>first|(go_simp;done)|(go_simp;rfl));intro w105 hw;replace hst:=hst;rw[←hw] at hst hbx;clear hw hb hbox hge HB hs456_0 hf456_0 hs456_1 hf456_1;replace HW:=zz (zv HW.out hst);replace HLkl3:=zz (zv HLkl3.out hst);replace HLkl100:=zz (zv HLkl100.out hst);replace HR0:=zz (Kd.qC HR0.out hst);replace HR451_2:=zz (Kd.qC HR451_2.out hst);replace hx451_0:=qH hx451_0 hst;replace hx451_1:=qH hx451_1 hst;replace hx451_2:=qH hx451_2 hst;replace hbx452_0:=qH hbx452_0 hst;replace hbx452_1:=qH hbx452_1 hst;replace hbx452_2:=qH hbx452_2 hst;replace hx455_0:=qH hx455_0 hst;replace hx455_1:=qH hx455_1 hst;obtain⟨hbx456_0,hbx456_1⟩:=zx2 hbx;have HB:=Below.refl w105.heap.size w105;clear hbx hst))
       try simp only[Act.put,List.setIfInBounds_toArray,List.set_cons_zero,List.set_cons_succ]
       refine vB (C:=fun W_=>Below w105.heap.size w105 W_) zk zk (qQ HB) ?_
       by_cases c106:((qN ((qD l0 x3_kl3).f2) x5_kl100).f0)<1
       ·rw[if_pos c106] at H
        have c106b0:=z1 c106
        clear c106
        obtain rfl:=zi H
        repeat(first|go_big_quiet_skip|(go_big_quiet_want;go_big_quiet_op;first|go_big_quiet_on|(refine zE ?_;go_big_quiet_on)))
        clear HB
        refine zW fun w107 (HB:Below w105.heap.size w105 w107)=>?_
        go_wp2_with(fail)
        go_ret
        exact⟨ze,zv HW.out HB⟩
       rw[if_neg c106] at H
       have c106b0:=z0 c106
       clear c106
       by_cases c108:((qN ((qD l0 x3_kl3).f2) x5_kl100).f0)>9007199254740992
       ·rw[if_pos c108] at H
        have c108b0:=zgt c108
        clear c108
        obtain rfl:=zi H
        repeat(first|go_big_quiet_skip|(go_big_quiet_want;go_big_quiet_op;first|go_big_quiet_on|(refine zE ?_;go_big_quiet_on)))
        clear HB
        refine zW fun w109 (HB:Below w105.heap.size w105 w109)=>?_
        go_wp2_with(fail)
        go_ret
        exact⟨ze,zv HW.out HB⟩
       rw[if_neg c108] at H
       have c108b0:=zgtn c108
       clear c108
       by_cases c110:x5_kl100>0
       case neg=>
        rw[if_neg c110] at H
        have c110b0:=zgtn c110
        clear c110
        replace H:=zf H
        obtain⟨t459,A120,H⟩:=H
        try dsimp only at H
        replace A120:=zz A120
        by_cases c121:t459=true
        ·subst c121
         rw[if_pos rfl] at H
         repeat(first|go_big_quiet_skip|(go_big_quiet_want;go_big_quiet_op;first|go_big_quiet_on|(with_reducible apply Exists.intro;refine⟨fun W hW=>?_,?_⟩;(first|with_reducible rfl|(go_at_call 36;exact callD (spec_AddressOk.calls kl100 _ _ _ A120.out) hW)|(go_simp;with_reducible rfl));go_big_quiet_on)))
         clear HB
         refine zW fun w122 (HB:Below w105.heap.size w105 w122)=>?_
         go_wp2_with(fail)
         go_roundg kl100
         case measure=>have:=HKkl3.out;have:=HKkl100.out;omega
         case rel=>exact⟨(wrap64 (x5_kl100+1)),zr,⟨H⟩,⟨by have:=HKkl3.out;have:=HKkl100.out;omega⟩,⟨zv HLkl100.out HB⟩⟩
        replace c121:=Bool.eq_false_iff.mpr c121
        subst c121
        rw[if_neg (by decide)] at H
        obtain rfl:=zi H
        repeat(first|go_big_quiet_skip|(go_big_quiet_want;go_big_quiet_op;first|go_big_quiet_on|(with_reducible apply Exists.intro;refine⟨fun W hW=>?_,?_⟩;(first|with_reducible rfl|(go_at_call 36;exact callD (spec_AddressOk.calls kl100 _ _ _ A120.out) hW)|(go_simp;with_reducible rfl));go_big_quiet_on)))
        clear HB
        refine zW fun w123 (HB:Below w105.heap.size w105 w123)=>?_
        go_wp2_with(fail)
        go_ret
        exact⟨ze,zv HW.out HB⟩
       rw[if_pos c110] at H
       have c110b0:=zgt c110
       clear c110
       obtain⟨ji111,hji111⟩:∃j_:Int,(wrap64 (x5_kl100 - 1))=j_:=⟨_,rfl⟩
       (first|rw[hji111] at H|simp only[hji111] at H)
       have hji111w:(IntKind.i64.wrap (x5_kl100 - 1))=ji111:=(i64_w _).trans hji111
       (try rw[hji111] at A8)
       (try rw[hji111] at A97)
       by_cases c112:0≤(ji111)
       case neg=>exact zno H c112
       rw[if_pos c112] at H
       have c112b0:=z1 c112
       clear c112
       by_cases c113:(ji111)<(((qD l0 x3_kl3).f2).length:Int)
       case neg=>exact zno H c113
       rw[if_pos c113] at H
       have c113b0:=z1 c113
       clear c113
       have p457:0≤((ji111):Int):=z2
       have q457:((ji111):Int)<(((qD l0 x3_kl3).f2).length:Int):=z2
       obtain⟨ad457,e457,hx457_0,hx457_1⟩:=at_T70 HR451_2.out (ji111) p457 q457
       obtain rfl:ad455=ad457:=(by injection e457)
       replace hx457_0:=qR hx457_0
       replace hx457_1:=qR hx457_1
       replace p457:=eq_true p457
       replace q457:=eq_true q457
       by_cases c114:((qN ((qD l0 x3_kl3).f2) (ji111)).f0)≥((qN ((qD l0 x3_kl3).f2) x5_kl100).f0)
       ·rw[if_pos c114] at H
        have c114b0:=zge c114
        clear c114
        obtain rfl:=zi H
        repeat(first|go_big_quiet_skip|(go_big_quiet_want;go_big_quiet_op;first|go_big_quiet_on|(refine zE ?_;go_big_quiet_on)))
        clear HB
        refine zW fun w115 (HB:Below w105.heap.size w105 w115)=>?_
        go_wp2_with(fail)
        go_ret
        exact⟨ze,zv HW.out HB⟩
       rw[if_neg c114] at H
       have c114b0:=zgen c114
       clear c114
       replace H:=zf H
       obtain⟨t458,A116,H⟩:=H
       try dsimp only at H
       replace A116:=zz A116
       by_cases c117:t458=true
       ·subst c117
        rw[if_pos rfl] at H
        repeat(first|go_big_quiet_skip|(go_big_quiet_want;go_big_quiet_op;first|go_big_quiet_on|(with_reducible apply Exists.intro;refine⟨fun W hW=>?_,?_⟩;(first|with_reducible rfl|(go_at_call 36;exact callD (spec_AddressOk.calls kl100 _ _ _ A116.out) hW)|(go_simp;with_reducible rfl));go_big_quiet_on)))
        clear HB
        refine zW fun w118 (HB:Below w105.heap.size w105 w118)=>?_
        go_wp2_with(fail)
        go_roundg kl100
        case measure=>have:=HKkl3.out;have:=HKkl100.out;omega
        case rel=>exact⟨(wrap64 (x5_kl100+1)),zr,⟨H⟩,⟨by have:=HKkl3.out;have:=HKkl100.out;omega⟩,⟨zv HLkl100.out HB⟩⟩
       replace c117:=Bool.eq_false_iff.mpr c117
       subst c117
       rw[if_neg (by decide)] at H
       obtain rfl:=zi H
       repeat(first|go_big_quiet_skip|(go_big_quiet_want;go_big_quiet_op;first|go_big_quiet_on|(with_reducible apply Exists.intro;refine⟨fun W hW=>?_,?_⟩;(first|with_reducible rfl|(go_at_call 36;exact callD (spec_AddressOk.calls kl100 _ _ _ A116.out) hW)|(go_simp;with_reducible rfl));go_big_quiet_on)))
       clear HB
       refine zW fun w119 (HB:Below w105.heap.size w105 w119)=>?_
       go_wp2_with(fail)
       go_ret
       exact⟨ze,zv HW.out HB⟩
    rw[if_pos c72] at H
    obtain⟨c72b0,c72b1⟩:=zq c72
    clear c72
    repeat(first|go_big_quiet_skip|(go_big_quiet_want;go_big_quiet_op;first|go_big_quiet_on|(with_reducible apply Exists.intro;refine⟨fun W hW=>?_,?_⟩;(first|with_reducible rfl|(go_at_call 35;exact callD (spec_NameOk.calls kl3 _ _ _ A8.out) hW)|(go_simp;with_reducible rfl));go_big_quiet_on)))
    clear HB
    refine zW fun w74 (HB:Below w7.heap.size w7 w74)=>?_
    go_wp2_with(fail)
    go_loopg[5] kl3 (fun kq v5 w'=>∃(x5_kl73:Int),v5= .int .i64 x5_kl73∧qB (spec_ProfilesOk.l1 kq l0 x3_kl3 x5_kl73 ((qD l0 x3_kl3).f0) ((qD l0 x3_kl3).f1) ((qD l0 x3_kl3).f2)=some r)∧qB (kq≤kl3)∧qB (Below w7.heap.size w7 w'))
    case atStart=>exact⟨(0),zr,⟨H⟩,⟨Nat.le_refl _⟩,⟨HB⟩⟩
    case round=>
     clear H HB
     obtain⟨x5_kl73,rfl,H,HKkl73,HB⟩:=hrel
     replace HB:=HB.out
     replace H:=H.out
     have HLkl73:=zz (Below.refl w7.heap.size w7)
     cases gk with
     |zero=>exact absurd H (by simp[spec_ProfilesOk.l1])
     |succ kl73=>
      simp only[spec_ProfilesOk.l1] at H
      by_cases c75:x5_kl73<(((qD l0 x3_kl3).f2).length:Int)
      case neg=>
       rw[if_neg c75] at H
       have c75b0:=z0 c75
       clear c75
       go_wp2_with(fail)
       go_roundg kl73
       case measure=>have:=HKkl3.out;have:=HKkl73.out;omega
       case rel=>exact⟨(wrap64 (x3_kl3+1)),zr,⟨H⟩,⟨by have:=HKkl3.out;have:=HKkl73.out;omega⟩,⟨zv HLkl3.out HB⟩⟩
      rw[if_pos c75] at H
      have c75b0:=z1 c75
      clear c75
      by_cases c76:0≤x5_kl73
      case neg=>exact zno H c76
      rw[if_pos c76] at H
      have c76b0:=z1 c76
      clear c76
      have p455:0≤(x5_kl73:Int):=z2
      have q455:(x5_kl73:Int)<(((qD l0 x3_kl3).f2).length:Int):=z2
      obtain⟨ad455,e455,hx455_0,hx455_1⟩:=at_T70 HR451_2.out x5_kl73 p455 q455
      cases e455
      replace hx455_0:=qR hx455_0
      replace hx455_1:=qR hx455_1
      replace p455:=eq_true p455
      replace q455:=eq_true q455
      go_wp2_with(first|(refine zN 6 ?_;(try(refine z4 ?_;dsimp only));refine zX 6 70 #[.int .i64 0,.string (⟨#[]⟩:ByteArray)] ?_;intro gb456 hg w77 hbox hb;have hge:w7.heap.size≤gb456:=(by rw[hg];exact qG HB);clear hg;have hst:Below w7.heap.size w7 ((w77.setCell ⟨gb456,0,none⟩ (.int .i64 ((qN ((qD l0 x3_kl3).f2) x5_kl73).f0))).setCell ⟨gb456,1,none⟩ (.string ((qN ((qD l0 x3_kl3).f2) x5_kl73).f1))):=(qM (qM (zv HB hb) hge) hge);have hbx:((w77.setCell ⟨gb456,0,none⟩ (.int .i64 ((qN ((qD l0 x3_kl3).f2) x5_kl73).f0))).setCell ⟨gb456,1,none⟩ (.string ((qN ((qD l0 x3_kl3).f2) x5_kl73).f1))).heap[gb456]?=some (.cells #[.int .i64 ((qN ((qD l0 x3_kl3).f2) x5_kl73).f0),.string ((qN ((qD l0 x3_kl3).f2) x5_kl73).f1)] 70 (0,0)):=(qP (cs:= #[.int .i64 ((qN ((qD l0 x3_kl3).f2) x5_kl73).f0),.string (⟨#[]⟩:ByteArray)]) (qP (cs:= #[.int .i64 0,.string (⟨#[]⟩:ByteArray)]) hbox 0 _ rfl) 1 _ rfl);obtain⟨hs456_0,hs456_1,hf456_0,hf456_1⟩:=zc2 hbox)|((with_reducible refine qY (t:=70) (p:=6) rfl ?_);(try(refine z4 ?_;dsimp only));refine qV (t:=70) (p:=6) (v:=?vo_w78) (w1:=((w77.setCell ⟨gb456,0,none⟩ (.int .i64 ((qN ((qD l0 x3_kl3).f2) x5_kl73).f0))).setCell ⟨gb456,1,none⟩ (.string ((qN ((qD l0 x3_kl3).f2) x5_kl73).f1)))) ?hg ?ho ?hn ?hr ?_;(case ho=>rfl);(case hg=>rfl);(case hn=>rfl);(case hr=>first|(go_simp;done)|(go_simp;rfl));intro w78 hw;replace hst:=hst;rw[←hw] at hst hbx;clear hw hb hbox hge HB hs456_0 hf456_0 hs456_1 hf456_1;replace HW:=zz (zv HW.out hst);replace HLkl3:=zz (zv HLkl3.out hst);replace HLkl73:=zz (zv HLkl73.out hst);replace HR0:=zz (Kd.qC HR0.out hst);replace HR451_2:=zz (Kd.qC HR451_2.out hst);replace hx451_0:=qH hx451_0 hst;replace hx451_1:=qH hx451_1 hst;replace hx451_2:=qH hx451_2 hst;replace hbx452_0:=qH hbx452_0 hst;replace hbx452_1:=qH hbx452_1 hst;replace hbx452_2:=qH hbx452_2 hst;replace hx455_0:=qH hx455_0 hst;replace hx455_1:=qH hx455_1 hst;obtain⟨hbx456_0,hbx456_1⟩:=zx2 hbx;have HB:=Below.refl w78.heap.size w78;clear hbx hst))
      try simp only[Act.put,List.setIfInBounds_toArray,List.set_cons_zero,List.set_cons_succ]
      refine vB (C:=fun W_=>Below w78.heap.size w78 W_) zk zk (qQ HB) ?_
      by_cases c79:((qN ((qD l0 x3_kl3).f2) x5_kl73).f0)<1
      ·rw[if_pos c79] at H
       have c79b0:=z1 c79
       clear c79
       obtain rfl:=zi H
       repeat(first|go_big_quiet_skip|(go_big_quiet_want;go_big_quiet_op;first|go_big_quiet_on|(refine zE ?_;go_big_quiet_on)))
       clear HB
       refine zW fun w80 (HB:Below w78.heap.size w78 w80)=>?_
       go_wp2_with(fail)
       go_ret
       exact⟨ze,zv HW.out HB⟩
      rw[if_neg c79] at H
      have c79b0:=z0 c79
      clear c79
      by_cases c81:((qN ((qD l0 x3_kl3).f2) x5_kl73).f0)>9007199254740992
      ·rw[if_pos c81] at H
       have c81b0:=zgt c81
       clear c81
       obtain rfl:=zi H
       repeat(first|go_big_quiet_skip|(go_big_quiet_want;go_big_quiet_op;first|go_big_quiet_on|(refine zE ?_;go_big_quiet_on)))
       clear HB
       refine zW fun w82 (HB:Below w78.heap.size w78 w82)=>?_
       go_wp2_with(fail)
       go_ret
       exact⟨ze,zv HW.out HB⟩
      rw[if_neg c81] at H
      have c81b0:=zgtn c81
      clear c81
      by_cases c83:x5_kl73>0
      ·rw[if_pos c83] at H
       have c83b0:=zgt c83
       clear c83
       obtain⟨ji84,hji84⟩:∃j_:Int,(wrap64 (x5_kl73 - 1))=j_:=⟨_,rfl⟩
       (first|rw[hji84] at H|simp only[hji84] at H)
       have hji84w:(IntKind.i64.wrap (x5_kl73 - 1))=ji84:=(i64_w _).trans hji84
       (try rw[hji84] at A8)
       by_cases c85:0≤(ji84)
       case neg=>exact zno H c85
       rw[if_pos c85] at H
       have c85b0:=z1 c85
       clear c85
       by_cases c86:(ji84)<(((qD l0 x3_kl3).f2).length:Int)
       case neg=>exact zno H c86
       rw[if_pos c86] at H
       have c86b0:=z1 c86
       clear c86
       have p457:0≤((ji84):Int):=z2
       have q457:((ji84):Int)<(((qD l0 x3_kl3).f2).length:Int):=z2
       obtain⟨ad457,e457,hx457_0,hx457_1⟩:=at_T70 HR451_2.out (ji84) p457 q457
       obtain rfl:ad455=ad457:=(by injection e457)
       replace hx457_0:=qR hx457_0
       replace hx457_1:=qR hx457_1
       replace p457:=eq_true p457
       replace q457:=eq_true q457
       by_cases c87:((qN ((qD l0 x3_kl3).f2) (ji84)).f0)≥((qN ((qD l0 x3_kl3).f2) x5_kl73).f0)
       ·rw[if_pos c87] at H
        have c87b0:=zge c87
        clear c87
        obtain rfl:=zi H
        repeat(first|go_big_quiet_skip|(go_big_quiet_want;go_big_quiet_op;first|go_big_quiet_on|(refine zE ?_;go_big_quiet_on)))
        clear HB
        refine zW fun w88 (HB:Below w78.heap.size w78 w88)=>?_
        go_wp2_with(fail)
        go_ret
        exact⟨ze,zv HW.out HB⟩
       rw[if_neg c87] at H
       have c87b0:=zgen c87
       clear c87
       replace H:=zf H
       obtain⟨t458,A89,H⟩:=H
       try dsimp only at H
       replace A89:=zz A89
       by_cases c90:t458=true
       ·subst c90
        rw[if_pos rfl] at H
        repeat(first|go_big_quiet_skip|(go_big_quiet_want;go_big_quiet_op;first|go_big_quiet_on|(with_reducible apply Exists.intro;refine⟨fun W hW=>?_,?_⟩;(first|with_reducible rfl|(go_at_call 36;exact callD (spec_AddressOk.calls kl73 _ _ _ A89.out) hW)|(go_simp;with_reducible rfl));go_big_quiet_on)))
        clear HB
        refine zW fun w91 (HB:Below w78.heap.size w78 w91)=>?_
        go_wp2_with(fail)
        go_roundg kl73
        case measure=>have:=HKkl3.out;have:=HKkl73.out;omega
        case rel=>exact⟨(wrap64 (x5_kl73+1)),zr,⟨H⟩,⟨by have:=HKkl3.out;have:=HKkl73.out;omega⟩,⟨zv HLkl73.out HB⟩⟩
       replace c90:=Bool.eq_false_iff.mpr c90
       subst c90
       rw[if_neg (by decide)] at H
       obtain rfl:=zi H
       repeat(first|go_big_quiet_skip|(go_big_quiet_want;go_big_quiet_op;first|go_big_quiet_on|(with_reducible apply Exists.intro;refine⟨fun W hW=>?_,?_⟩;(first|with_reducible rfl|(go_at_call 36;exact callD (spec_AddressOk.calls kl73 _ _ _ A89.out) hW)|(go_simp;with_reducible rfl));go_big_quiet_on)))
       clear HB
       refine zW fun w92 (HB:Below w78.heap.size w78 w92)=>?_
       go_wp2_with(fail)
       go_ret
       exact⟨ze,zv HW.out HB⟩
      rw[if_neg c83] at H
      have c83b0:=zgtn c83
      clear c83
      replace H:=zf H
      obtain⟨t459,A93,H⟩:=H
      try dsimp only at H
      replace A93:=zz A93
      by_cases c94:t459=true
      ·subst c94
       rw[if_pos rfl] at H
       repeat(first|go_big_quiet_skip|(go_big_quiet_want;go_big_quiet_op;first|go_big_quiet_on|(with_reducible apply Exists.intro;refine⟨fun W hW=>?_,?_⟩;(first|with_reducible rfl|(go_at_call 36;exact callD (spec_AddressOk.calls kl73 _ _ _ A93.out) hW)|(go_simp;with_reducible rfl));go_big_quiet_on)))
       clear HB
       refine zW fun w95 (HB:Below w78.heap.size w78 w95)=>?_
       go_wp2_with(fail)
       go_roundg kl73
       case measure=>have:=HKkl3.out;have:=HKkl73.out;omega
       case rel=>exact⟨(wrap64 (x5_kl73+1)),zr,⟨H⟩,⟨by have:=HKkl3.out;have:=HKkl73.out;omega⟩,⟨zv HLkl73.out HB⟩⟩
      replace c94:=Bool.eq_false_iff.mpr c94
      subst c94
      rw[if_neg (by decide)] at H
      obtain rfl:=zi H
      repeat(first|go_big_quiet_skip|(go_big_quiet_want;go_big_quiet_op;first|go_big_quiet_on|(with_reducible apply Exists.intro;refine⟨fun W hW=>?_,?_⟩;(first|with_reducible rfl|(go_at_call 36;exact callD (spec_AddressOk.calls kl73 _ _ _ A93.out) hW)|(go_simp;with_reducible rfl));go_big_quiet_on)))
      clear HB
      refine zW fun w96 (HB:Below w78.heap.size w78 w96)=>?_
      go_wp2_with(fail)
      go_ret
      exact⟨ze,zv HW.out HB⟩
   rw[if_pos c10] at H
   have c10b0:=zgt c10
   clear c10
   obtain⟨ji11,hji11⟩:∃j_:Int,(wrap64 (x3_kl3 - 1))=j_:=⟨_,rfl⟩
   (first|rw[hji11] at H|simp only[hji11] at H)
   have hji11w:(IntKind.i64.wrap (x3_kl3 - 1))=ji11:=(i64_w _).trans hji11
   (try rw[hji11] at A8)
   by_cases c12:0≤(ji11)
   case neg=>exact zno H c12
   rw[if_pos c12] at H
   have c12b0:=z1 c12
   clear c12
   by_cases c13:(ji11)<(l0.length:Int)
   case neg=>exact zno H c13
   rw[if_pos c13] at H
   have c13b0:=z1 c13
   clear c13
   have p454:0≤((ji11):Int):=z2
   have q454:((ji11):Int)<(l0.length:Int):=z2
   obtain⟨ad454,A454_2,c454_2,e454,hx454_0,hx454_1,hx454_2,hl454_2,hC454_2⟩:=at_T67 HR0.out (ji11) p454 q454
   obtain rfl:ad451=ad454:=(by injection e454)
   replace hx454_0:=qR hx454_0
   replace hx454_1:=qR hx454_1
   replace hx454_2:=qR hx454_2
   have HR454_2:=zz hC454_2
   have HC454_2:=zz hl454_2
   clear hC454_2 hl454_2
   replace p454:=eq_true p454
   replace q454:=eq_true q454
   by_cases c14:((Op.bytesLess (((qD l0 (ji11)).f0).toList) (((qD l0 x3_kl3).f0).toList))=true)
   case neg=>
    rw[if_neg c14] at H
    have c14b0:(Op.bytesLess (((qD l0 (ji11)).f0).toList) (((qD l0 x3_kl3).f0).toList))=false:=by simpa using c14
    clear c14
    obtain rfl:=zi H
    repeat(first|go_big_quiet_skip|(go_big_quiet_want;go_big_quiet_op;first|go_big_quiet_on|(with_reducible apply Exists.intro;refine⟨fun W hW=>?_,?_⟩;(first|with_reducible rfl|(go_at_call 35;exact callD (spec_NameOk.calls kl3 _ _ _ A8.out) hW)|(go_simp;with_reducible rfl));go_big_quiet_on)))
    clear HB
    refine zW fun w69 (HB:Below w7.heap.size w7 w69)=>?_
    go_wp2_with(fail)
    go_ret
    exact⟨ze,zv HW.out HB⟩
   rw[if_pos c14] at H
   have c14b0:(Op.bytesLess (((qD l0 (ji11)).f0).toList) (((qD l0 x3_kl3).f0).toList))=true:=c14
   clear c14
   by_cases c15:(((qD l0 x3_kl3).f2).length:Int)>50
   ·rw[if_pos c15] at H
    have c15b0:=zgt c15
    have c15b1:decide (50<((qD l0 x3_kl3).f2).length)=true:=z1 (by omega)
    clear c15
    obtain rfl:=zi H
    repeat(first|go_big_quiet_skip|(go_big_quiet_want;go_big_quiet_op;first|go_big_quiet_on|(with_reducible apply Exists.intro;refine⟨fun W hW=>?_,?_⟩;(first|with_reducible rfl|(go_at_call 35;exact callD (spec_NameOk.calls kl3 _ _ _ A8.out) hW)|(go_simp;with_reducible rfl));go_big_quiet_on)))
    clear HB
    refine zW fun w16 (HB:Below w7.heap.size w7 w16)=>?_
    go_wp2_with(fail)
    go_ret
    exact⟨ze,zv HW.out HB⟩
   rw[if_neg c15] at H
   have c15b0:=zgtn c15
   have c15b1:decide (50<((qD l0 x3_kl3).f2).length)=false:=z0 (by omega)
   clear c15
   by_cases c17:((qD l0 x3_kl3).f1)=0
   case neg=>
    rw[if_neg c17] at H
    obtain⟨c17b0,c17b1⟩:=zw c17
    replace H:=zf H
    obtain⟨t460,A42,H⟩:=H
    try dsimp only at H
    replace A42:=zz A42
    by_cases c43:t460<0
    ·rw[if_pos c43] at H
     have c43b0:=z1 c43
     clear c43
     obtain rfl:=zi H
     repeat(first|go_big_quiet_skip|(go_big_quiet_want;go_big_quiet_op;first|go_big_quiet_on|(with_reducible apply Exists.intro;refine⟨fun W hW=>?_,?_⟩;(first|with_reducible rfl|(go_at_call 35;exact callD (spec_NameOk.calls kl3 _ _ _ A8.out) hW)|(go_at_call 80;exact callB (spec_l13Gen.calls kl3 _ _ _ _ _ _ _ _ (Kd.qC HR451_2.out hW) HC451_2.out A42.out) hW)|(go_simp;with_reducible rfl));go_big_quiet_on)))
     clear HB
     refine zW fun w44 (HB:Below w7.heap.size w7 w44)=>?_
     go_wp2_with(fail)
     go_ret
     exact⟨ze,zv HW.out HB⟩
    rw[if_neg c43] at H
    have c43b0:=z0 c43
    clear c43
    repeat(first|go_big_quiet_skip|(go_big_quiet_want;go_big_quiet_op;first|go_big_quiet_on|(with_reducible apply Exists.intro;refine⟨fun W hW=>?_,?_⟩;(first|with_reducible rfl|(go_at_call 35;exact callD (spec_NameOk.calls kl3 _ _ _ A8.out) hW)|(go_at_call 80;exact callB (spec_l13Gen.calls kl3 _ _ _ _ _ _ _ _ (Kd.qC HR451_2.out hW) HC451_2.out A42.out) hW)|(go_simp;with_reducible rfl));go_big_quiet_on)))
    clear HB
    refine zW fun w46 (HB:Below w7.heap.size w7 w46)=>?_
    go_wp2_with(fail)
    go_loopg[5] kl3 (fun kq v5 w'=>∃(x5_kl45:Int),v5= .int .i64 x5_kl45∧qB (spec_ProfilesOk.l1 kq l0 x3_kl3 x5_kl45 ((qD l0 x3_kl3).f0) ((qD l0 x3_kl3).f1) ((qD l0 x3_kl3).f2)=some r)∧qB (kq≤kl3)∧qB (Below w7.heap.size w7 w'))
    case atStart=>exact⟨(0),zr,⟨H⟩,⟨Nat.le_refl _⟩,⟨HB⟩⟩
    case round=>
     clear H HB
     obtain⟨x5_kl45,rfl,H,HKkl45,HB⟩:=hrel
     replace HB:=HB.out
     replace H:=H.out
     have HLkl45:=zz (Below.refl w7.heap.size w7)
     cases gk with
     |zero=>exact absurd H (by simp[spec_ProfilesOk.l1])
     |succ kl45=>
      simp only[spec_ProfilesOk.l1] at H
      by_cases c47:x5_kl45<(((qD l0 x3_kl3).f2).length:Int)
      case neg=>
       rw[if_neg c47] at H
       have c47b0:=z0 c47
       clear c47
       go_wp2_with(fail)
       go_roundg kl45
       case measure=>have:=HKkl3.out;have:=HKkl45.out;omega
       case rel=>exact⟨(wrap64 (x3_kl3+1)),zr,⟨H⟩,⟨by have:=HKkl3.out;have:=HKkl45.out;omega⟩,⟨zv HLkl3.out HB⟩⟩
      rw[if_pos c47] at H
      have c47b0:=z1 c47
      clear c47
      by_cases c48:0≤x5_kl45
      case neg=>exact zno H c48
      rw[if_pos c48] at H
      have c48b0:=z1 c48
      clear c48
      have p455:0≤(x5_kl45:Int):=z2
      have q455:(x5_kl45:Int)<(((qD l0 x3_kl3).f2).length:Int):=z2
      obtain⟨ad455,e455,hx455_0,hx455_1⟩:=at_T70 HR451_2.out x5_kl45 p455 q455
      cases e455
      replace hx455_0:=qR hx455_0
      replace hx455_1:=qR hx455_1
      replace p455:=eq_true p455
      replace q455:=eq_true q455
      go_wp2_with(first|(refine zN 6 ?_;(try(refine z4 ?_;dsimp only));refine zX 6 70 #[.int .i64 0,.string (⟨#[]⟩:ByteArray)] ?_;intro gb456 hg w49 hbox hb;have hge:w7.heap.size≤gb456:=(by rw[hg];exact qG HB);clear hg;have hst:Below w7.heap.size w7 ((w49.setCell ⟨gb456,0,none⟩ (.int .i64 ((qN ((qD l0 x3_kl3).f2) x5_kl45).f0))).setCell ⟨gb456,1,none⟩ (.string ((qN ((qD l0 x3_kl3).f2) x5_kl45).f1))):=(qM (qM (zv HB hb) hge) hge);have hbx:((w49.setCell ⟨gb456,0,none⟩ (.int .i64 ((qN ((qD l0 x3_kl3).f2) x5_kl45).f0))).setCell ⟨gb456,1,none⟩ (.string ((qN ((qD l0 x3_kl3).f2) x5_kl45).f1))).heap[gb456]?=some (.cells #[.int .i64 ((qN ((qD l0 x3_kl3).f2) x5_kl45).f0),.string ((qN ((qD l0 x3_kl3).f2) x5_kl45).f1)] 70 (0,0)):=(qP (cs:= #[.int .i64 ((qN ((qD l0 x3_kl3).f2) x5_kl45).f0),.string (⟨#[]⟩:ByteArray)]) (qP (cs:= #[.int .i64 0,.string (⟨#[]⟩:ByteArray)]) hbox 0 _ rfl) 1 _ rfl);obtain⟨hs456_0,hs456_1,hf456_0,hf456_1⟩:=zc2 hbox)|((with_reducible refine qY (t:=70) (p:=6) rfl ?_);(try(refine z4 ?_;dsimp only));refine qV (t:=70) (p:=6) (v:=?vo_w50) (w1:=((w49.setCell ⟨gb456,0,none⟩ (.int .i64 ((qN ((qD l0 x3_kl3).f2) x5_kl45).f0))).setCell ⟨gb456,1,none⟩ (.string ((qN ((qD l0 x3_kl3).f2) x5_kl45).f1)))) ?hg ?ho ?hn ?hr ?_;(case ho=>rfl);(case hg=>rfl);(case hn=>rfl);(case hr=>first|(go_simp;done)|(go_simp;rfl));intro w50 hw;replace hst:=hst;rw[←hw] at hst hbx;clear hw hb hbox hge HB hs456_0 hf456_0 hs456_1 hf456_1;replace HW:=zz (zv HW.out hst);replace HLkl3:=zz (zv HLkl3.out hst);replace HLkl45:=zz (zv HLkl45.out hst);replace HR0:=zz (Kd.qC HR0.out hst);replace HR451_2:=zz (Kd.qC HR451_2.out hst);replace HR454_2:=zz (Kd.qC HR454_2.out hst);replace hx451_0:=qH hx451_0 hst;replace hx451_1:=qH hx451_1 hst;replace hx451_2:=qH hx451_2 hst;replace hbx452_0:=qH hbx452_0 hst;replace hbx452_1:=qH hbx452_1 hst;replace hbx452_2:=qH hbx452_2 hst;replace hx454_0:=qH hx454_0 hst;replace hx454_1:=qH hx454_1 hst;replace hx454_2:=qH hx454_2 hst;replace hx455_0:=qH hx455_0 hst;replace hx455_1:=qH hx455_1 hst;obtain⟨hbx456_0,hbx456_1⟩:=zx2 hbx;have HB:=Below.refl w50.heap.size w50;clear hbx hst))
      try simp only[Act.put,List.setIfInBounds_toArray,List.set_cons_zero,List.set_cons_succ]
      refine vB (C:=fun W_=>Below w50.heap.size w50 W_) zk zk (qQ HB) ?_
      by_cases c51:((qN ((qD l0 x3_kl3).f2) x5_kl45).f0)<1
      ·rw[if_pos c51] at H
       have c51b0:=z1 c51
       clear c51
       obtain rfl:=zi H
       repeat(first|go_big_quiet_skip|(go_big_quiet_want;go_big_quiet_op;first|go_big_quiet_on|(refine zE ?_;go_big_quiet_on)))
       clear HB
       refine zW fun w52 (HB:Below w50.heap.size w50 w52)=>?_
       go_wp2_with(fail)
       go_ret
       exact⟨ze,zv HW.out HB⟩
      rw[if_neg c51] at H
      have c51b0:=z0 c51
      clear c51
      by_cases c53:((qN ((qD l0 x3_kl3).f2) x5_kl45).f0)>9007199254740992
      ·rw[if_pos c53] at H
       have c53b0:=zgt c53
       clear c53
       obtain rfl:=zi H
       repeat(first|go_big_quiet_skip|(go_big_quiet_want;go_big_quiet_op;first|go_big_quiet_on|(refine zE ?_;go_big_quiet_on)))
       clear HB
       refine zW fun w54 (HB:Below w50.heap.size w50 w54)=>?_
       go_wp2_with(fail)
       go_ret
       exact⟨ze,zv HW.out HB⟩
      rw[if_neg c53] at H
      have c53b0:=zgtn c53
      clear c53
      by_cases c55:x5_kl45>0
      case neg=>
       rw[if_neg c55] at H
       have c55b0:=zgtn c55
       clear c55
       replace H:=zf H
       obtain⟨t459,A65,H⟩:=H
       try dsimp only at H
       replace A65:=zz A65
       by_cases c66:t459=true
       ·subst c66
        rw[if_pos rfl] at H
        repeat(first|go_big_quiet_skip|(go_big_quiet_want;go_big_quiet_op;first|go_big_quiet_on|(with_reducible apply Exists.intro;refine⟨fun W hW=>?_,?_⟩;(first|with_reducible rfl|(go_at_call 36;exact callD (spec_AddressOk.calls kl45 _ _ _ A65.out) hW)|(go_simp;with_reducible rfl));go_big_quiet_on)))
        clear HB
        refine zW fun w67 (HB:Below w50.heap.size w50 w67)=>?_
        go_wp2_with(fail)
        go_roundg kl45
        case measure=>have:=HKkl3.out;have:=HKkl45.out;omega
        case rel=>exact⟨(wrap64 (x5_kl45+1)),zr,⟨H⟩,⟨by have:=HKkl3.out;have:=HKkl45.out;omega⟩,⟨zv HLkl45.out HB⟩⟩
       replace c66:=Bool.eq_false_iff.mpr c66
       subst c66
       rw[if_neg (by decide)] at H
       obtain rfl:=zi H
       repeat(first|go_big_quiet_skip|(go_big_quiet_want;go_big_quiet_op;first|go_big_quiet_on|(with_reducible apply Exists.intro;refine⟨fun W hW=>?_,?_⟩;(first|with_reducible rfl|(go_at_call 36;exact callD (spec_AddressOk.calls kl45 _ _ _ A65.out) hW)|(go_simp;with_reducible rfl));go_big_quiet_on)))
       clear HB
       refine zW fun w68 (HB:Below w50.heap.size w50 w68)=>?_
       go_wp2_with(fail)
       go_ret
       exact⟨ze,zv HW.out HB⟩
      rw[if_pos c55] at H
      have c55b0:=zgt c55
      clear c55
      obtain⟨ji56,hji56⟩:∃j_:Int,(wrap64 (x5_kl45 - 1))=j_:=⟨_,rfl⟩
      (first|rw[hji56] at H|simp only[hji56] at H)
      have hji56w:(IntKind.i64.wrap (x5_kl45 - 1))=ji56:=(i64_w _).trans hji56
      (try rw[hji56] at A8)
      (try rw[hji56] at A42)
      by_cases c57:0≤(ji56)
      case neg=>exact zno H c57
      rw[if_pos c57] at H
      have c57b0:=z1 c57
      clear c57
      by_cases c58:(ji56)<(((qD l0 x3_kl3).f2).length:Int)
      case neg=>exact zno H c58
      rw[if_pos c58] at H
      have c58b0:=z1 c58
      clear c58
      have p457:0≤((ji56):Int):=z2
      have q457:((ji56):Int)<(((qD l0 x3_kl3).f2).length:Int):=z2
      obtain⟨ad457,e457,hx457_0,hx457_1⟩:=at_T70 HR451_2.out (ji56) p457 q457
      obtain rfl:ad455=ad457:=(by injection e457)
      replace hx457_0:=qR hx457_0
      replace hx457_1:=qR hx457_1
      replace p457:=eq_true p457
      replace q457:=eq_true q457
      by_cases c59:((qN ((qD l0 x3_kl3).f2) (ji56)).f0)≥((qN ((qD l0 x3_kl3).f2) x5_kl45).f0)
      ·rw[if_pos c59] at H
       have c59b0:=zge c59
       clear c59
       obtain rfl:=zi H
       repeat(first|go_big_quiet_skip|(go_big_quiet_want;go_big_quiet_op;first|go_big_quiet_on|(refine zE ?_;go_big_quiet_on)))
       clear HB
       refine zW fun w60 (HB:Below w50.heap.size w50 w60)=>?_
       go_wp2_with(fail)
       go_ret
       exact⟨ze,zv HW.out HB⟩
      rw[if_neg c59] at H
      have c59b0:=zgen c59
      clear c59
      replace H:=zf H
      obtain⟨t458,A61,H⟩:=H
      try dsimp only at H
      replace A61:=zz A61
      by_cases c62:t458=true
      ·subst c62
       rw[if_pos rfl] at H
       repeat(first|go_big_quiet_skip|(go_big_quiet_want;go_big_quiet_op;first|go_big_quiet_on|(with_reducible apply Exists.intro;refine⟨fun W hW=>?_,?_⟩;(first|with_reducible rfl|(go_at_call 36;exact callD (spec_AddressOk.calls kl45 _ _ _ A61.out) hW)|(go_simp;with_reducible rfl));go_big_quiet_on)))
       clear HB
       refine zW fun w63 (HB:Below w50.heap.size w50 w63)=>?_
       go_wp2_with(fail)
       go_roundg kl45
       case measure=>have:=HKkl3.out;have:=HKkl45.out;omega
       case rel=>exact⟨(wrap64 (x5_kl45+1)),zr,⟨H⟩,⟨by have:=HKkl3.out;have:=HKkl45.out;omega⟩,⟨zv HLkl45.out HB⟩⟩
      replace c62:=Bool.eq_false_iff.mpr c62
      subst c62
      rw[if_neg (by decide)] at H
      obtain rfl:=zi H
      repeat(first|go_big_quiet_skip|(go_big_quiet_want;go_big_quiet_op;first|go_big_quiet_on|(with_reducible apply Exists.intro;refine⟨fun W hW=>?_,?_⟩;(first|with_reducible rfl|(go_at_call 36;exact callD (spec_AddressOk.calls kl45 _ _ _ A61.out) hW)|(go_simp;with_reducible rfl));go_big_quiet_on)))
      clear HB
      refine zW fun w64 (HB:Below w50.heap.size w50 w64)=>?_
      go_wp2_with(fail)
      go_ret
      exact⟨ze,zv HW.out HB⟩
   rw[if_pos c17] at H
   obtain⟨c17b0,c17b1⟩:=zq c17
   clear c17
   repeat(first|go_big_quiet_skip|(go_big_quiet_want;go_big_quiet_op;first|go_big_quiet_on|(with_reducible apply Exists.intro;refine⟨fun W hW=>?_,?_⟩;(first|with_reducible rfl|(go_at_call 35;exact callD (spec_NameOk.calls kl3 _ _ _ A8.out) hW)|(go_simp;with_reducible rfl));go_big_quiet_on)))
   clear HB
   refine zW fun w19 (HB:Below w7.heap.size w7 w19)=>?_
   go_wp2_with(fail)
   go_loopg[5] kl3 (fun kq v5 w'=>∃(x5_kl18:Int),v5= .int .i64 x5_kl18∧qB (spec_ProfilesOk.l1 kq l0 x3_kl3 x5_kl18 ((qD l0 x3_kl3).f0) ((qD l0 x3_kl3).f1) ((qD l0 x3_kl3).f2)=some r)∧qB (kq≤kl3)∧qB (Below w7.heap.size w7 w'))
   case atStart=>exact⟨(0),zr,⟨H⟩,⟨Nat.le_refl _⟩,⟨HB⟩⟩
   case round=>
    clear H HB
    obtain⟨x5_kl18,rfl,H,HKkl18,HB⟩:=hrel
    replace HB:=HB.out
    replace H:=H.out
    have HLkl18:=zz (Below.refl w7.heap.size w7)
    cases gk with
    |zero=>exact absurd H (by simp[spec_ProfilesOk.l1])
    |succ kl18=>
     simp only[spec_ProfilesOk.l1] at H
     by_cases c20:x5_kl18<(((qD l0 x3_kl3).f2).length:Int)
     case neg=>
      rw[if_neg c20] at H
      have c20b0:=z0 c20
      clear c20
      go_wp2_with(fail)
      go_roundg kl18
      case measure=>have:=HKkl3.out;have:=HKkl18.out;omega
      case rel=>exact⟨(wrap64 (x3_kl3+1)),zr,⟨H⟩,⟨by have:=HKkl3.out;have:=HKkl18.out;omega⟩,⟨zv HLkl3.out HB⟩⟩
     rw[if_pos c20] at H
     have c20b0:=z1 c20
     clear c20
     by_cases c21:0≤x5_kl18
     case neg=>exact zno H c21
     rw[if_pos c21] at H
     have c21b0:=z1 c21
     clear c21
     have p455:0≤(x5_kl18:Int):=z2
     have q455:(x5_kl18:Int)<(((qD l0 x3_kl3).f2).length:Int):=z2
     obtain⟨ad455,e455,hx455_0,hx455_1⟩:=at_T70 HR451_2.out x5_kl18 p455 q455
     cases e455
     replace hx455_0:=qR hx455_0
     replace hx455_1:=qR hx455_1
     replace p455:=eq_true p455
     replace q455:=eq_true q455
     go_wp2_with(first|(refine zN 6 ?_;(try(refine z4 ?_;dsimp only));refine zX 6 70 #[.int .i64 0,.string (⟨#[]⟩:ByteArray)] ?_;intro gb456 hg w22 hbox hb;have hge:w7.heap.size≤gb456:=(by rw[hg];exact qG HB);clear hg;have hst:Below w7.heap.size w7 ((w22.setCell ⟨gb456,0,none⟩ (.int .i64 ((qN ((qD l0 x3_kl3).f2) x5_kl18).f0))).setCell ⟨gb456,1,none⟩ (.string ((qN ((qD l0 x3_kl3).f2) x5_kl18).f1))):=(qM (qM (zv HB hb) hge) hge);have hbx:((w22.setCell ⟨gb456,0,none⟩ (.int .i64 ((qN ((qD l0 x3_kl3).f2) x5_kl18).f0))).setCell ⟨gb456,1,none⟩ (.string ((qN ((qD l0 x3_kl3).f2) x5_kl18).f1))).heap[gb456]?=some (.cells #[.int .i64 ((qN ((qD l0 x3_kl3).f2) x5_kl18).f0),.string ((qN ((qD l0 x3_kl3).f2) x5_kl18).f1)] 70 (0,0)):=(qP (cs:= #[.int .i64 ((qN ((qD l0 x3_kl3).f2) x5_kl18).f0),.string (⟨#[]⟩:ByteArray)]) (qP (cs:= #[.int .i64 0,.string (⟨#[]⟩:ByteArray)]) hbox 0 _ rfl) 1 _ rfl);obtain⟨hs456_0,hs456_1,hf456_0,hf456_1⟩:=zc2 hbox)|((with_reducible refine qY (t:=70) (p:=6) rfl ?_);(try(refine z4 ?_;dsimp only));refine qV (t:=70) (p:=6) (v:=?vo_w23) (w1:=((w22.setCell ⟨gb456,0,none⟩ (.int .i64 ((qN ((qD l0 x3_kl3).f2) x5_kl18).f0))).setCell ⟨gb456,1,none⟩ (.string ((qN ((qD l0 x3_kl3).f2) x5_kl18).f1)))) ?hg ?ho ?hn ?hr ?_;(case ho=>rfl);(case hg=>rfl);(case hn=>rfl);(case hr=>first|(go_simp;done)|(go_simp;rfl));intro w23 hw;replace hst:=hst;rw[←hw] at hst hbx;clear hw hb hbox hge HB hs456_0 hf456_0 hs456_1 hf456_1;replace HW:=zz (zv HW.out hst);replace HLkl3:=zz (zv HLkl3.out hst);replace HLkl18:=zz (zv HLkl18.out hst);replace HR0:=zz (Kd.qC HR0.out hst);replace HR451_2:=zz (Kd.qC HR451_2.out hst);replace HR454_2:=zz (Kd.qC HR454_2.out hst);replace hx451_0:=qH hx451_0 hst;replace hx451_1:=qH hx451_1 hst;replace hx451_2:=qH hx451_2 hst;replace hbx452_0:=qH hbx452_0 hst;replace hbx452_1:=qH hbx452_1 hst;replace hbx452_2:=qH hbx452_2 hst;replace hx454_0:=qH hx454_0 hst;replace hx454_1:=qH hx454_1 hst;replace hx454_2:=qH hx454_2 hst;replace hx455_0:=qH hx455_0 hst;replace hx455_1:=qH hx455_1 hst;obtain⟨hbx456_0,hbx456_1⟩:=zx2 hbx;have HB:=Below.refl w23.heap.size w23;clear hbx hst))
     try simp only[Act.put,List.setIfInBounds_toArray,List.set_cons_zero,List.set_cons_succ]
     refine vB (C:=fun W_=>Below w23.heap.size w23 W_) zk zk (qQ HB) ?_
     by_cases c24:((qN ((qD l0 x3_kl3).f2) x5_kl18).f0)<1
     ·rw[if_pos c24] at H
      have c24b0:=z1 c24
      clear c24
      obtain rfl:=zi H
      repeat(first|go_big_quiet_skip|(go_big_quiet_want;go_big_quiet_op;first|go_big_quiet_on|(refine zE ?_;go_big_quiet_on)))
      clear HB
      refine zW fun w25 (HB:Below w23.heap.size w23 w25)=>?_
      go_wp2_with(fail)
      go_ret
      exact⟨ze,zv HW.out HB⟩
     rw[if_neg c24] at H
     have c24b0:=z0 c24
     clear c24
     by_cases c26:((qN ((qD l0 x3_kl3).f2) x5_kl18).f0)>9007199254740992
     ·rw[if_pos c26] at H
      have c26b0:=zgt c26
      clear c26
      obtain rfl:=zi H
      repeat(first|go_big_quiet_skip|(go_big_quiet_want;go_big_quiet_op;first|go_big_quiet_on|(refine zE ?_;go_big_quiet_on)))
      clear HB
      refine zW fun w27 (HB:Below w23.heap.size w23 w27)=>?_
      go_wp2_with(fail)
      go_ret
      exact⟨ze,zv HW.out HB⟩
     rw[if_neg c26] at H
     have c26b0:=zgtn c26
     clear c26
     by_cases c28:x5_kl18>0
     ·rw[if_pos c28] at H
      have c28b0:=zgt c28
      clear c28
      obtain⟨ji29,hji29⟩:∃j_:Int,(wrap64 (x5_kl18 - 1))=j_:=⟨_,rfl⟩
      (first|rw[hji29] at H|simp only[hji29] at H)
      have hji29w:(IntKind.i64.wrap (x5_kl18 - 1))=ji29:=(i64_w _).trans hji29
      (try rw[hji29] at A8)
      by_cases c30:0≤(ji29)
      case neg=>exact zno H c30
      rw[if_pos c30] at H
      have c30b0:=z1 c30
      clear c30
      by_cases c31:(ji29)<(((qD l0 x3_kl3).f2).length:Int)
      case neg=>exact zno H c31
      rw[if_pos c31] at H
      have c31b0:=z1 c31
      clear c31
      have p457:0≤((ji29):Int):=z2
      have q457:((ji29):Int)<(((qD l0 x3_kl3).f2).length:Int):=z2
      obtain⟨ad457,e457,hx457_0,hx457_1⟩:=at_T70 HR451_2.out (ji29) p457 q457
      obtain rfl:ad455=ad457:=(by injection e457)
      replace hx457_0:=qR hx457_0
      replace hx457_1:=qR hx457_1
      replace p457:=eq_true p457
      replace q457:=eq_true q457
      by_cases c32:((qN ((qD l0 x3_kl3).f2) (ji29)).f0)≥((qN ((qD l0 x3_kl3).f2) x5_kl18).f0)
      ·rw[if_pos c32] at H
       have c32b0:=zge c32
       clear c32
       obtain rfl:=zi H
       repeat(first|go_big_quiet_skip|(go_big_quiet_want;go_big_quiet_op;first|go_big_quiet_on|(refine zE ?_;go_big_quiet_on)))
       clear HB
       refine zW fun w33 (HB:Below w23.heap.size w23 w33)=>?_
       go_wp2_with(fail)
       go_ret
       exact⟨ze,zv HW.out HB⟩
      rw[if_neg c32] at H
      have c32b0:=zgen c32
      clear c32
      replace H:=zf H
      obtain⟨t458,A34,H⟩:=H
      try dsimp only at H
      replace A34:=zz A34
      by_cases c35:t458=true
      ·subst c35
       rw[if_pos rfl] at H
       repeat(first|go_big_quiet_skip|(go_big_quiet_want;go_big_quiet_op;first|go_big_quiet_on|(with_reducible apply Exists.intro;refine⟨fun W hW=>?_,?_⟩;(first|with_reducible rfl|(go_at_call 36;exact callD (spec_AddressOk.calls kl18 _ _ _ A34.out) hW)|(go_simp;with_reducible rfl));go_big_quiet_on)))
       clear HB
       refine zW fun w36 (HB:Below w23.heap.size w23 w36)=>?_
       go_wp2_with(fail)
       go_roundg kl18
       case measure=>have:=HKkl3.out;have:=HKkl18.out;omega
       case rel=>exact⟨(wrap64 (x5_kl18+1)),zr,⟨H⟩,⟨by have:=HKkl3.out;have:=HKkl18.out;omega⟩,⟨zv HLkl18.out HB⟩⟩
      replace c35:=Bool.eq_false_iff.mpr c35
      subst c35
      rw[if_neg (by decide)] at H
      obtain rfl:=zi H
      repeat(first|go_big_quiet_skip|(go_big_quiet_want;go_big_quiet_op;first|go_big_quiet_on|(with_reducible apply Exists.intro;refine⟨fun W hW=>?_,?_⟩;(first|with_reducible rfl|(go_at_call 36;exact callD (spec_AddressOk.calls kl18 _ _ _ A34.out) hW)|(go_simp;with_reducible rfl));go_big_quiet_on)))
      clear HB
      refine zW fun w37 (HB:Below w23.heap.size w23 w37)=>?_
      go_wp2_with(fail)
      go_ret
      exact⟨ze,zv HW.out HB⟩
     rw[if_neg c28] at H
     have c28b0:=zgtn c28
     clear c28
     replace H:=zf H
     obtain⟨t459,A38,H⟩:=H
     try dsimp only at H
     replace A38:=zz A38
     by_cases c39:t459=true
     ·subst c39
      rw[if_pos rfl] at H
      repeat(first|go_big_quiet_skip|(go_big_quiet_want;go_big_quiet_op;first|go_big_quiet_on|(with_reducible apply Exists.intro;refine⟨fun W hW=>?_,?_⟩;(first|with_reducible rfl|(go_at_call 36;exact callD (spec_AddressOk.calls kl18 _ _ _ A38.out) hW)|(go_simp;with_reducible rfl));go_big_quiet_on)))
      clear HB
      refine zW fun w40 (HB:Below w23.heap.size w23 w40)=>?_
      go_wp2_with(fail)
      go_roundg kl18
      case measure=>have:=HKkl3.out;have:=HKkl18.out;omega
      case rel=>exact⟨(wrap64 (x5_kl18+1)),zr,⟨H⟩,⟨by have:=HKkl3.out;have:=HKkl18.out;omega⟩,⟨zv HLkl18.out HB⟩⟩
     replace c39:=Bool.eq_false_iff.mpr c39
     subst c39
     rw[if_neg (by decide)] at H
     obtain rfl:=zi H
     repeat(first|go_big_quiet_skip|(go_big_quiet_want;go_big_quiet_op;first|go_big_quiet_on|(with_reducible apply Exists.intro;refine⟨fun W hW=>?_,?_⟩;(first|with_reducible rfl|(go_at_call 36;exact callD (spec_AddressOk.calls kl18 _ _ _ A38.out) hW)|(go_simp;with_reducible rfl));go_big_quiet_on)))
     clear HB
     refine zW fun w41 (HB:Below w23.heap.size w23 w41)=>?_
     go_wp2_with(fail)
     go_ret
     exact⟨ze,zv HW.out HB⟩
end Go.Proofs.YtcekmnclmldmmaaGreatDoor.Q
