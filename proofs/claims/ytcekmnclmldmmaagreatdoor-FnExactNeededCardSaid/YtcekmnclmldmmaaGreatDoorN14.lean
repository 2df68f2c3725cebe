import Derived.Test.YtcekmnclmldmmaaGreatDoorN12
import Derived.Test.YtcekmnclmldmmaaGreatDoorN10
set_option linter.unusedVariables false
set_option linter.unusedSimpArgs false
namespace Go.Proofs.YtcekmnclmldmmaaGreatDoor.Q
open Go.RowKit W1 W2 W3
attribute [local go_sem] max2_int min2_int max_two min_two max_three min_three max_four min_four
attribute [local go_sem high] bl_leq bl_gtr bl_geq
set_option maxHeartbeats 8000000
set_option maxRecDepth 100000
def impl_storePaths.l0:Nat→List ByteArray→List (S94)→Int→Int→Option (List ByteArray)
 |0,_,_,_,_=>none
 |k+1,x3,x7,x8,x9=>if x9<x8 then(if 0≤x9 then(if x9<(x7.length:Int) then(if x3.length<8796093022208 then(impl_storePaths.l0 k (x3++[(qL x7 x9).f0]) x7 x8 (wrap64 (x9+1))) else(none)) else(none)) else(none)) else(some x3)
def impl_storePaths.f(k:Nat)(l0:List (S94)):Option (List ByteArray):=impl_storePaths.l0 k (([]:List ByteArray)) l0 (l0.length:Int) 0
theorem impl_storePaths.calls(k:Nat)(A0:Option Addr)(c0:Nat)(l0:List (S94))(r:List ByteArray)(w:World)(hr0:Kd.C k94 w A0 l0.length l0)(hc0:l0.length≤c0)(h:impl_storePaths.f k l0=some r):
 Calls Tryz.prog 89 #[.slice A0 l0.length c0] w fun e w'=>∃v0_:Value,e= .returned (v0_)∧Kd.R Kd.string 9 w' w.heap.size (fun _=>True) v0_ r∧Below w.heap.size w w':=by
 have hu94:=Tryz.underlying94
 have HR0:=zz hr0
 have HC0:=zz hc0
 clear hr0 hc0
 have HB:=zz (Below.refl w.heap.size w)
 unfold impl_storePaths.f at h
 have H:=h
 clear h
 obtain⟨y525,hy525⟩:∃y_:List ByteArray,y_=(([]:List ByteArray)):=⟨_,rfl⟩
 replace H:(impl_storePaths.l0 k y525 l0 (l0.length:Int) 0)=some r:=by first|(rw[hy525];with_reducible exact H)|(have H2_:=(Option.bind_some _ _).symm.trans H;rw[hy525];with_reducible exact H2_)|(have H2_:=(Option.bind_some _ _).symm.trans H;with_reducible exact H2_)|with_reducible exact H|(rw[hy525];exact H)|exact H
 have Ny525:=zz hy525
 clear hy525
 have H':=zz H
 clear H
 go_enter Tryz.func89,Tryz.ntmps89
 go_wp2_with(first|(refine zN 6 ?_;refine Kd.R_lit Kd.string _ 9 ?hg (N:=6) ?hd (xs:=([]:List ByteArray)) (inner:=[]) (ok:=fun _=>True) (okp:=fun _=>True) ?hr ?hp (fun _ hk=>hk) trivial (Below.refl _ _) (Nat.le_refl _) (by simp) ?_;(case hd=>rfl);(case hg=>rfl);(case hr=>first|(go_simp;done)|(go_simp;rfl));(case hp=>exact(Reps.none _ _));intro v526 w2 ho3 hb hg_ hnew_;clear hg_ hnew_;(first|rw[←Ny525.out] at ho3|(simp only[Int.reduceToNat] at ho3;rw[←Ny525.out] at ho3));have HO527:=zz (Kd.vH ho3 (qG zb));replace HB:=zz (zv zb hb);clear hb ho3))
 go_loopg[3,9] k (fun kq v3 v9 w'=>∃(x3_1:List ByteArray) (x9_1:Int),v9= .int .i64 x9_1∧qB (impl_storePaths.l0 kq x3_1 l0 (l0.length:Int) x9_1=some r)∧qB (kq≤k)∧qB (Kd.R Kd.string 9 w' w.heap.size (fun _=>True) v3 x3_1)∧qB (Below w.heap.size w w'))
 case atStart=>exact⟨(y525),(0),zr,H',⟨Nat.le_refl _⟩,⟨by(with_reducible repeat(first|apply Kd.qU|apply Kd.qT|apply Kd.qX));exact HO527.out⟩,⟨zb⟩⟩
 case round=>
  clear H'
  try clear p2
  obtain⟨x3_1,x9_1,rfl,HA,HK1,HO_3,HB⟩:=hrel
  cases gk with
  |zero=>exact absurd HA.out (by simp[impl_storePaths.l0])
  |succ k1=>
   have H:=HA.out
   clear HA
   simp only[impl_storePaths.l0] at H
   by_cases c4:x9_1<(l0.length:Int)
   case neg=>
    rw[if_neg c4] at H
    have c4b0:=z0 c4
    clear c4
    obtain rfl:=zi H
    go_wp2
    go_ret
    exact⟨_,ze,by(with_reducible repeat(first|apply Kd.qU|apply Kd.qT|apply Kd.qX));exact HO_3.out,zb⟩
   rw[if_pos c4] at H
   have c4b0:=z1 c4
   clear c4
   by_cases c5:0≤x9_1
   case neg=>exact zno H c5
   rw[if_pos c5] at H
   have c5b0:=z1 c5
   clear c5
   by_cases c6:x9_1<(l0.length:Int)
   case neg=>exact zno H c6
   rw[if_pos c6] at H
   have c6b0:=z1 c6
   clear c6
   by_cases c7:x3_1.length<8796093022208
   case neg=>exact zno H c7
   rw[if_pos c7] at H
   have LMc7:=zz c7
   clear c7
   obtain⟨y530,hy530⟩:∃y_:List ByteArray,y_=(x3_1++[(qL l0 x9_1).f0]):=⟨_,rfl⟩
   replace H:(impl_storePaths.l0 k1 y530 l0 (l0.length:Int) (wrap64 (x9_1+1)))=some r:=by first|(rw[hy530];with_reducible exact H)|(have H2_:=(Option.bind_some _ _).symm.trans H;rw[hy530];with_reducible exact H2_)|(have H2_:=(Option.bind_some _ _).symm.trans H;with_reducible exact H2_)|with_reducible exact H|(rw[hy530];exact H)|exact H
   have Ny530:=zz hy530
   clear hy530
   have H':=zz H
   clear H
   have p528:0≤(x9_1:Int):=z2
   have q528:x9_1<(l0.length:Int):=z2
   obtain⟨ad528,A528_2,c528_2,A528_4,c528_4,e528,hx528_0,hx528_1,hx528_2,hx528_3,hx528_4,hl528_2,hi528_2,hl528_4,hi528_4⟩:=at_T94 HR0.out x9_1 p528 q528
   cases e528
   replace hx528_0:=z3 HB.out hx528_0
   replace hx528_1:=z3 HB.out hx528_1
   replace hx528_2:=z3 HB.out hx528_2
   replace hx528_3:=z3 HB.out hx528_3
   replace hx528_4:=z3 HB.out hx528_4
   have HR528_2:=zz hi528_2
   have HC528_2:=zz hl528_2
   clear hi528_2 hl528_2
   have HR528_4:=zz hi528_4
   have HC528_4:=zz hl528_4
   clear hi528_4 hl528_4
   replace p528:=eq_true p528
   replace q528:=eq_true q528
   go_wp2_with(first|(refine zX 5 94 #[.string (⟨#[]⟩:ByteArray),.string (⟨#[]⟩:ByteArray),.slice none 0 0,.string (⟨#[]⟩:ByteArray),.slice none 0 0] ?_;intro gb529 hg w8 hbox hb;replace HO_3:=zz (Kd.R_below (zR HO_3.out) hb);have BK529:=zz (hbox);have GW529:=zz ((zg:w.heap.size≤gb529));have GE529:=zz ((zg:w.heap.size≤gb529));replace HB:=zz (zv zb hb);clear hb hbox hg;obtain⟨hcz9_0,hcz9_1,hcz9_2,hcz9_3,hcz9_4,hfz9_0,hfz9_1,hfz9_2,hfz9_3,hfz9_4⟩:=zc5 BK529.out)|((with_reducible refine vJ (b:= .append) (xs:= #[.tmp 13,.tmp 16]) rfl ?_);at_builtin;refine Kd.R_append Kd.string (w0:=w) w.heap.size rfl (.tmp 13) (.tmp 16) 39 9 (.string ⟨#[]⟩) 16 rfl Tryz.underlying39 info9 rfl (by decide) (by omega) u3 x3_1 ((qL l0 x9_1).f0) [.string ((qL l0 x9_1).f0)] (fun _=>True) (fun _=>False) rfl (by first|(go_simp;done)|(go_simp;rfl)) ?aP (fun _ hk=>hk.elim) ?aF ?aO ?aB ?aS ?aL ?_;(case aP=>exact rfl);(case aB=>exact zb);(case aF=>exact(fun _ _=>trivial));(case aO=>exact(by(with_reducible repeat(first|apply Kd.qU|apply Kd.qT|apply Kd.qX));exact Kd.vF (Kd.R_far (p:=⟨gb529,4,none⟩) (Kd.R_far (p:=⟨gb529,3,none⟩) (Kd.R_far (p:=⟨gb529,2,none⟩) (Kd.R_far (p:=⟨gb529,1,none⟩) (Kd.R_far (p:=⟨gb529,0,none⟩) (Kd.R_types HO_3.out BK529.out (by decide)) (fun _ hk=>hk.2) (.string ((qL l0 x9_1).f0))) (fun _ hk=>hk.2) (.string ((qL l0 x9_1).f1))) (fun _ hk=>hk.2) (.slice A528_2 ((qL l0 x9_1).f2).length c528_2)) (fun _ hk=>hk.2) (.string ((qL l0 x9_1).f3))) (fun _ hk=>hk.2) (.slice A528_4 ((qL l0 x9_1).f4).length c528_4)) (fun _ hk=>trivial)));(case aS=>exact(qG zb));(case aL=>have:=LMc7.out;omega);intro v531 w10 ho hb hg hat;rw[←Ny530.out] at ho;replace BK529:=zz (blk_grown (g:=gb529) (o:= .cells #[.string ((qL l0 x9_1).f0),.string ((qL l0 x9_1).f1),.slice A528_2 ((qL l0 x9_1).f2).length c528_2,.string ((qL l0 x9_1).f3),.slice A528_4 ((qL l0 x9_1).f4).length c528_4] 94 (0,0)) (by(with_reducible repeat(first|refine qJ ?_ _|refine qK ?_|refine qF ?_ _));refine qP (cs:= #[.string ((qL l0 x9_1).f0),.string ((qL l0 x9_1).f1),.slice A528_2 ((qL l0 x9_1).f2).length c528_2,.string ((qL l0 x9_1).f3),.slice none 0 0]) ?_ 4 _ rfl;(with_reducible repeat(first|refine qJ ?_ _|refine qK ?_|refine qF ?_ _));refine qP (cs:= #[.string ((qL l0 x9_1).f0),.string ((qL l0 x9_1).f1),.slice A528_2 ((qL l0 x9_1).f2).length c528_2,.string (⟨#[]⟩:ByteArray),.slice none 0 0]) ?_ 3 _ rfl;(with_reducible repeat(first|refine qJ ?_ _|refine qK ?_|refine qF ?_ _));refine qP (cs:= #[.string ((qL l0 x9_1).f0),.string ((qL l0 x9_1).f1),.slice none 0 0,.string (⟨#[]⟩:ByteArray),.slice none 0 0]) ?_ 2 _ rfl;(with_reducible repeat(first|refine qJ ?_ _|refine qK ?_|refine qF ?_ _));refine qP (cs:= #[.string ((qL l0 x9_1).f0),.string (⟨#[]⟩:ByteArray),.slice none 0 0,.string (⟨#[]⟩:ByteArray),.slice none 0 0]) ?_ 1 _ rfl;(with_reducible repeat(first|refine qJ ?_ _|refine qK ?_|refine qF ?_ _));refine qP (cs:= #[.string (⟨#[]⟩:ByteArray),.string (⟨#[]⟩:ByteArray),.slice none 0 0,.string (⟨#[]⟩:ByteArray),.slice none 0 0]) ?_ 0 _ rfl;(with_reducible repeat(first|refine qJ ?_ _|refine qK ?_|refine qF ?_ _));exact BK529.out) hg (Kd.R_ne HO_3.out BK529.out (by decide)));replace HB:=zz (hb);have HO532:=zz (ho);clear HO_3;clear ho hb hg hat))
   go_roundg k1
   case measure=>have:=HK1.out;omega
   case rel=>exact⟨(y530),(wrap64 (x9_1+1)),zr,H',⟨by have:=HK1.out;omega⟩,⟨by(with_reducible repeat(first|apply Kd.qU|apply Kd.qT|apply Kd.qX));exact HO532.out⟩,⟨zb⟩⟩
def impl_rising_hs.l0:Nat→List ByteArray→Int→Option (Bool)
 |0,_,_=>none
 |k+1,x0,x3=>if x3<(x0.length:Int) then(if 0≤(wrap64 (x3 - 1)) then(if(wrap64 (x3 - 1))<(x0.length:Int) then(if 0≤x3 then(if((Op.bytesLess ((rdOf ByteArray.empty x0 (wrap64 (x3 - 1))).toList) ((rdOf ByteArray.empty x0 x3).toList))=true) then(impl_rising_hs.l0 k x0 (wrap64 (x3+1))) else(some false)) else(none)) else(none)) else(none)) else(some true)
def impl_rising_hs.f(k:Nat)(l0:List ByteArray):Option (Bool):=impl_rising_hs.l0 k l0 1
theorem impl_rising_hs.calls(k:Nat)(A0:Option Addr)(c0:Nat)(l0:List ByteArray)(r:Bool)(w:World)(hr0:Kd.C Kd.string w A0 l0.length l0)(hc0:l0.length≤c0)(h:impl_rising_hs.f k l0=some r):
 Calls Tryz.prog 90 #[.slice A0 l0.length c0] w fun e w'=>e= .returned (.bool r)∧qE w w':=by
 have HR0:=zz hr0
 have HC0:=zz hc0
 clear hr0 hc0
 unfold impl_rising_hs.f at h
 have H:=h
 clear h
 have H':=zz H
 clear H
 go_enter Tryz.func90,Tryz.ntmps90
 go_wp2
 repeat(go_quiet (fail);try go_wp2)
 go_loopg[3] k (fun kq v3 w'=>∃(x3_1:Int),v3= .int .i64 x3_1∧qB (impl_rising_hs.l0 kq l0 x3_1=some r)∧qB (kq≤k)∧qE w w')
 case atStart=>exact⟨(1),zr,H',⟨Nat.le_refl _⟩,by repeat(first|exact qE.refl _|apply qE.step)⟩
 case round=>
  clear H'
  obtain⟨x3_1,rfl,HA,HK1,⟨m1,rfl⟩⟩:=hrel
  cases gk with
  |zero=>exact absurd HA.out (by simp[impl_rising_hs.l0])
  |succ k1=>
   have H:=HA.out
   clear HA
   simp only[impl_rising_hs.l0] at H
   by_cases c2:x3_1<(l0.length:Int)
   case neg=>
    rw[if_neg c2] at H
    have c2b0:=z0 c2
    clear c2
    obtain rfl:=zi H
    go_wp2
    repeat(go_quiet (fail);try go_wp2)
    go_ret
    exact⟨zr,by repeat(first|exact qE.refl _|apply qE.step)⟩
   rw[if_pos c2] at H
   have c2b0:=z1 c2
   clear c2
   obtain⟨ji3,hji3⟩:∃j_:Int,(wrap64 (x3_1 - 1))=j_:=⟨_,rfl⟩
   replace H:(if 0≤(ji3) then(if(ji3)<(l0.length:Int) then(if 0≤x3_1 then(if((Op.bytesLess ((rdOf ByteArray.empty l0 (ji3)).toList) ((rdOf ByteArray.empty l0 x3_1).toList))=true) then(impl_rising_hs.l0 k1 l0 (wrap64 (x3_1+1))) else(some false)) else(none)) else(none)) else(none))=some r:=by first|(rw[hji3] at H;exact H)|(simp only[hji3] at H⊢;exact H)
   have hji3w:(IntKind.i64.wrap (x3_1 - 1))=ji3:=(i64_w _).trans hji3
   by_cases c4:0≤(ji3)
   case neg=>exact zno H c4
   rw[if_pos c4] at H
   have c4b0:=z1 c4
   clear c4
   by_cases c5:(ji3)<(l0.length:Int)
   case neg=>exact zno H c5
   rw[if_pos c5] at H
   have c5b0:=z1 c5
   clear c5
   by_cases c6:0≤x3_1
   case neg=>exact zno H c6
   rw[if_pos c6] at H
   have c6b0:=z1 c6
   clear c6
   by_cases c7:((Op.bytesLess ((rdOf ByteArray.empty l0 (ji3)).toList) ((rdOf ByteArray.empty l0 x3_1).toList))=true)
   case neg=>
    rw[if_neg c7] at H
    have c7b0:(Op.bytesLess ((rdOf ByteArray.empty l0 (ji3)).toList) ((rdOf ByteArray.empty l0 x3_1).toList))=false:=by simpa using c7
    clear c7
    obtain rfl:=zi H
    have p533:0≤((ji3):Int):=z2
    have q533:(ji3)<(l0.length:Int):=z2
    obtain⟨ad533,e533,hx533_0⟩:=Kd.vC HR0.out (ji3) p533 q533
    cases e533
    replace p533:=eq_true p533
    replace q533:=eq_true q533
    have p534:0≤(x3_1:Int):=z2
    have q534:x3_1<(l0.length:Int):=z2
    obtain⟨ad534,e534,hx534_0⟩:=Kd.vC HR0.out x3_1 p534 q534
    obtain rfl:ad533=ad534:=(by injection e534)
    replace p534:=eq_true p534
    replace q534:=eq_true q534
    go_wp2
    repeat(go_quiet (fail);try go_wp2)
    go_ret
    exact⟨by first|rfl|(simp;done)|(simp only[←hji3]<;>(first|rfl|simp))|(simp[*];done),by repeat(first|exact qE.refl _|apply qE.step)⟩
   rw[if_pos c7] at H
   have c7b0:(Op.bytesLess ((rdOf ByteArray.empty l0 (ji3)).toList) ((rdOf ByteArray.empty l0 x3_1).toList))=true:=c7
   clear c7
   have H':=zz H
   clear H
   have p533:0≤((ji3):Int):=z2
   have q533:(ji3)<(l0.length:Int):=z2
   obtain⟨ad533,e533,hx533_0⟩:=Kd.vC HR0.out (ji3) p533 q533
   cases e533
   replace p533:=eq_true p533
   replace q533:=eq_true q533
   have p534:0≤(x3_1:Int):=z2
   have q534:x3_1<(l0.length:Int):=z2
   obtain⟨ad534,e534,hx534_0⟩:=Kd.vC HR0.out x3_1 p534 q534
   obtain rfl:ad533=ad534:=(by injection e534)
   replace p534:=eq_true p534
   replace q534:=eq_true q534
   go_wp2
   repeat(go_quiet (fail);try go_wp2)
   go_roundg k1
   case measure=>have:=HK1.out;omega
   case rel=>exact⟨(wrap64 (x3_1+1)),zr,H',⟨by have:=HK1.out;omega⟩,by repeat(first|exact qE.refl _|apply qE.step)⟩
def impl_sameTexts.l0:Nat→List ByteArray→List ByteArray→Int→Int→Option (Bool)
 |0,_,_,_,_=>none
 |k+1,x0,x1,x12,x13=>if x13<x12 then(if 0≤x13 then(if x13<(x0.length:Int) then(if x13<(x1.length:Int) then(if(rdOf ByteArray.empty x0 x13).toList=(rdOf ByteArray.empty x1 x13).toList then(impl_sameTexts.l0 k x0 x1 x12 (wrap64 (x13+1))) else(some false)) else(none)) else(none)) else(none)) else(some true)
def impl_sameTexts.f(k:Nat)(l0:List ByteArray)(l1:List ByteArray):Option (Bool):=if(l0.length:Int)=(l1.length:Int) then(impl_sameTexts.l0 k l0 l1 (l0.length:Int) 0) else(some false)
theorem impl_sameTexts.calls(k:Nat)(A0:Option Addr)(c0:Nat)(l0:List ByteArray)(A1:Option Addr)(c1:Nat)(l1:List ByteArray)(r:Bool)(w:World)(hr0:Kd.C Kd.string w A0 l0.length l0)(hc0:l0.length≤c0)(hr1:Kd.C Kd.string w A1 l1.length l1)(hc1:l1.length≤c1)(h:impl_sameTexts.f k l0 l1=some r):
 Calls Tryz.prog 126 #[.slice A0 l0.length c0,.slice A1 l1.length c1] w fun e w'=>e= .returned (.bool r)∧qE w w':=by
 have HR0:=zz hr0
 have HC0:=zz hc0
 clear hr0 hc0
 have HR1:=zz hr1
 have HC1:=zz hc1
 clear hr1 hc1
 unfold impl_sameTexts.f at h
 have H:=h
 clear h
 by_cases c3:(l0.length:Int)=(l1.length:Int)
 case neg=>
  rw[if_neg c3] at H
  obtain⟨c3b0,c3b1⟩:=zw c3
  have c3b2:(l0.length==l1.length)=false:=by first|simpa using c3|(simp at c3⊢;omega)
  obtain rfl:=zi H
  go_enter Tryz.func126,Tryz.ntmps126
  go_wp2
  repeat(go_quiet (fail);try go_wp2)
  go_ret
  exact⟨zr,by repeat(first|exact qE.refl _|apply qE.step)⟩
 rw[if_pos c3] at H
 obtain⟨c3b0,c3b1⟩:=zq c3
 have c3b2:(l0.length==l1.length)=true:=by first|simpa using c3|(simp at c3⊢;omega)
 clear c3
 have H':=zz H
 clear H
 go_enter Tryz.func126,Tryz.ntmps126
 go_wp2
 repeat(go_quiet (fail);try go_wp2)
 go_loopg[13] k (fun kq v13 w'=>∃(x13_1:Int),v13= .int .i64 x13_1∧qB (impl_sameTexts.l0 kq l0 l1 (l0.length:Int) x13_1=some r)∧qB (kq≤k)∧qE w w')
 case atStart=>exact⟨(0),zr,H',⟨Nat.le_refl _⟩,by repeat(first|exact qE.refl _|apply qE.step)⟩
 case round=>
  clear H'
  try clear c1
  try clear p2
  try clear c3
  try clear c3b0
  try clear c3b1
  try clear c3b2
  obtain⟨x13_1,rfl,HA,HK1,⟨m1,rfl⟩⟩:=hrel
  cases gk with
  |zero=>exact absurd HA.out (by simp[impl_sameTexts.l0])
  |succ k1=>
   have H:=HA.out
   clear HA
   simp only[impl_sameTexts.l0] at H
   by_cases c4:x13_1<(l0.length:Int)
   case neg=>
    rw[if_neg c4] at H
    have c4b0:=z0 c4
    clear c4
    obtain rfl:=zi H
    go_wp2
    repeat(go_quiet (fail);try go_wp2)
    go_ret
    exact⟨zr,by repeat(first|exact qE.refl _|apply qE.step)⟩
   rw[if_pos c4] at H
   have c4b0:=z1 c4
   clear c4
   by_cases c5:0≤x13_1
   case neg=>exact zno H c5
   rw[if_pos c5] at H
   have c5b0:=z1 c5
   clear c5
   by_cases c6:x13_1<(l0.length:Int)
   case neg=>exact zno H c6
   rw[if_pos c6] at H
   have c6b0:=z1 c6
   clear c6
   by_cases c7:x13_1<(l1.length:Int)
   case neg=>exact zno H c7
   rw[if_pos c7] at H
   have c7b0:=z1 c7
   clear c7
   by_cases c8:(rdOf ByteArray.empty l0 x13_1).toList=(rdOf ByteArray.empty l1 x13_1).toList
   case neg=>
    rw[if_neg c8] at H
    obtain⟨c8b0,c8b1⟩:=zw c8
    obtain rfl:=zi H
    have p618:0≤(x13_1:Int):=z2
    have q618:x13_1<(l0.length:Int):=z2
    obtain⟨ad618,e618,hx618_0⟩:=Kd.vC HR0.out x13_1 p618 q618
    cases e618
    replace p618:=eq_true p618
    replace q618:=eq_true q618
    have p619:0≤(x13_1:Int):=z2
    have q619:x13_1<(l1.length:Int):=z2
    obtain⟨ad619,e619,hx619_0⟩:=Kd.vC HR1.out x13_1 p619 q619
    cases e619
    replace p619:=eq_true p619
    replace q619:=eq_true q619
    go_wp2
    repeat(go_quiet (fail);try go_wp2)
    go_ret
    exact⟨zr,by repeat(first|exact qE.refl _|apply qE.step)⟩
   rw[if_pos c8] at H
   obtain⟨c8b0,c8b1⟩:=zq c8
   clear c8
   have H':=zz H
   clear H
   have p618:0≤(x13_1:Int):=z2
   have q618:x13_1<(l0.length:Int):=z2
   obtain⟨ad618,e618,hx618_0⟩:=Kd.vC HR0.out x13_1 p618 q618
   cases e618
   replace p618:=eq_true p618
   replace q618:=eq_true q618
   have p619:0≤(x13_1:Int):=z2
   have q619:x13_1<(l1.length:Int):=z2
   obtain⟨ad619,e619,hx619_0⟩:=Kd.vC HR1.out x13_1 p619 q619
   cases e619
   replace p619:=eq_true p619
   replace q619:=eq_true q619
   go_wp2
   repeat(go_quiet (fail);try go_wp2)
   go_roundg k1
   case measure=>have:=HK1.out;omega
   case rel=>exact⟨(wrap64 (x13_1+1)),zr,H',⟨by have:=HK1.out;omega⟩,by repeat(first|exact qE.refl _|apply qE.step)⟩
def impl_itemOk.f(k:Nat)(a0_0:ByteArray)(a0_1:ByteArray)(l0_2:List ByteArray)(a0_3:ByteArray)(l0_4:List (S96))(l1:List ByteArray):Option (Bool):=(impl_AddressOk.f k a0_0).bind fun t631=>(if t631=true then((impl_TreeOk.f k l0_4).bind fun t632=>(if t632=true then((impl_TreeSum.f k l0_4).bind fun t633=>(if a0_1.toList=t633.toList then((impl_RefsIn.f k l0_4 l1).bind fun t634=>((impl_sameTexts.f k l0_2 t634).bind fun t637=>(if t637=true then(if a0_3.toList=([]:List UInt8) then(some true) else((impl_AddressOk.f k a0_3).bind fun t638=>(some t638))) else(some false)))) else(some false))) else(some false))) else(some false))
def impl_itemOk.T1:Bool×List (List Nat×List Nat):=(true,[([],[]),([0],[0]),([1],[1]),([2,2],[2]),([3],[3]),([4,3],[3,4]),([5,3,3],[3,5]),([3,6],[3,6]),([7,6],[7]),([8],[8]),([9,8],[8,9]),([8],[8]),([11,8],[8,11]),([12,8,8],[8,12]),([10,13,8],[8,10,13]),([8,14],[8,14]),([15,13],[15]),([16],[16]),([17,16],[16,17]),([16],[16]),([19,16],[16,19]),([16],[16]),([20,21,16,16],[16,20,21]),([18,22,22,16],[16,18,22]),([16,23],[16,23]),([24,23],[24]),([25],[25]),([26,25],[25,26]),([27,25],[25,27]),([28,25,25],[25,28]),([29],[29]),([30,29],[29,30]),([31,29,29],[29,31]),([29,32,25],[25,29,32]),([25,33],[25,33]),([34,32,0,1,2,3,4,5,6,7,8,9,10,11,12,13,14,15,16,17,18,19,20,21,22,23,24,25,26,27,28,29,30,31,32,33,34],[34])])
def impl_itemOk.B1:List Nat:=[0,1,3,7,15,31,63,127,255,511,1023,511,2559,6655,16383,32767,65535,131071,262143,131071,655359,131071,3801087,8388607,16777215,33554431,67108863,134217727,268435455,536870911,1073741823,2147483647,4294967295,8589934591,17179869183,34359738367]
theorem impl_itemOk.tab1:rtab .any (opsOf Tryz.f91 1)=impl_itemOk.T1:=by kernel_rfl
theorem impl_itemOk.bits1:waitsOk impl_itemOk.T1.2 impl_itemOk.B1=true:=by kernel_rfl
theorem impl_itemOk.calls(k:Nat)(a0_0:ByteArray)(a0_1:ByteArray)(A0_2:Option Addr)(c0_2:Nat)(l0_2:List ByteArray)(a0_3:ByteArray)(A0_4:Option Addr)(c0_4:Nat)(l0_4:List (S96))(A1:Option Addr)(c1:Nat)(l1:List ByteArray)(r:Bool)(w:World)(hr0_2:Kd.C Kd.string w A0_2 l0_2.length l0_2)(hc0_2:l0_2.length≤c0_2)(hr0_4:Kd.C k96 w A0_4 l0_4.length l0_4)(hc0_4:l0_4.length≤c0_4)(hr1:Kd.C Kd.string w A1 l1.length l1)(hc1:l1.length≤c1)(hG_:GOK w)(h:impl_itemOk.f k a0_0 a0_1 l0_2 a0_3 l0_4 l1=some r):
 Calls Tryz.prog 91 #[.agg #[.string a0_0,.string a0_1,.slice A0_2 l0_2.length c0_2,.string a0_3,.slice A0_4 l0_4.length c0_4],.slice A1 l1.length c1] w fun e w'=>e= .returned (.bool r)∧Below w.heap.size w w':=by
 have hu94:=Tryz.underlying94
 have HG:=zz hG_
 clear hG_
 have HR0_2:=zz hr0_2
 have HC0_2:=zz hc0_2
 clear hr0_2 hc0_2
 have HR0_4:=zz hr0_4
 have HC0_4:=zz hc0_4
 clear hr0_4 hc0_4
 have HR1:=zz hr1
 have HC1:=zz hc1
 clear hr1 hc1
 have HB:=zz (Below.refl w.heap.size w)
 unfold impl_itemOk.f at h
 have H:=h
 clear h
 replace H:=zf H
 obtain⟨t631,A30,H⟩:=H
 try dsimp only at H
 have A3:=zz A30
 clear A30
 go_enter Tryz.func91,Tryz.ntmps91
 try go_wp2_with(first|(refine zX 2 94 #[.string a0_0,.string a0_1,.slice A0_2 l0_2.length c0_2,.string a0_3,.slice A0_4 l0_4.length c0_4] ?_;intro gb630 hg w13 hbox hb;have BK630:=zz (hbox);have GW630:=zz ((zg:w.heap.size≤gb630));have GE630:=zz ((zg:w.heap.size≤gb630));replace HB:=zz (zv zb hb);clear hb hbox hg))
 replace BK630:=zz (qK BK630.out)
 replace HB:=zz (qQ HB.out)
 refine start_ (n:=36) (S:=fun w'=>w'.cell? ⟨gb630,0,none⟩=some (.string a0_0)∧w'.cell? ⟨gb630,1,none⟩=some (.string a0_1)∧w'.cell? ⟨gb630,2,none⟩=some (.slice A0_2 l0_2.length c0_2)∧w'.cell? ⟨gb630,3,none⟩=some (.string a0_3)∧w'.cell? ⟨gb630,4,none⟩=some (.slice A0_4 l0_4.length c0_4)) (ds:=[]) (bp 0 36) zk rfl rfl (zy5 BK630.out) (fun hHeld=>?_);refine with_tabW impl_itemOk.tab1 impl_itemOk.bits1 (fun HT_ HW_=>?_)
 generalize w13.drew=w14 at BK630 HB hHeld⊢
 refine zp 0 5 (bp 1 35) ?_
 refine zt 1 6 (bp 2 34) ?_
 refine zo 2 7 (bp 3 33) fun K hK=>?_
 refine zh Tryz.func46 #[.string a0_0] ?_
 with_reducible refine(impl_AddressOk.calls k a0_0 _ _ A3.out).mono ?_
 rintro e w' ⟨rfl,⟨nd,rfl⟩⟩
 refine⟨_,rfl,?_⟩
 refine hK.out _ _ (zy5 BK630.out) (fun hHeld=>?_)
 clear hK K
 refine zn 7 ?_
 by_cases c4:t631=true
 case neg=>
  replace c4:=Bool.eq_false_iff.mpr c4
  subst c4
  rw[if_neg (show¬(false=true) by decide)] at H
  obtain rfl:=zi H
  refine zp 3 8 (bp 4 32) ?_
  refine zu 4 9 (bp 5 31) ?_
  refine zu 5 10 (bp 6 30) ?_
  refine zu 6 11 (bp 7 29) ?_
  refine zp 7 12 (bp 8 28) ?_
  refine zp 8 13 (bp 9 27) ?_
  refine zu 9 14 (bp 10 26) ?_
  refine zu 10 15 (bp 11 25) ?_
  refine zu 11 16 (bp 12 24) ?_
  refine zu 12 17 (bp 13 23) ?_
  refine zu 13 18 (bp 14 22) ?_
  refine zu 14 19 (bp 15 21) ?_
  refine zp 15 20 (bp 16 20) ?_
  refine zp 16 21 (bp 17 19) ?_
  refine zu 17 22 (bp 18 18) ?_
  refine zu 18 23 (bp 19 17) ?_
  refine zu 19 24 (bp 20 16) ?_
  refine zu 20 25 (bp 21 15) ?_
  refine zu 21 26 (bp 22 14) ?_
  refine zu 22 27 (bp 23 13) ?_
  refine zu 23 28 (bp 24 12) ?_
  refine zp 24 29 (bp 25 11) ?_
  refine zp 25 30 (bp 26 10) ?_
  refine zu 26 31 (bp 27 9) ?_
  refine zu 27 32 (bp 28 8) ?_
  refine zu 28 33 (bp 29 7) ?_
  refine zu 29 34 (bp 30 6) ?_
  refine zu 30 35 (bp 31 5) ?_
  refine zu 31 36 (bp 32 4) ?_
  refine zu 32 37 (bp 33 3) ?_
  refine zu 33 38 (bp 34 2) ?_
  refine zp 34 39 (bp 35 1) ?_
  refine zp 35 4 (bp 36 0) ?_
  refine done_ (done_of HT_.out zk) ?_
  try go_wp2
  go_ret
  exact⟨ze,zb⟩
 subst c4
 rw[if_pos rfl] at H
 replace H:=zf H
 obtain⟨t632,A50,H⟩:=H
 try dsimp only at H
 have A5:=zz A50
 clear A50
 refine zp 3 8 (bp 4 32) ?_
 refine zp 4 9 (bp 5 31) ?_
 refine zt 5 10 (bp 6 30) ?_
 refine zo 6 11 (bp 7 29) fun K hK=>?_
 refine zh Tryz.func66 #[.slice A0_4 l0_4.length c0_4] ?_
 with_reducible refine(impl_TreeOk.calls k _ _ l0_4 _ _ ?s1 ?s2 ?s3 A5.out).mono ?_
 (case s1=>exact zC HR0_4.out)
 (case s2=>exact HC0_4.out)
 (case s3=>exact zG)
 rintro e w15 ⟨rfl,hb⟩
 refine⟨_,rfl,?_⟩
 replace BK630:=zz (zJ BK630 hb)
 replace HB:=zz (zv zb hb)
 (try clear hb)
 (try clear hb2)
 (try clear hk)
 (try clear hi)
 refine hK.out _ _ (zy5 BK630.out) (fun hHeld=>?_)
 clear hK K
 refine zn 11 ?_
 by_cases c6:t632=true
 case neg=>
  replace c6:=Bool.eq_false_iff.mpr c6
  subst c6
  rw[if_neg (show¬(false=true) by decide)] at H
  obtain rfl:=zi H
  refine zp 7 12 (bp 8 28) ?_
  refine zp 8 13 (bp 9 27) ?_
  refine zu 9 14 (bp 10 26) ?_
  refine zu 10 15 (bp 11 25) ?_
  refine zu 11 16 (bp 12 24) ?_
  refine zu 12 17 (bp 13 23) ?_
  refine zu 13 18 (bp 14 22) ?_
  refine zu 14 19 (bp 15 21) ?_
  refine zp 15 20 (bp 16 20) ?_
  refine zp 16 21 (bp 17 19) ?_
  refine zu 17 22 (bp 18 18) ?_
  refine zu 18 23 (bp 19 17) ?_
  refine zu 19 24 (bp 20 16) ?_
  refine zu 20 25 (bp 21 15) ?_
  refine zu 21 26 (bp 22 14) ?_
  refine zu 22 27 (bp 23 13) ?_
  refine zu 23 28 (bp 24 12) ?_
  refine zp 24 29 (bp 25 11) ?_
  refine zp 25 30 (bp 26 10) ?_
  refine zu 26 31 (bp 27 9) ?_
  refine zu 27 32 (bp 28 8) ?_
  refine zu 28 33 (bp 29 7) ?_
  refine zu 29 34 (bp 30 6) ?_
  refine zu 30 35 (bp 31 5) ?_
  refine zu 31 36 (bp 32 4) ?_
  refine zu 32 37 (bp 33 3) ?_
  refine zu 33 38 (bp 34 2) ?_
  refine zp 34 39 (bp 35 1) ?_
  refine zp 35 4 (bp 36 0) ?_
  refine done_ (done_of HT_.out zk) ?_
  try go_wp2
  go_ret
  exact⟨ze,zb⟩
 subst c6
 rw[if_pos rfl] at H
 replace H:=zf H
 obtain⟨t633,A70,H⟩:=H
 try dsimp only at H
 have A7:=zz A70
 clear A70
 refine zp 7 12 (bp 8 28) ?_
 refine zp 8 13 (bp 9 27) ?_
 refine zp 9 14 (bp 10 26) ?_
 refine zp 11 16 (bm 36 3071) ?_
 refine zt 10 15 (bp 12 24) ?_
 refine zt 12 17 (bp 13 23) ?_
 refine zo 13 18 (bp 14 22) fun K hK=>?_
 refine zh Tryz.func125 #[.slice A0_4 l0_4.length c0_4] ?_
 with_reducible refine(impl_TreeSum.calls k _ _ l0_4 t633 _ ?s1 ?s2 ?s3 A7.out).mono ?_
 (case s1=>exact zc HR0_4.out)
 (case s2=>exact HC0_4.out)
 (case s3=>exact zG)
 rintro e w16 ⟨rfl,hb⟩
 refine⟨_,rfl,?_⟩
 replace BK630:=zz (zJ BK630 hb)
 replace HB:=zz (zv zb hb)
 (try clear hb)
 (try clear hb2)
 (try clear hk)
 (try clear hi)
 refine hK.out _ _ (zy5 BK630.out) (fun hHeld=>?_)
 clear hK K
 refine zn 18 ?_
 by_cases c8:a0_1.toList=t633.toList
 case neg=>
  rw[if_neg c8] at H
  obtain⟨c8b0,c8b1⟩:=zw c8
  obtain rfl:=zi H
  refine zp 14 19 (bp 15 21) ?_
  refine zp 15 20 (bp 16 20) ?_
  refine zp 16 21 (bp 17 19) ?_
  refine zu 17 22 (bp 18 18) ?_
  refine zu 18 23 (bp 19 17) ?_
  refine zu 19 24 (bp 20 16) ?_
  refine zu 20 25 (bp 21 15) ?_
  refine zu 21 26 (bp 22 14) ?_
  refine zu 22 27 (bp 23 13) ?_
  refine zu 23 28 (bp 24 12) ?_
  refine zp 24 29 (bp 25 11) ?_
  refine zp 25 30 (bp 26 10) ?_
  refine zu 26 31 (bp 27 9) ?_
  refine zu 27 32 (bp 28 8) ?_
  refine zu 28 33 (bp 29 7) ?_
  refine zu 29 34 (bp 30 6) ?_
  refine zu 30 35 (bp 31 5) ?_
  refine zu 31 36 (bp 32 4) ?_
  refine zu 32 37 (bp 33 3) ?_
  refine zu 33 38 (bp 34 2) ?_
  refine zp 34 39 (bp 35 1) ?_
  refine zp 35 4 (bp 36 0) ?_
  refine done_ (done_of HT_.out zk) ?_
  try go_wp2
  go_ret
  exact⟨ze,zb⟩
 rw[if_pos c8] at H
 obtain⟨c8b0,c8b1⟩:=zq c8
 clear c8
 replace H:=zf H
 obtain⟨t634,A90,H⟩:=H
 try dsimp only at H
 have A9:=zz A90
 clear A90
 replace H:=zf H
 obtain⟨t637,A100,H⟩:=H
 try dsimp only at H
 have A10:=zz A100
 clear A100
 refine zp 14 19 (bp 15 21) ?_
 refine zp 15 20 (bp 16 20) ?_
 refine zp 16 21 (bp 17 19) ?_
 refine zp 17 22 (bp 18 18) ?_
 refine zp 19 24 (bm 36 786431) ?_
 refine zp 21 26 (bm 36 2883583) ?_
 refine zt 18 23 (bm 36 3145727) ?_
 refine zt 20 25 (bp 22 14) ?_
 refine zo 22 27 (bp 23 13) fun K hK=>?_
 refine zh Tryz.func127 #[.slice A0_4 l0_4.length c0_4,.slice A1 l1.length c1] ?_
 with_reducible refine(impl_RefsIn.calls k _ _ l0_4 _ _ l1 t634 _ ?s1 ?s2 ?s3 ?s4 ?s5 A9.out).mono ?_
 (case s1=>exact zc HR0_4.out)
 (case s2=>exact HC0_4.out)
 (case s3=>exact zc HR1.out)
 (case s4=>exact HC1.out)
 (case s5=>exact zG)
 rintro e w17 ⟨v635,rfl,ho0,hb⟩
 refine⟨_,rfl,?_⟩
 have HO636:=zz (Kd.vH ho0 (qG zb))
 replace BK630:=zz (zJ BK630 hb)
 replace HB:=zz (zv zb hb)
 (try clear hb)
 (try clear hb2)
 (try clear hk)
 (try clear hi)
 (try clear ho0)
 obtain⟨Ao18,co18,eo18⟩:=Kd.vG HO636.out
 (first|subst eo18|(injection eo18 with f1_ f2_ f3_;have f4_:=f1_.symm;have f5_:=f3_.symm;clear f1_ f2_ f3_;subst f4_;subst f5_))
 refine hK.out _ _ (zy5 BK630.out) (fun hHeld=>?_)
 clear hK K
 refine zn 27 ?_
 refine zo 23 28 (bp 24 12) fun K hK=>?_
 refine zh Tryz.func126 #[.slice A0_2 l0_2.length c0_2,.slice Ao18 t634.length co18] ?_
 with_reducible refine(impl_sameTexts.calls k _ _ l0_2 _ _ t634 _ _ ?s1 ?s2 ?s3 ?s4 A10.out).mono ?_
 (case s1=>exact zc HR0_2.out)
 (case s2=>exact HC0_2.out)
 (case s3=>repeat(first|exact(Kd.qS HO636.out).2.2|(with_reducible refine Kd.C_alloc ?_ _)|(with_reducible refine Kd.C_drewN ?_ _)|(with_reducible refine Kd.C_drew ?_)))
 (case s4=>exact(Kd.qS HO636.out).2.1)
 rintro e w' ⟨rfl,⟨nd,rfl⟩⟩
 refine⟨_,rfl,?_⟩
 refine hK.out _ _ (zy5 BK630.out) (fun hHeld=>?_)
 clear hK K
 refine zn 28 ?_
 by_cases c11:t637=true
 case neg=>
  replace c11:=Bool.eq_false_iff.mpr c11
  subst c11
  rw[if_neg (show¬(false=true) by decide)] at H
  obtain rfl:=zi H
  refine zp 24 29 (bp 25 11) ?_
  refine zp 25 30 (bp 26 10) ?_
  refine zu 26 31 (bp 27 9) ?_
  refine zu 27 32 (bp 28 8) ?_
  refine zu 28 33 (bp 29 7) ?_
  refine zu 29 34 (bp 30 6) ?_
  refine zu 30 35 (bp 31 5) ?_
  refine zu 31 36 (bp 32 4) ?_
  refine zu 32 37 (bp 33 3) ?_
  refine zu 33 38 (bp 34 2) ?_
  refine zp 34 39 (bp 35 1) ?_
  refine zp 35 4 (bp 36 0) ?_
  refine done_ (done_of HT_.out zk) ?_
  try go_wp2
  go_ret
  exact⟨ze,zb⟩
 subst c11
 rw[if_pos rfl] at H
 by_cases c12:a0_3.toList=([]:List UInt8)
 ·rw[if_pos c12] at H
  obtain⟨c12b0,c12b1⟩:=zq c12
  clear c12
  obtain rfl:=zi H
  refine zp 24 29 (bp 25 11) ?_
  refine zp 25 30 (bp 26 10) ?_
  refine zp 26 31 (bp 27 9) ?_
  refine zt 27 32 (bp 28 8) ?_
  refine zp 28 33 (bp 29 7) ?_
  refine zp 29 34 (bp 30 6) ?_
  refine zu 30 35 (bp 31 5) ?_
  refine zu 31 36 (bp 32 4) ?_
  refine zu 32 37 (bp 33 3) ?_
  refine zp 33 38 (bp 34 2) ?_
  refine zp 34 39 (bp 35 1) ?_
  refine zp 35 4 (bp 36 0) ?_
  refine done_ (done_of HT_.out zk) ?_
  try go_wp2
  go_ret
  exact⟨ze,zb⟩
 rw[if_neg c12] at H
 obtain⟨c12b0,c12b1⟩:=zw c12
 replace H:=zf H
 obtain⟨t638,A190,H⟩:=H
 try dsimp only at H
 have A19:=zz A190
 clear A190
 obtain rfl:=zi H
 refine zp 24 29 (bp 25 11) ?_
 refine zp 25 30 (bp 26 10) ?_
 refine zp 26 31 (bp 27 9) ?_
 refine zt 27 32 (bp 28 8) ?_
 refine zp 28 33 (bp 29 7) ?_
 refine zp 29 34 (bp 30 6) ?_
 refine zp 30 35 (bp 31 5) ?_
 refine zt 31 36 (bp 32 4) ?_
 refine zo 32 37 (bp 33 3) fun K hK=>?_
 refine zh Tryz.func46 #[.string a0_3] ?_
 with_reducible refine(impl_AddressOk.calls k a0_3 t638 _ A19.out).mono ?_
 rintro e w' ⟨rfl,⟨nd,rfl⟩⟩
 refine⟨_,rfl,?_⟩
 refine hK.out _ _ (zy5 BK630.out) (fun hHeld=>?_)
 clear hK K
 refine zn 37 ?_
 refine zp 33 38 (bp 34 2) ?_
 refine zp 34 39 (bp 35 1) ?_
 refine zp 35 4 (bp 36 0) ?_
 refine done_ (done_of HT_.out zk) ?_
 try go_wp2
 go_ret
 exact⟨ze,zb⟩
def impl_StoreOk.l0:Nat→List ByteArray→List (S94)→Int→Int→Option (Bool)
 |0,_,_,_,_=>none
 |k+1,x3,x14,x15,x16=>if x16<x15 then(if 0≤x16 then(if x16<(x14.length:Int) then((impl_itemOk.f k ((qL x14 x16).f0) ((qL x14 x16).f1) ((qL x14 x16).f2) ((qL x14 x16).f3) ((qL x14 x16).f4) x3).bind fun t645=>(if t645=true then(impl_StoreOk.l0 k x3 x14 x15 (wrap64 (x16+1))) else(some false))) else(none)) else(none)) else(some true)
def impl_StoreOk.f(k:Nat)(l0:List (S94)):Option (Bool):=if(l0.length:Int)>300 then(some false) else((impl_storePaths.f k l0).bind fun t639=>((impl_rising_hs.f k t639).bind fun t642=>(if t642=true then(impl_StoreOk.l0 k t639 l0 (l0.length:Int) 0) else(some false))))
theorem impl_StoreOk.calls(k:Nat)(A0:Option Addr)(c0:Nat)(l0:List (S94))(r:Bool)(w:World)(hr0:Kd.C k94 w A0 l0.length l0)(hc0:l0.length≤c0)(hG_:GOK w)(h:impl_StoreOk.f k l0=some r):
 Calls Tryz.prog 42 #[.slice A0 l0.length c0] w fun e w'=>e= .returned (.bool r)∧Below w.heap.size w w':=by
 have hu94:=Tryz.underlying94
 have HG:=zz hG_
 clear hG_
 have HR0:=zz hr0
 have HC0:=zz hc0
 clear hr0 hc0
 have HB:=zz (Below.refl w.heap.size w)
 unfold impl_StoreOk.f at h
 have H:=h
 clear h
 replace HB:=HB.out
 have HW:=zz (Below.refl w.heap.size w)
 go_enter Tryz.func42,Tryz.ntmps42
 by_cases c2:(l0.length:Int)>300
 ·rw[if_pos c2] at H
  have c2b0:=zgt c2
  have c2b1:decide (300<l0.length)=true:=z1 (by omega)
  clear c2
  obtain rfl:=zi H
  go_wp2_with(fail)
  go_ret
  exact⟨ze,zv HW.out HB⟩
 rw[if_neg c2] at H
 have c2b0:=zgtn c2
 have c2b1:decide (300<l0.length)=false:=z0 (by omega)
 clear c2
 replace H:=zf H
 obtain⟨t639,A3,H⟩:=H
 try dsimp only at H
 replace A3:=zz A3
 go_wp2_with(fail)
 refine(impl_storePaths.calls k _ _ _ _ _ (Kd.qC HR0.out HB) HC0.out A3.out).mono ?_
 rintro e w4 ⟨vHO641,rfl,hHO641,hb⟩
 replace HB:=zv HB hb
 clear hb
 have hst:=HB
 replace HW:=zz (zv HW.out hst)
 replace HR0:=zz (Kd.qC HR0.out hst)
 clear hst
 replace HB:=Below.refl w4.heap.size w4
 obtain⟨AHRo5,cHRo5,rfl,hl_,hC_⟩:=Kd.R_reads hHO641
 have HRo5:=zz hC_
 have HCo5:=zz hl_
 clear hl_ hC_ hHO641
 replace H:=zf H
 obtain⟨t642,A6,H⟩:=H
 try dsimp only at H
 replace A6:=zz A6
 by_cases c7:t642=true
 case neg=>
  replace c7:=Bool.eq_false_iff.mpr c7
  subst c7
  rw[if_neg (by decide)] at H
  go_wp2_with(fail)
  refine(impl_rising_hs.calls k _ _ _ _ _ (Kd.qC HRo5.out HB) HCo5.out A6.out).mono ?_
  rintro e w23 ⟨rfl,hd⟩
  replace HB:=zv HB hd.below
  clear hd
  obtain rfl:=zi H
  go_wp2_with(fail)
  go_ret
  exact⟨ze,zv HW.out HB⟩
 subst c7
 rw[if_pos rfl] at H
 go_wp2_with(fail)
 refine(impl_rising_hs.calls k _ _ _ _ _ (Kd.qC HRo5.out HB) HCo5.out A6.out).mono ?_
 rintro e w8 ⟨rfl,hd⟩
 replace HB:=zv HB hd.below
 clear hd
 go_wp2_with(fail)
 go_loopg[16] k (fun kq v16 w'=>∃(x16_kl9:Int),v16= .int .i64 x16_kl9∧qB (impl_StoreOk.l0 kq t639 l0 (l0.length:Int) x16_kl9=some r)∧qB (kq≤k)∧qB (Below w4.heap.size w4 w'))
 case atStart=>exact⟨(0),zr,⟨H⟩,⟨Nat.le_refl _⟩,⟨HB⟩⟩
 case round=>
  clear H HB
  obtain⟨x16_kl9,rfl,H,HKkl9,HB⟩:=hrel
  replace HB:=HB.out
  replace H:=H.out
  have HLkl9:=zz (Below.refl w4.heap.size w4)
  cases gk with
  |zero=>exact absurd H (by simp[impl_StoreOk.l0])
  |succ kl9=>
   simp only[impl_StoreOk.l0] at H
   by_cases c10:x16_kl9<(l0.length:Int)
   case neg=>
    rw[if_neg c10] at H
    have c10b0:=z0 c10
    clear c10
    obtain rfl:=zi H
    go_wp2_with(fail)
    go_ret
    exact⟨ze,zv HW.out HB⟩
   rw[if_pos c10] at H
   have c10b0:=z1 c10
   clear c10
   by_cases c11:0≤x16_kl9
   case neg=>exact zno H c11
   rw[if_pos c11] at H
   have c11b0:=z1 c11
   clear c11
   by_cases c12:x16_kl9<(l0.length:Int)
   case neg=>exact zno H c12
   rw[if_pos c12] at H
   have c12b0:=z1 c12
   clear c12
   have p643:0≤(x16_kl9:Int):=z2
   have q643:(x16_kl9:Int)<(l0.length:Int):=z2
   obtain⟨ad643,A643_2,c643_2,A643_4,c643_4,e643,hx643_0,hx643_1,hx643_2,hx643_3,hx643_4,hl643_2,hC643_2,hl643_4,hC643_4⟩:=at_T94 HR0.out x16_kl9 p643 q643
   cases e643
   replace hx643_0:=qR hx643_0
   replace hx643_1:=qR hx643_1
   replace hx643_2:=qR hx643_2
   replace hx643_3:=qR hx643_3
   replace hx643_4:=qR hx643_4
   have HR643_2:=zz hC643_2
   have HC643_2:=zz hl643_2
   clear hC643_2 hl643_2
   have HR643_4:=zz hC643_4
   have HC643_4:=zz hl643_4
   clear hC643_4 hl643_4
   replace p643:=eq_true p643
   replace q643:=eq_true q643
   replace H:=zf H
   obtain⟨t645,A13,H⟩:=H
   try dsimp only at H
   replace A13:=zz A13
   go_wp2_with(first|(refine zN 5 ?_;(try(refine z4 ?_;dsimp only));refine zX 5 94 #[.string (⟨#[]⟩:ByteArray),.string (⟨#[]⟩:ByteArray),.slice none 0 0,.string (⟨#[]⟩:ByteArray),.slice none 0 0] ?_;intro gb644 hg w16 hbox hb;have hge:w4.heap.size≤gb644:=(by rw[hg];exact qG HB);clear hg;have hst:Below w4.heap.size w4 (((((w16.setCell ⟨gb644,0,none⟩ (.string ((qL l0 x16_kl9).f0))).setCell ⟨gb644,1,none⟩ (.string ((qL l0 x16_kl9).f1))).setCell ⟨gb644,2,none⟩ (.slice A643_2 ((qL l0 x16_kl9).f2).length c643_2)).setCell ⟨gb644,3,none⟩ (.string ((qL l0 x16_kl9).f3))).setCell ⟨gb644,4,none⟩ (.slice A643_4 ((qL l0 x16_kl9).f4).length c643_4)):=(qM (qM (qM (qM (qM (zv HB hb) hge) hge) hge) hge) hge);have hbx:(((((w16.setCell ⟨gb644,0,none⟩ (.string ((qL l0 x16_kl9).f0))).setCell ⟨gb644,1,none⟩ (.string ((qL l0 x16_kl9).f1))).setCell ⟨gb644,2,none⟩ (.slice A643_2 ((qL l0 x16_kl9).f2).length c643_2)).setCell ⟨gb644,3,none⟩ (.string ((qL l0 x16_kl9).f3))).setCell ⟨gb644,4,none⟩ (.slice A643_4 ((qL l0 x16_kl9).f4).length c643_4)).heap[gb644]?=some (.cells #[.string ((qL l0 x16_kl9).f0),.string ((qL l0 x16_kl9).f1),.slice A643_2 ((qL l0 x16_kl9).f2).length c643_2,.string ((qL l0 x16_kl9).f3),.slice A643_4 ((qL l0 x16_kl9).f4).length c643_4] 94 (0,0)):=(qP (cs:= #[.string ((qL l0 x16_kl9).f0),.string ((qL l0 x16_kl9).f1),.slice A643_2 ((qL l0 x16_kl9).f2).length c643_2,.string ((qL l0 x16_kl9).f3),.slice none 0 0]) (qP (cs:= #[.string ((qL l0 x16_kl9).f0),.string ((qL l0 x16_kl9).f1),.slice A643_2 ((qL l0 x16_kl9).f2).length c643_2,.string (⟨#[]⟩:ByteArray),.slice none 0 0]) (qP (cs:= #[.string ((qL l0 x16_kl9).f0),.string ((qL l0 x16_kl9).f1),.slice none 0 0,.string (⟨#[]⟩:ByteArray),.slice none 0 0]) (qP (cs:= #[.string ((qL l0 x16_kl9).f0),.string (⟨#[]⟩:ByteArray),.slice none 0 0,.string (⟨#[]⟩:ByteArray),.slice none 0 0]) (qP (cs:= #[.string (⟨#[]⟩:ByteArray),.string (⟨#[]⟩:ByteArray),.slice none 0 0,.string (⟨#[]⟩:ByteArray),.slice none 0 0]) hbox 0 _ rfl) 1 _ rfl) 2 _ rfl) 3 _ rfl) 4 _ rfl);obtain⟨hs644_0,hs644_1,hs644_2,hs644_3,hs644_4,hf644_0,hf644_1,hf644_2,hf644_3,hf644_4⟩:=zc5 hbox)|((with_reducible refine qY (t:=94) (p:=5) rfl ?_);(try(refine z4 ?_;dsimp only));refine qV (t:=94) (p:=5) (v:=?vo_w17) (w1:=(((((w16.setCell ⟨gb644,0,none⟩ (.string ((qL l0 x16_kl9).f0))).setCell ⟨gb644,1,none⟩ (.string ((qL l0 x16_kl9).f1))).setCell ⟨gb644,2,none⟩ (.slice A643_2 ((qL l0 x16_kl9).f2).length c643_2)).setCell ⟨gb644,3,none⟩ (.string ((qL l0 x16_kl9).f3))).setCell ⟨gb644,4,none⟩ (.slice A643_4 ((qL l0 x16_kl9).f4).length c643_4))) ?hg ?ho ?hn ?hr ?_;(case ho=>rfl);(case hg=>rfl);(case hn=>rfl);(case hr=>first|(go_simp;done)|(go_simp;rfl));intro w17 hw;replace hst:=hst;rw[←hw] at hst hbx;clear hw hb hbox hge HB hs644_0 hf644_0 hs644_1 hf644_1 hs644_2 hf644_2 hs644_3 hf644_3 hs644_4 hf644_4;replace HW:=zz (zv HW.out hst);replace HLkl9:=zz (zv HLkl9.out hst);replace HR0:=zz (Kd.qC HR0.out hst);replace HRo5:=zz (Kd.qC HRo5.out hst);replace HR643_2:=zz (Kd.qC HR643_2.out hst);replace HR643_4:=zz (Kd.qC HR643_4.out hst);replace hx643_0:=qH hx643_0 hst;replace hx643_1:=qH hx643_1 hst;replace hx643_2:=qH hx643_2 hst;replace hx643_3:=qH hx643_3 hst;replace hx643_4:=qH hx643_4 hst;obtain⟨hbx644_0,hbx644_1,hbx644_2,hbx644_3,hbx644_4⟩:=zx5 hbx;have HB:=Below.refl w17.heap.size w17;clear hbx hst))
   refine(impl_itemOk.calls kl9 _ _ _ _ _ _ _ _ _ _ _ _ _ _ (Kd.qC HR643_2.out HB) HC643_2.out (Kd.qC HR643_4.out HB) HC643_4.out (Kd.qC HRo5.out HB) HCo5.out (GOK.below HG.out (zv HW.out HB)) A13.out).mono ?_
   rintro e w18 ⟨rfl,hb⟩
   replace HB:=zv HB hb
   clear hb
   by_cases c14:t645=true
   ·subst c14
    rw[if_pos rfl] at H
    go_wp2_with(fail)
    go_roundg kl9
    case measure=>have:=HKkl9.out;omega
    case rel=>exact⟨(wrap64 (x16_kl9+1)),zr,⟨H⟩,⟨by have:=HKkl9.out;omega⟩,⟨zv HLkl9.out HB⟩⟩
   replace c14:=Bool.eq_false_iff.mpr c14
   subst c14
   rw[if_neg (by decide)] at H
   obtain rfl:=zi H
   go_wp2_with(fail)
   go_ret
   exact⟨ze,zv HW.out HB⟩
def spec_l12Paths.l0:Nat→List (S94)→List ByteArray→Int→Option (List ByteArray)
 |0,_,_,_=>none
 |k+1,x0,x3,x4=>if x4<(x0.length:Int) then(if 0≤x4 then(if x3.length<8796093022208 then(spec_l12Paths.l0 k x0 (x3++[(qL x0 x4).f0]) (wrap64 (x4+1))) else(none)) else(none)) else(some x3)
def spec_l12Paths.f(k:Nat)(l0:List (S94)):Option (List ByteArray):=spec_l12Paths.l0 k l0 (([]:List ByteArray)) 0
theorem spec_l12Paths.calls(k:Nat)(A0:Option Addr)(c0:Nat)(l0:List (S94))(r:List ByteArray)(w:World)(hr0:Kd.C k94 w A0 l0.length l0)(hc0:l0.length≤c0)(h:spec_l12Paths.f k l0=some r):
 Calls Tryz.prog 78 #[.slice A0 l0.length c0] w fun e w'=>∃v0_:Value,e= .returned (v0_)∧Kd.R Kd.string 9 w' w.heap.size (fun _=>True) v0_ r∧Below w.heap.size w w':=by
 have HR0:=zz hr0
 have HC0:=zz hc0
 clear hr0 hc0
 have HB:=zz (Below.refl w.heap.size w)
 unfold spec_l12Paths.f at h
 have H:=h
 clear h
 obtain⟨y278,hy278⟩:∃y_:List ByteArray,y_=(([]:List ByteArray)):=⟨_,rfl⟩
 replace H:(spec_l12Paths.l0 k l0 y278 0)=some r:=by first|(rw[hy278];with_reducible exact H)|(have H2_:=(Option.bind_some _ _).symm.trans H;rw[hy278];with_reducible exact H2_)|(have H2_:=(Option.bind_some _ _).symm.trans H;with_reducible exact H2_)|with_reducible exact H|(rw[hy278];exact H)|exact H
 have Ny278:=zz hy278
 clear hy278
 have H':=zz H
 clear H
 go_enter Tryz.func78,Tryz.ntmps78
 go_wp2_with(first|(refine zN 5 ?_;refine Kd.R_lit Kd.string _ 9 ?hg (N:=5) ?hd (xs:=([]:List ByteArray)) (inner:=[]) (ok:=fun _=>True) (okp:=fun _=>True) ?hr ?hp (fun _ hk=>hk) trivial (Below.refl _ _) (Nat.le_refl _) (by simp) ?_;(case hd=>rfl);(case hg=>rfl);(case hr=>first|(go_simp;done)|(go_simp;rfl));(case hp=>exact(Reps.none _ _));intro v279 w2 ho3 hb hg_ hnew_;clear hg_ hnew_;(first|rw[←Ny278.out] at ho3|(simp only[Int.reduceToNat] at ho3;rw[←Ny278.out] at ho3));have HO280:=zz (Kd.vH ho3 (qG zb));replace HB:=zz (zv zb hb);clear hb ho3))
 go_loopg[3,4] k (fun kq v3 v4 w'=>∃(x3_1:List ByteArray) (x4_1:Int),v4= .int .i64 x4_1∧qB (spec_l12Paths.l0 kq l0 x3_1 x4_1=some r)∧qB (kq≤k)∧qB (Kd.R Kd.string 9 w' w.heap.size (fun _=>True) v3 x3_1)∧qB (Below w.heap.size w w'))
 case atStart=>exact⟨(y278),(0),zr,H',⟨Nat.le_refl _⟩,⟨by(with_reducible repeat(first|apply Kd.qU|apply Kd.qT|apply Kd.qX));exact HO280.out⟩,⟨zb⟩⟩
 case round=>
  clear H'
  try clear p2
  obtain⟨x3_1,x4_1,rfl,HA,HK1,HO_3,HB⟩:=hrel
  cases gk with
  |zero=>exact absurd HA.out (by simp[spec_l12Paths.l0])
  |succ k1=>
   have H:=HA.out
   clear HA
   simp only[spec_l12Paths.l0] at H
   by_cases c4:x4_1<(l0.length:Int)
   case neg=>
    rw[if_neg c4] at H
    have c4b0:=z0 c4
    clear c4
    obtain rfl:=zi H
    go_wp2
    go_ret
    exact⟨_,ze,by(with_reducible repeat(first|apply Kd.qU|apply Kd.qT|apply Kd.qX));exact HO_3.out,zb⟩
   rw[if_pos c4] at H
   have c4b0:=z1 c4
   clear c4
   by_cases c5:0≤x4_1
   case neg=>exact zno H c5
   rw[if_pos c5] at H
   have c5b0:=z1 c5
   clear c5
   by_cases c6:x3_1.length<8796093022208
   case neg=>exact zno H c6
   rw[if_pos c6] at H
   have LMc6:=zz c6
   clear c6
   obtain⟨y282,hy282⟩:∃y_:List ByteArray,y_=(x3_1++[(qL l0 x4_1).f0]):=⟨_,rfl⟩
   replace H:(spec_l12Paths.l0 k1 l0 y282 (wrap64 (x4_1+1)))=some r:=by first|(rw[hy282];with_reducible exact H)|(have H2_:=(Option.bind_some _ _).symm.trans H;rw[hy282];with_reducible exact H2_)|(have H2_:=(Option.bind_some _ _).symm.trans H;with_reducible exact H2_)|with_reducible exact H|(rw[hy282];exact H)|exact H
   have Ny282:=zz hy282
   clear hy282
   have H':=zz H
   clear H
   have p281:0≤(x4_1:Int):=z2
   have q281:x4_1<(l0.length:Int):=z2
   obtain⟨ad281,A281_2,c281_2,A281_4,c281_4,e281,hx281_0,hx281_1,hx281_2,hx281_3,hx281_4,hl281_2,hi281_2,hl281_4,hi281_4⟩:=at_T94 HR0.out x4_1 p281 q281
   cases e281
   replace hx281_0:=z3 HB.out hx281_0
   replace hx281_1:=z3 HB.out hx281_1
   replace hx281_2:=z3 HB.out hx281_2
   replace hx281_3:=z3 HB.out hx281_3
   replace hx281_4:=z3 HB.out hx281_4
   have HR281_2:=zz hi281_2
   have HC281_2:=zz hl281_2
   clear hi281_2 hl281_2
   have HR281_4:=zz hi281_4
   have HC281_4:=zz hl281_4
   clear hi281_4 hl281_4
   replace p281:=eq_true p281
   replace q281:=eq_true q281
   go_wp2_with(first|((with_reducible refine vJ (b:= .append) (xs:= #[.tmp 12,.tmp 18]) rfl ?_);at_builtin;refine Kd.R_append Kd.string (w0:=w) w.heap.size rfl (.tmp 12) (.tmp 18) 39 9 (.string ⟨#[]⟩) 16 rfl Tryz.underlying39 info9 rfl (by decide) (by omega) u3 x3_1 ((qL l0 x4_1).f0) [.string ((qL l0 x4_1).f0)] (fun _=>True) (fun _=>False) rfl rfl ?aP (fun _ hk=>hk.elim) ?aF ?aO ?aB ?aS ?aL ?_;(case aP=>exact rfl);(case aB=>exact zb);(case aF=>exact(fun _ _=>trivial));(case aO=>exact(zR HO_3.out));(case aS=>exact(qG zb));(case aL=>have:=LMc6.out;omega);intro v283 w7 ho hb hg hat;rw[←Ny282.out] at ho;replace HB:=zz (hb);have HO284:=zz (ho);clear HO_3;clear ho hb hg hat))
   go_roundg k1
   case measure=>have:=HK1.out;omega
   case rel=>exact⟨(y282),(wrap64 (x4_1+1)),zr,H',⟨by have:=HK1.out;omega⟩,⟨by(with_reducible repeat(first|apply Kd.qU|apply Kd.qT|apply Kd.qX));exact HO284.out⟩,⟨zb⟩⟩
def spec_l12SameTexts.l0:Nat→List ByteArray→List ByteArray→Int→Option (Bool)
 |0,_,_,_=>none
 |k+1,x0,x1,x5=>if x5<(x0.length:Int) then(if 0≤x5 then(if x5<(x1.length:Int) then(if(rdOf ByteArray.empty x0 x5).toList=(rdOf ByteArray.empty x1 x5).toList then(spec_l12SameTexts.l0 k x0 x1 (wrap64 (x5+1))) else(some false)) else(none)) else(none)) else(some true)
def spec_l12SameTexts.f(k:Nat)(l0:List ByteArray)(l1:List ByteArray):Option (Bool):=if(l0.length:Int)=(l1.length:Int) then(spec_l12SameTexts.l0 k l0 l1 0) else(some false)
theorem spec_l12SameTexts.calls(k:Nat)(A0:Option Addr)(c0:Nat)(l0:List ByteArray)(A1:Option Addr)(c1:Nat)(l1:List ByteArray)(r:Bool)(w:World)(hr0:Kd.C Kd.string w A0 l0.length l0)(hc0:l0.length≤c0)(hr1:Kd.C Kd.string w A1 l1.length l1)(hc1:l1.length≤c1)(h:spec_l12SameTexts.f k l0 l1=some r):
 Calls Tryz.prog 117 #[.slice A0 l0.length c0,.slice A1 l1.length c1] w fun e w'=>e= .returned (.bool r)∧qE w w':=by
 have HR0:=zz hr0
 have HC0:=zz hc0
 clear hr0 hc0
 have HR1:=zz hr1
 have HC1:=zz hc1
 clear hr1 hc1
 unfold spec_l12SameTexts.f at h
 have H:=h
 clear h
 by_cases c3:(l0.length:Int)=(l1.length:Int)
 case neg=>
  rw[if_neg c3] at H
  obtain⟨c3b0,c3b1⟩:=zw c3
  have c3b2:(l0.length==l1.length)=false:=by first|simpa using c3|(simp at c3⊢;omega)
  obtain rfl:=zi H
  go_enter Tryz.func117,Tryz.ntmps117
  go_wp2
  repeat(go_quiet (fail);try go_wp2)
  go_ret
  exact⟨zr,by repeat(first|exact qE.refl _|apply qE.step)⟩
 rw[if_pos c3] at H
 obtain⟨c3b0,c3b1⟩:=zq c3
 have c3b2:(l0.length==l1.length)=true:=by first|simpa using c3|(simp at c3⊢;omega)
 clear c3
 have H':=zz H
 clear H
 go_enter Tryz.func117,Tryz.ntmps117
 go_wp2
 repeat(go_quiet (fail);try go_wp2)
 go_loopg[5] k (fun kq v5 w'=>∃(x5_1:Int),v5= .int .i64 x5_1∧qB (spec_l12SameTexts.l0 kq l0 l1 x5_1=some r)∧qB (kq≤k)∧qE w w')
 case atStart=>exact⟨(0),zr,H',⟨Nat.le_refl _⟩,by repeat(first|exact qE.refl _|apply qE.step)⟩
 case round=>
  clear H'
  try clear c1
  try clear p2
  try clear c3
  try clear c3b0
  try clear c3b1
  try clear c3b2
  obtain⟨x5_1,rfl,HA,HK1,⟨m1,rfl⟩⟩:=hrel
  cases gk with
  |zero=>exact absurd HA.out (by simp[spec_l12SameTexts.l0])
  |succ k1=>
   have H:=HA.out
   clear HA
   simp only[spec_l12SameTexts.l0] at H
   by_cases c4:x5_1<(l0.length:Int)
   case neg=>
    rw[if_neg c4] at H
    have c4b0:=z0 c4
    clear c4
    obtain rfl:=zi H
    go_wp2
    repeat(go_quiet (fail);try go_wp2)
    go_ret
    exact⟨zr,by repeat(first|exact qE.refl _|apply qE.step)⟩
   rw[if_pos c4] at H
   have c4b0:=z1 c4
   clear c4
   by_cases c5:0≤x5_1
   case neg=>exact zno H c5
   rw[if_pos c5] at H
   have c5b0:=z1 c5
   clear c5
   by_cases c6:x5_1<(l1.length:Int)
   case neg=>exact zno H c6
   rw[if_pos c6] at H
   have c6b0:=z1 c6
   clear c6
   by_cases c7:(rdOf ByteArray.empty l0 x5_1).toList=(rdOf ByteArray.empty l1 x5_1).toList
   case neg=>
    rw[if_neg c7] at H
    obtain⟨c7b0,c7b1⟩:=zw c7
    obtain rfl:=zi H
    have p371:0≤(x5_1:Int):=z2
    have q371:x5_1<(l0.length:Int):=z2
    obtain⟨ad371,e371,hx371_0⟩:=Kd.vC HR0.out x5_1 p371 q371
    cases e371
    replace p371:=eq_true p371
    replace q371:=eq_true q371
    have p372:0≤(x5_1:Int):=z2
    have q372:x5_1<(l1.length:Int):=z2
    obtain⟨ad372,e372,hx372_0⟩:=Kd.vC HR1.out x5_1 p372 q372
    cases e372
    replace p372:=eq_true p372
    replace q372:=eq_true q372
    go_wp2
    repeat(go_quiet (fail);try go_wp2)
    go_ret
    exact⟨zr,by repeat(first|exact qE.refl _|apply qE.step)⟩
   rw[if_pos c7] at H
   obtain⟨c7b0,c7b1⟩:=zq c7
   clear c7
   have H':=zz H
   clear H
   have p371:0≤(x5_1:Int):=z2
   have q371:x5_1<(l0.length:Int):=z2
   obtain⟨ad371,e371,hx371_0⟩:=Kd.vC HR0.out x5_1 p371 q371
   cases e371
   replace p371:=eq_true p371
   replace q371:=eq_true q371
   have p372:0≤(x5_1:Int):=z2
   have q372:x5_1<(l1.length:Int):=z2
   obtain⟨ad372,e372,hx372_0⟩:=Kd.vC HR1.out x5_1 p372 q372
   cases e372
   replace p372:=eq_true p372
   replace q372:=eq_true q372
   go_wp2
   repeat(go_quiet (fail);try go_wp2)
   go_roundg k1
   case measure=>have:=HK1.out;omega
   case rel=>exact⟨(wrap64 (x5_1+1)),zr,H',⟨by have:=HK1.out;omega⟩,by repeat(first|exact qE.refl _|apply qE.step)⟩
def spec_l12ItemOk.f(k:Nat)(a0_0:ByteArray)(a0_1:ByteArray)(l0_2:List ByteArray)(a0_3:ByteArray)(l0_4:List (S96))(l1:List ByteArray):Option (Bool):=(spec_AddressOk.f k a0_0).bind fun t428=>(if t428=true then((spec_TreeOk.f k l0_4).bind fun t429=>(if t429=true then((spec_TreeSum.f k l0_4).bind fun t430=>(if a0_1.toList=t430.toList then(if a0_3.toList=([]:List UInt8) then((spec_l10Refs.f k l0_4 l1).bind fun t431=>((spec_l12SameTexts.f k l0_2 t431).bind fun t434=>(some t434))) else((spec_AddressOk.f k a0_3).bind fun t435=>(if t435=true then((spec_l10Refs.f k l0_4 l1).bind fun t436=>((spec_l12SameTexts.f k l0_2 t436).bind fun t439=>(some t439))) else(some false)))) else(some false))) else(some false))) else(some false))
def spec_l12ItemOk.T1:Bool×List (List Nat×List Nat):=(true,[([],[]),([0],[0]),([1],[1]),([2,2],[2]),([3],[3]),([4,3],[3,4]),([5,3,3],[3,5]),([3,6],[3,6]),([7,6],[7]),([8],[8]),([9,8],[8,9]),([8],[8]),([11,8],[8,11]),([12,8,8],[8,12]),([10,13,8],[8,10,13]),([8,14],[8,14]),([15,13],[15]),([16],[16]),([17,16],[16,17]),([18,16],[16,18]),([19,16,16],[16,19]),([20],[20]),([21,20],[20,21]),([22,20,20],[20,22]),([20,23,16],[16,20,23]),([16,24],[16,24]),([25,23],[25]),([26],[26]),([27,26],[26,27]),([26],[26]),([29,26],[26,29]),([26],[26]),([30,31,26,26],[26,30,31]),([28,32,32,26],[26,28,32]),([26,33],[26,33]),([34,33,0,1,2,3,4,5,6,7,8,9,10,11,12,13,14,15,16,17,18,19,20,21,22,23,24,25,26,27,28,29,30,31,32,33,34],[34])])
def spec_l12ItemOk.B1:List Nat:=[0,1,3,7,15,31,63,127,255,511,1023,511,2559,6655,16383,32767,65535,131071,262143,524287,1048575,2097151,4194303,8388607,16777215,33554431,67108863,134217727,268435455,134217727,671088639,134217727,3892314111,8589934591,17179869183,34359738367]
theorem spec_l12ItemOk.tab1:rtab .any (opsOf Tryz.f79 1)=spec_l12ItemOk.T1:=by kernel_rfl
theorem spec_l12ItemOk.bits1:waitsOk spec_l12ItemOk.T1.2 spec_l12ItemOk.B1=true:=by kernel_rfl
theorem spec_l12ItemOk.calls(k:Nat)(a0_0:ByteArray)(a0_1:ByteArray)(A0_2:Option Addr)(c0_2:Nat)(l0_2:List ByteArray)(a0_3:ByteArray)(A0_4:Option Addr)(c0_4:Nat)(l0_4:List (S96))(A1:Option Addr)(c1:Nat)(l1:List ByteArray)(r:Bool)(w:World)(hr0_2:Kd.C Kd.string w A0_2 l0_2.length l0_2)(hc0_2:l0_2.length≤c0_2)(hr0_4:Kd.C k96 w A0_4 l0_4.length l0_4)(hc0_4:l0_4.length≤c0_4)(hr1:Kd.C Kd.string w A1 l1.length l1)(hc1:l1.length≤c1)(h:spec_l12ItemOk.f k a0_0 a0_1 l0_2 a0_3 l0_4 l1=some r):
 Calls Tryz.prog 79 #[.agg #[.string a0_0,.string a0_1,.slice A0_2 l0_2.length c0_2,.string a0_3,.slice A0_4 l0_4.length c0_4],.slice A1 l1.length c1] w fun e w'=>e= .returned (.bool r)∧Below w.heap.size w w':=by
 have hu94:=Tryz.underlying94
 have HR0_2:=zz hr0_2
 have HC0_2:=zz hc0_2
 clear hr0_2 hc0_2
 have HR0_4:=zz hr0_4
 have HC0_4:=zz hc0_4
 clear hr0_4 hc0_4
 have HR1:=zz hr1
 have HC1:=zz hc1
 clear hr1 hc1
 have HB:=zz (Below.refl w.heap.size w)
 unfold spec_l12ItemOk.f at h
 have H:=h
 clear h
 replace H:=zf H
 obtain⟨t428,A30,H⟩:=H
 try dsimp only at H
 have A3:=zz A30
 clear A30
 go_enter Tryz.func79,Tryz.ntmps79
 try go_wp2_with(first|(refine zX 2 94 #[.string a0_0,.string a0_1,.slice A0_2 l0_2.length c0_2,.string a0_3,.slice A0_4 l0_4.length c0_4] ?_;intro gb427 hg w12 hbox hb;have BK427:=zz (hbox);have GW427:=zz ((zg:w.heap.size≤gb427));have GE427:=zz ((zg:w.heap.size≤gb427));replace HB:=zz (zv zb hb);clear hb hbox hg))
 replace BK427:=zz (qK BK427.out)
 replace HB:=zz (qQ HB.out)
 refine start_ (n:=36) (S:=fun w'=>w'.cell? ⟨gb427,0,none⟩=some (.string a0_0)∧w'.cell? ⟨gb427,1,none⟩=some (.string a0_1)∧w'.cell? ⟨gb427,2,none⟩=some (.slice A0_2 l0_2.length c0_2)∧w'.cell? ⟨gb427,3,none⟩=some (.string a0_3)∧w'.cell? ⟨gb427,4,none⟩=some (.slice A0_4 l0_4.length c0_4)) (ds:=[]) (bp 0 36) zk rfl rfl (zy5 BK427.out) (fun hHeld=>?_);refine with_tabW spec_l12ItemOk.tab1 spec_l12ItemOk.bits1 (fun HT_ HW_=>?_)
 generalize w12.drew=w13 at BK427 HB hHeld⊢
 refine zp 0 5 (bp 1 35) ?_
 refine zt 1 6 (bp 2 34) ?_
 refine zo 2 7 (bp 3 33) fun K hK=>?_
 refine zh Tryz.func36 #[.string a0_0] ?_
 with_reducible refine(spec_AddressOk.calls k a0_0 _ _ A3.out).mono ?_
 rintro e w' ⟨rfl,⟨nd,rfl⟩⟩
 refine⟨_,rfl,?_⟩
 refine hK.out _ _ (zy5 BK427.out) (fun hHeld=>?_)
 clear hK K
 refine zn 7 ?_
 by_cases c4:t428=true
 case neg=>
  replace c4:=Bool.eq_false_iff.mpr c4
  subst c4
  rw[if_neg (show¬(false=true) by decide)] at H
  obtain rfl:=zi H
  refine zp 3 8 (bp 4 32) ?_
  refine zu 4 9 (bp 5 31) ?_
  refine zu 5 10 (bp 6 30) ?_
  refine zu 6 11 (bp 7 29) ?_
  refine zp 7 12 (bp 8 28) ?_
  refine zp 8 13 (bp 9 27) ?_
  refine zu 9 14 (bp 10 26) ?_
  refine zu 10 15 (bp 11 25) ?_
  refine zu 11 16 (bp 12 24) ?_
  refine zu 12 17 (bp 13 23) ?_
  refine zu 13 18 (bp 14 22) ?_
  refine zu 14 19 (bp 15 21) ?_
  refine zp 15 20 (bp 16 20) ?_
  refine zp 16 21 (bp 17 19) ?_
  refine zu 17 22 (bp 18 18) ?_
  refine zu 18 23 (bp 19 17) ?_
  refine zu 19 24 (bp 20 16) ?_
  refine zu 20 25 (bp 21 15) ?_
  refine zu 21 26 (bp 22 14) ?_
  refine zu 22 27 (bp 23 13) ?_
  refine zu 23 28 (bp 24 12) ?_
  refine zu 24 29 (bp 25 11) ?_
  refine zp 25 30 (bp 26 10) ?_
  refine zp 26 31 (bp 27 9) ?_
  refine zu 27 32 (bp 28 8) ?_
  refine zu 28 33 (bp 29 7) ?_
  refine zu 29 34 (bp 30 6) ?_
  refine zu 30 35 (bp 31 5) ?_
  refine zu 31 36 (bp 32 4) ?_
  refine zu 32 37 (bp 33 3) ?_
  refine zu 33 38 (bp 34 2) ?_
  refine zp 34 39 (bp 35 1) ?_
  refine zp 35 4 (bp 36 0) ?_
  refine done_ (done_of HT_.out zk) ?_
  try go_wp2
  go_ret
  exact⟨ze,zb⟩
 subst c4
 rw[if_pos rfl] at H
 replace H:=zf H
 obtain⟨t429,A50,H⟩:=H
 try dsimp only at H
 have A5:=zz A50
 clear A50
 refine zp 3 8 (bp 4 32) ?_
 refine zp 4 9 (bp 5 31) ?_
 refine zt 5 10 (bp 6 30) ?_
 refine zo 6 11 (bp 7 29) fun K hK=>?_
 refine zh Tryz.func81 #[.slice A0_4 l0_4.length c0_4] ?_
 with_reducible refine(spec_TreeOk.calls k _ _ l0_4 _ _ ?s1 ?s2 A5.out).mono ?_
 (case s1=>exact zC HR0_4.out)
 (case s2=>exact HC0_4.out)
 rintro e w14 ⟨rfl,hb⟩
 refine⟨_,rfl,?_⟩
 replace BK427:=zz (zJ BK427 hb)
 replace HB:=zz (zv zb hb)
 (try clear hb)
 (try clear hb2)
 (try clear hk)
 (try clear hi)
 refine hK.out _ _ (zy5 BK427.out) (fun hHeld=>?_)
 clear hK K
 refine zn 11 ?_
 by_cases c6:t429=true
 case neg=>
  replace c6:=Bool.eq_false_iff.mpr c6
  subst c6
  rw[if_neg (show¬(false=true) by decide)] at H
  obtain rfl:=zi H
  refine zp 7 12 (bp 8 28) ?_
  refine zp 8 13 (bp 9 27) ?_
  refine zu 9 14 (bp 10 26) ?_
  refine zu 10 15 (bp 11 25) ?_
  refine zu 11 16 (bp 12 24) ?_
  refine zu 12 17 (bp 13 23) ?_
  refine zu 13 18 (bp 14 22) ?_
  refine zu 14 19 (bp 15 21) ?_
  refine zp 15 20 (bp 16 20) ?_
  refine zp 16 21 (bp 17 19) ?_
  refine zu 17 22 (bp 18 18) ?_
  refine zu 18 23 (bp 19 17) ?_
  refine zu 19 24 (bp 20 16) ?_
  refine zu 20 25 (bp 21 15) ?_
  refine zu 21 26 (bp 22 14) ?_
  refine zu 22 27 (bp 23 13) ?_
  refine zu 23 28 (bp 24 12) ?_
  refine zu 24 29 (bp 25 11) ?_
  refine zp 25 30 (bp 26 10) ?_
  refine zp 26 31 (bp 27 9) ?_
  refine zu 27 32 (bp 28 8) ?_
  refine zu 28 33 (bp 29 7) ?_
  refine zu 29 34 (bp 30 6) ?_
  refine zu 30 35 (bp 31 5) ?_
  refine zu 31 36 (bp 32 4) ?_
  refine zu 32 37 (bp 33 3) ?_
  refine zu 33 38 (bp 34 2) ?_
  refine zp 34 39 (bp 35 1) ?_
  refine zp 35 4 (bp 36 0) ?_
  refine done_ (done_of HT_.out zk) ?_
  try go_wp2
  go_ret
  exact⟨ze,zb⟩
 subst c6
 rw[if_pos rfl] at H
 replace H:=zf H
 obtain⟨t430,A70,H⟩:=H
 try dsimp only at H
 have A7:=zz A70
 clear A70
 refine zp 7 12 (bp 8 28) ?_
 refine zp 8 13 (bp 9 27) ?_
 refine zp 9 14 (bp 10 26) ?_
 refine zp 11 16 (bm 36 3071) ?_
 refine zt 10 15 (bp 12 24) ?_
 refine zt 12 17 (bp 13 23) ?_
 refine zo 13 18 (bp 14 22) fun K hK=>?_
 refine zh Tryz.func116 #[.slice A0_4 l0_4.length c0_4] ?_
 with_reducible refine(spec_TreeSum.calls k _ _ l0_4 t430 _ ?s1 ?s2 A7.out).mono ?_
 (case s1=>exact zc HR0_4.out)
 (case s2=>exact HC0_4.out)
 rintro e w15 ⟨rfl,hb⟩
 refine⟨_,rfl,?_⟩
 replace BK427:=zz (zJ BK427 hb)
 replace HB:=zz (zv zb hb)
 (try clear hb)
 (try clear hb2)
 (try clear hk)
 (try clear hi)
 refine hK.out _ _ (zy5 BK427.out) (fun hHeld=>?_)
 clear hK K
 refine zn 18 ?_
 by_cases c8:a0_1.toList=t430.toList
 case neg=>
  rw[if_neg c8] at H
  obtain⟨c8b0,c8b1⟩:=zw c8
  obtain rfl:=zi H
  refine zp 14 19 (bp 15 21) ?_
  refine zp 15 20 (bp 16 20) ?_
  refine zp 16 21 (bp 17 19) ?_
  refine zu 17 22 (bp 18 18) ?_
  refine zu 18 23 (bp 19 17) ?_
  refine zu 19 24 (bp 20 16) ?_
  refine zu 20 25 (bp 21 15) ?_
  refine zu 21 26 (bp 22 14) ?_
  refine zu 22 27 (bp 23 13) ?_
  refine zu 23 28 (bp 24 12) ?_
  refine zu 24 29 (bp 25 11) ?_
  refine zp 25 30 (bp 26 10) ?_
  refine zp 26 31 (bp 27 9) ?_
  refine zu 27 32 (bp 28 8) ?_
  refine zu 28 33 (bp 29 7) ?_
  refine zu 29 34 (bp 30 6) ?_
  refine zu 30 35 (bp 31 5) ?_
  refine zu 31 36 (bp 32 4) ?_
  refine zu 32 37 (bp 33 3) ?_
  refine zu 33 38 (bp 34 2) ?_
  refine zp 34 39 (bp 35 1) ?_
  refine zp 35 4 (bp 36 0) ?_
  refine done_ (done_of HT_.out zk) ?_
  try go_wp2
  go_ret
  exact⟨ze,zb⟩
 rw[if_pos c8] at H
 obtain⟨c8b0,c8b1⟩:=zq c8
 clear c8
 by_cases c9:a0_3.toList=([]:List UInt8)
 ·rw[if_pos c9] at H
  obtain⟨c9b0,c9b1⟩:=zq c9
  clear c9
  replace H:=zf H
  obtain⟨t431,A100,H⟩:=H
  try dsimp only at H
  have A10:=zz A100
  clear A100
  replace H:=zf H
  obtain⟨t434,A110,H⟩:=H
  try dsimp only at H
  have A11:=zz A110
  clear A110
  obtain rfl:=zi H
  refine zp 14 19 (bp 15 21) ?_
  refine zp 15 20 (bp 16 20) ?_
  refine zp 16 21 (bp 17 19) ?_
  refine zp 17 22 (bp 18 18) ?_
  refine zt 18 23 (bp 19 17) ?_
  refine zp 19 24 (bp 20 16) ?_
  refine zp 20 25 (bp 21 15) ?_
  refine zu 21 26 (bp 22 14) ?_
  refine zu 22 27 (bp 23 13) ?_
  refine zu 23 28 (bp 24 12) ?_
  refine zp 24 29 (bp 25 11) ?_
  refine zp 25 30 (bp 26 10) ?_
  refine zp 26 31 (bp 27 9) ?_
  refine zp 27 32 (bp 28 8) ?_
  refine zp 29 34 (bm 36 805306367) ?_
  refine zp 31 36 (bm 36 2952790015) ?_
  refine zt 28 33 (bm 36 3221225471) ?_
  refine zt 30 35 (bp 32 4) ?_
  refine zo 32 37 (bp 33 3) fun K hK=>?_
  refine zh Tryz.func118 #[.slice A0_4 l0_4.length c0_4,.slice A1 l1.length c1] ?_
  with_reducible refine(spec_l10Refs.calls k _ _ l0_4 _ _ l1 t431 _ ?s1 ?s2 ?s3 ?s4 A10.out).mono ?_
  (case s1=>exact zc HR0_4.out)
  (case s2=>exact HC0_4.out)
  (case s3=>exact zc HR1.out)
  (case s4=>exact HC1.out)
  rintro e w16 ⟨v432,rfl,ho0,hb⟩
  refine⟨_,rfl,?_⟩
  have HO433:=zz (Kd.vH ho0 (qG zb))
  replace BK427:=zz (zJ BK427 hb)
  replace HB:=zz (zv zb hb)
  (try clear hb)
  (try clear hb2)
  (try clear hk)
  (try clear hi)
  (try clear ho0)
  obtain⟨Ao17,co17,eo17⟩:=Kd.vG HO433.out
  (first|subst eo17|(injection eo17 with f1_ f2_ f3_;have f4_:=f1_.symm;have f5_:=f3_.symm;clear f1_ f2_ f3_;subst f4_;subst f5_))
  refine hK.out _ _ (zy5 BK427.out) (fun hHeld=>?_)
  clear hK K
  refine zn 37 ?_
  refine zo 33 38 (bp 34 2) fun K hK=>?_
  refine zh Tryz.func117 #[.slice A0_2 l0_2.length c0_2,.slice Ao17 t431.length co17] ?_
  with_reducible refine(spec_l12SameTexts.calls k _ _ l0_2 _ _ t431 t434 _ ?s1 ?s2 ?s3 ?s4 A11.out).mono ?_
  (case s1=>exact zc HR0_2.out)
  (case s2=>exact HC0_2.out)
  (case s3=>repeat(first|exact(Kd.qS HO433.out).2.2|(with_reducible refine Kd.C_alloc ?_ _)|(with_reducible refine Kd.C_drewN ?_ _)|(with_reducible refine Kd.C_drew ?_)))
  (case s4=>exact(Kd.qS HO433.out).2.1)
  rintro e w' ⟨rfl,⟨nd,rfl⟩⟩
  refine⟨_,rfl,?_⟩
  refine hK.out _ _ (zy5 BK427.out) (fun hHeld=>?_)
  clear hK K
  refine zn 38 ?_
  refine zp 34 39 (bp 35 1) ?_
  refine zp 35 4 (bp 36 0) ?_
  refine done_ (done_of HT_.out zk) ?_
  try go_wp2
  go_ret
  exact⟨ze,zb⟩
 rw[if_neg c9] at H
 obtain⟨c9b0,c9b1⟩:=zw c9
 replace H:=zf H
 obtain⟨t435,A180,H⟩:=H
 try dsimp only at H
 have A18:=zz A180
 clear A180
 refine zp 14 19 (bp 15 21) ?_
 refine zp 15 20 (bp 16 20) ?_
 refine zp 16 21 (bp 17 19) ?_
 refine zp 17 22 (bp 18 18) ?_
 refine zt 18 23 (bp 19 17) ?_
 refine zp 19 24 (bp 20 16) ?_
 refine zp 20 25 (bp 21 15) ?_
 refine zp 21 26 (bp 22 14) ?_
 refine zt 22 27 (bp 23 13) ?_
 refine zo 23 28 (bp 24 12) fun K hK=>?_
 refine zh Tryz.func36 #[.string a0_3] ?_
 with_reducible refine(spec_AddressOk.calls k a0_3 _ _ A18.out).mono ?_
 rintro e w' ⟨rfl,⟨nd,rfl⟩⟩
 refine⟨_,rfl,?_⟩
 refine hK.out _ _ (zy5 BK427.out) (fun hHeld=>?_)
 clear hK K
 refine zn 28 ?_
 by_cases c19:t435=true
 case neg=>
  replace c19:=Bool.eq_false_iff.mpr c19
  subst c19
  rw[if_neg (show¬(false=true) by decide)] at H
  obtain rfl:=zi H
  refine zp 24 29 (bp 25 11) ?_
  refine zp 25 30 (bp 26 10) ?_
  refine zp 26 31 (bp 27 9) ?_
  refine zu 27 32 (bp 28 8) ?_
  refine zu 28 33 (bp 29 7) ?_
  refine zu 29 34 (bp 30 6) ?_
  refine zu 30 35 (bp 31 5) ?_
  refine zu 31 36 (bp 32 4) ?_
  refine zu 32 37 (bp 33 3) ?_
  refine zu 33 38 (bp 34 2) ?_
  refine zp 34 39 (bp 35 1) ?_
  refine zp 35 4 (bp 36 0) ?_
  refine done_ (done_of HT_.out zk) ?_
  try go_wp2
  go_ret
  exact⟨ze,zb⟩
 subst c19
 rw[if_pos rfl] at H
 replace H:=zf H
 obtain⟨t436,A200,H⟩:=H
 try dsimp only at H
 have A20:=zz A200
 clear A200
 replace H:=zf H
 obtain⟨t439,A210,H⟩:=H
 try dsimp only at H
 have A21:=zz A210
 clear A210
 obtain rfl:=zi H
 refine zp 24 29 (bp 25 11) ?_
 refine zp 25 30 (bp 26 10) ?_
 refine zp 26 31 (bp 27 9) ?_
 refine zp 27 32 (bp 28 8) ?_
 refine zp 29 34 (bm 36 805306367) ?_
 refine zp 31 36 (bm 36 2952790015) ?_
 refine zt 28 33 (bm 36 3221225471) ?_
 refine zt 30 35 (bp 32 4) ?_
 refine zo 32 37 (bp 33 3) fun K hK=>?_
 refine zh Tryz.func118 #[.slice A0_4 l0_4.length c0_4,.slice A1 l1.length c1] ?_
 with_reducible refine(spec_l10Refs.calls k _ _ l0_4 _ _ l1 t436 _ ?s1 ?s2 ?s3 ?s4 A20.out).mono ?_
 (case s1=>exact zC HR0_4.out)
 (case s2=>exact HC0_4.out)
 (case s3=>exact zC HR1.out)
 (case s4=>exact HC1.out)
 rintro e w26 ⟨v437,rfl,ho0,hb⟩
 refine⟨_,rfl,?_⟩
 have HO438:=zz (Kd.vH ho0 (qG zb))
 replace BK427:=zz (zJ BK427 hb)
 replace HB:=zz (zv zb hb)
 (try clear hb)
 (try clear hb2)
 (try clear hk)
 (try clear hi)
 (try clear ho0)
 obtain⟨Ao27,co27,eo27⟩:=Kd.vG HO438.out
 (first|subst eo27|(injection eo27 with f1_ f2_ f3_;have f4_:=f1_.symm;have f5_:=f3_.symm;clear f1_ f2_ f3_;subst f4_;subst f5_))
 refine hK.out _ _ (zy5 BK427.out) (fun hHeld=>?_)
 clear hK K
 refine zn 37 ?_
 refine zo 33 38 (bp 34 2) fun K hK=>?_
 refine zh Tryz.func117 #[.slice A0_2 l0_2.length c0_2,.slice Ao27 t436.length co27] ?_
 with_reducible refine(spec_l12SameTexts.calls k _ _ l0_2 _ _ t436 t439 _ ?s1 ?s2 ?s3 ?s4 A21.out).mono ?_
 (case s1=>exact zc HR0_2.out)
 (case s2=>exact HC0_2.out)
 (case s3=>repeat(first|exact(Kd.qS HO438.out).2.2|(with_reducible refine Kd.C_alloc ?_ _)|(with_reducible refine Kd.C_drewN ?_ _)|(with_reducible refine Kd.C_drew ?_)))
 (case s4=>exact(Kd.qS HO438.out).2.1)
 rintro e w' ⟨rfl,⟨nd,rfl⟩⟩
 refine⟨_,rfl,?_⟩
 refine hK.out _ _ (zy5 BK427.out) (fun hHeld=>?_)
 clear hK K
 refine zn 38 ?_
 refine zp 34 39 (bp 35 1) ?_
 refine zp 35 4 (bp 36 0) ?_
 refine done_ (done_of HT_.out zk) ?_
 try go_wp2
 go_ret
 exact⟨ze,zb⟩
def spec_StoreOk.l0:Nat→List (S94)→List ByteArray→Int→Option (Bool)
 |0,_,_,_=>none
 |k+1,x0,x3,x4=>if x4<(x0.length:Int) then(if x4>0 then(if 0≤(wrap64 (x4 - 1)) then(if(wrap64 (x4 - 1))<(x3.length:Int) then(if 0≤x4 then(if x4<(x3.length:Int) then(if((Op.bytesLess ((rdOf ByteArray.empty x3 (wrap64 (x4 - 1))).toList) ((rdOf ByteArray.empty x3 x4).toList))=true) then((spec_l12ItemOk.f k ((qL x0 x4).f0) ((qL x0 x4).f1) ((qL x0 x4).f2) ((qL x0 x4).f3) ((qL x0 x4).f4) x3).bind fun t446=>(if t446=true then(spec_StoreOk.l0 k x0 x3 (wrap64 (x4+1))) else(some false))) else(some false)) else(none)) else(none)) else(none)) else(none)) else(if 0≤x4 then((spec_l12ItemOk.f k ((qL x0 x4).f0) ((qL x0 x4).f1) ((qL x0 x4).f2) ((qL x0 x4).f3) ((qL x0 x4).f4) x3).bind fun t448=>(if t448=true then(spec_StoreOk.l0 k x0 x3 (wrap64 (x4+1))) else(some false))) else(none))) else(some true)
def spec_StoreOk.f(k:Nat)(l0:List (S94)):Option (Bool):=if(l0.length:Int)>300 then(some false) else((spec_l12Paths.f k l0).bind fun t440=>(spec_StoreOk.l0 k l0 t440 0))
theorem spec_StoreOk.calls(k:Nat)(A0:Option Addr)(c0:Nat)(l0:List (S94))(r:Bool)(w:World)(hr0:Kd.C k94 w A0 l0.length l0)(hc0:l0.length≤c0)(h:spec_StoreOk.f k l0=some r):
 Calls Tryz.prog 32 #[.slice A0 l0.length c0] w fun e w'=>e= .returned (.bool r)∧Below w.heap.size w w':=by
 have hu94:=Tryz.underlying94
 have HR0:=zz hr0
 have HC0:=zz hc0
 clear hr0 hc0
 have HB:=zz (Below.refl w.heap.size w)
 unfold spec_StoreOk.f at h
 have H:=h
 clear h
 replace HB:=HB.out
 have HW:=zz (Below.refl w.heap.size w)
 go_enter Tryz.func32,Tryz.ntmps32
 by_cases c2:(l0.length:Int)>300
 ·rw[if_pos c2] at H
  have c2b0:=zgt c2
  have c2b1:decide (300<l0.length)=true:=z1 (by omega)
  clear c2
  obtain rfl:=zi H
  go_wp2_with(fail)
  go_ret
  exact⟨ze,zv HW.out HB⟩
 rw[if_neg c2] at H
 have c2b0:=zgtn c2
 have c2b1:decide (300<l0.length)=false:=z0 (by omega)
 clear c2
 replace H:=zf H
 obtain⟨t440,A3,H⟩:=H
 try dsimp only at H
 replace A3:=zz A3
 go_wp2_with(fail)
 refine(spec_l12Paths.calls k _ _ _ _ _ (Kd.qC HR0.out HB) HC0.out A3.out).mono ?_
 rintro e w4 ⟨vHO442,rfl,hHO442,hb⟩
 replace HB:=zv HB hb
 clear hb
 have hst:=HB
 replace HW:=zz (zv HW.out hst)
 replace HR0:=zz (Kd.qC HR0.out hst)
 clear hst
 replace HB:=Below.refl w4.heap.size w4
 obtain⟨AHRo5,cHRo5,rfl,hl_,hC_⟩:=Kd.R_reads hHO442
 have HRo5:=zz hC_
 have HCo5:=zz hl_
 clear hl_ hC_ hHO442
 go_wp2_with(fail)
 go_loopg[4] k (fun kq v4 w'=>∃(x4_kl6:Int),v4= .int .i64 x4_kl6∧qB (spec_StoreOk.l0 kq l0 t440 x4_kl6=some r)∧qB (kq≤k)∧qB (Below w4.heap.size w4 w'))
 case atStart=>exact⟨(0),zr,⟨H⟩,⟨Nat.le_refl _⟩,⟨HB⟩⟩
 case round=>
  clear H HB
  obtain⟨x4_kl6,rfl,H,HKkl6,HB⟩:=hrel
  replace HB:=HB.out
  replace H:=H.out
  have HLkl6:=zz (Below.refl w4.heap.size w4)
  cases gk with
  |zero=>exact absurd H (by simp[spec_StoreOk.l0])
  |succ kl6=>
   simp only[spec_StoreOk.l0] at H
   by_cases c7:x4_kl6<(l0.length:Int)
   case neg=>
    rw[if_neg c7] at H
    have c7b0:=z0 c7
    clear c7
    obtain rfl:=zi H
    go_wp2_with(fail)
    go_ret
    exact⟨ze,zv HW.out HB⟩
   rw[if_pos c7] at H
   have c7b0:=z1 c7
   clear c7
   go_wp2_with(fail)
   try simp only[Act.put,List.setIfInBounds_toArray,List.set_cons_zero,List.set_cons_succ]
   refine vB (C:=fun W_=>Below w4.heap.size w4 W_) zk zk (qQ HB) ?_
   by_cases c8:x4_kl6>0
   case neg=>
    rw[if_neg c8] at H
    have c8b0:=zgtn c8
    clear c8
    by_cases c20:0≤x4_kl6
    case neg=>exact zno H c20
    rw[if_pos c20] at H
    have c20b0:=z1 c20
    clear c20
    have p447:0≤(x4_kl6:Int):=z2
    have q447:(x4_kl6:Int)<(l0.length:Int):=z2
    obtain⟨ad447,A447_2,c447_2,A447_4,c447_4,e447,hx447_0,hx447_1,hx447_2,hx447_3,hx447_4,hl447_2,hC447_2,hl447_4,hC447_4⟩:=at_T94 HR0.out x4_kl6 p447 q447
    cases e447
    replace hx447_0:=qR hx447_0
    replace hx447_1:=qR hx447_1
    replace hx447_2:=qR hx447_2
    replace hx447_3:=qR hx447_3
    replace hx447_4:=qR hx447_4
    have HR447_2:=zz hC447_2
    have HC447_2:=zz hl447_2
    clear hC447_2 hl447_2
    have HR447_4:=zz hC447_4
    have HC447_4:=zz hl447_4
    clear hC447_4 hl447_4
    replace p447:=eq_true p447
    replace q447:=eq_true q447
    replace H:=zf H
    obtain⟨t448,A21,H⟩:=H
    try dsimp only at H
    replace A21:=zz A21
    by_cases c22:t448=true
    ·subst c22
     rw[if_pos rfl] at H
     repeat(first|go_big_quiet_skip|(go_big_quiet_want;go_big_quiet_op;first|go_big_quiet_on|(with_reducible apply Exists.intro;refine⟨fun W hW=>?_,?_⟩;(first|with_reducible rfl|(go_at_call 79;exact callB (spec_l12ItemOk.calls kl6 _ _ _ _ _ _ _ _ _ _ _ _ _ _ (Kd.qC HR447_2.out hW) HC447_2.out (Kd.qC HR447_4.out hW) HC447_4.out (Kd.qC HRo5.out hW) HCo5.out A21.out) hW)|(go_simp;with_reducible rfl));go_big_quiet_on)))
     clear HB
     refine zW fun w23 (HB:Below w4.heap.size w4 w23)=>?_
     go_wp2_with(fail)
     go_roundg kl6
     case measure=>have:=HKkl6.out;omega
     case rel=>exact⟨(wrap64 (x4_kl6+1)),zr,⟨H⟩,⟨by have:=HKkl6.out;omega⟩,⟨zv HLkl6.out HB⟩⟩
    replace c22:=Bool.eq_false_iff.mpr c22
    subst c22
    rw[if_neg (by decide)] at H
    obtain rfl:=zi H
    repeat(first|go_big_quiet_skip|(go_big_quiet_want;go_big_quiet_op;first|go_big_quiet_on|(with_reducible apply Exists.intro;refine⟨fun W hW=>?_,?_⟩;(first|with_reducible rfl|(go_at_call 79;exact callB (spec_l12ItemOk.calls kl6 _ _ _ _ _ _ _ _ _ _ _ _ _ _ (Kd.qC HR447_2.out hW) HC447_2.out (Kd.qC HR447_4.out hW) HC447_4.out (Kd.qC HRo5.out hW) HCo5.out A21.out) hW)|(go_simp;with_reducible rfl));go_big_quiet_on)))
    clear HB
    refine zW fun w24 (HB:Below w4.heap.size w4 w24)=>?_
    go_wp2_with(fail)
    go_ret
    exact⟨ze,zv HW.out HB⟩
   rw[if_pos c8] at H
   have c8b0:=zgt c8
   clear c8
   obtain⟨ji9,hji9⟩:∃j_:Int,(wrap64 (x4_kl6 - 1))=j_:=⟨_,rfl⟩
   (first|rw[hji9] at H|simp only[hji9] at H)
   have hji9w:(IntKind.i64.wrap (x4_kl6 - 1))=ji9:=(i64_w _).trans hji9
   (try rw[hji9] at A3)
   by_cases c10:0≤(ji9)
   case neg=>exact zno H c10
   rw[if_pos c10] at H
   have c10b0:=z1 c10
   clear c10
   by_cases c11:(ji9)<(t440.length:Int)
   case neg=>exact zno H c11
   rw[if_pos c11] at H
   have c11b0:=z1 c11
   clear c11
   have p443:0≤((ji9):Int):=z2
   have q443:((ji9):Int)<(t440.length:Int):=z2
   obtain⟨ad443,e443,hx443_0⟩:=Kd.vC HRo5.out (ji9) p443 q443
   cases e443
   replace hx443_0:=qR hx443_0
   replace p443:=eq_true p443
   replace q443:=eq_true q443
   by_cases c12:0≤x4_kl6
   case neg=>exact zno H c12
   rw[if_pos c12] at H
   have c12b0:=z1 c12
   clear c12
   by_cases c13:x4_kl6<(t440.length:Int)
   case neg=>exact zno H c13
   rw[if_pos c13] at H
   have c13b0:=z1 c13
   clear c13
   have p444:0≤(x4_kl6:Int):=z2
   have q444:(x4_kl6:Int)<(t440.length:Int):=z2
   obtain⟨ad444,e444,hx444_0⟩:=Kd.vC HRo5.out x4_kl6 p444 q444
   obtain rfl:ad443=ad444:=(by injection e444)
   replace hx444_0:=qR hx444_0
   replace p444:=eq_true p444
   replace q444:=eq_true q444
   by_cases c14:((Op.bytesLess ((rdOf ByteArray.empty t440 (ji9)).toList) ((rdOf ByteArray.empty t440 x4_kl6).toList))=true)
   case neg=>
    rw[if_neg c14] at H
    have c14b0:(Op.bytesLess ((rdOf ByteArray.empty t440 (ji9)).toList) ((rdOf ByteArray.empty t440 x4_kl6).toList))=false:=by simpa using c14
    clear c14
    obtain rfl:=zi H
    repeat(first|go_big_quiet_skip|(go_big_quiet_want;go_big_quiet_op;first|go_big_quiet_on|(refine zE ?_;go_big_quiet_on)))
    clear HB
    refine zW fun w19 (HB:Below w4.heap.size w4 w19)=>?_
    go_wp2_with(fail)
    go_ret
    exact⟨ze,zv HW.out HB⟩
   rw[if_pos c14] at H
   have c14b0:(Op.bytesLess ((rdOf ByteArray.empty t440 (ji9)).toList) ((rdOf ByteArray.empty t440 x4_kl6).toList))=true:=c14
   clear c14
   have p445:0≤(x4_kl6:Int):=z2
   have q445:(x4_kl6:Int)<(l0.length:Int):=z2
   obtain⟨ad445,A445_2,c445_2,A445_4,c445_4,e445,hx445_0,hx445_1,hx445_2,hx445_3,hx445_4,hl445_2,hC445_2,hl445_4,hC445_4⟩:=at_T94 HR0.out x4_kl6 p445 q445
   cases e445
   replace hx445_0:=qR hx445_0
   replace hx445_1:=qR hx445_1
   replace hx445_2:=qR hx445_2
   replace hx445_3:=qR hx445_3
   replace hx445_4:=qR hx445_4
   have HR445_2:=zz hC445_2
   have HC445_2:=zz hl445_2
   clear hC445_2 hl445_2
   have HR445_4:=zz hC445_4
   have HC445_4:=zz hl445_4
   clear hC445_4 hl445_4
   replace p445:=eq_true p445
   replace q445:=eq_true q445
   replace H:=zf H
   obtain⟨t446,A15,H⟩:=H
   try dsimp only at H
   replace A15:=zz A15
   by_cases c16:t446=true
   ·subst c16
    rw[if_pos rfl] at H
    repeat(first|go_big_quiet_skip|(go_big_quiet_want;go_big_quiet_op;first|go_big_quiet_on|(with_reducible apply Exists.intro;refine⟨fun W hW=>?_,?_⟩;(first|with_reducible rfl|(go_at_call 79;exact callB (spec_l12ItemOk.calls kl6 _ _ _ _ _ _ _ _ _ _ _ _ _ _ (Kd.qC HR445_2.out hW) HC445_2.out (Kd.qC HR445_4.out hW) HC445_4.out (Kd.qC HRo5.out hW) HCo5.out A15.out) hW)|(go_simp;with_reducible rfl));go_big_quiet_on)))
    clear HB
    refine zW fun w17 (HB:Below w4.heap.size w4 w17)=>?_
    go_wp2_with(fail)
    go_roundg kl6
    case measure=>have:=HKkl6.out;omega
    case rel=>exact⟨(wrap64 (x4_kl6+1)),zr,⟨H⟩,⟨by have:=HKkl6.out;omega⟩,⟨zv HLkl6.out HB⟩⟩
   replace c16:=Bool.eq_false_iff.mpr c16
   subst c16
   rw[if_neg (by decide)] at H
   obtain rfl:=zi H
   repeat(first|go_big_quiet_skip|(go_big_quiet_want;go_big_quiet_op;first|go_big_quiet_on|(with_reducible apply Exists.intro;refine⟨fun W hW=>?_,?_⟩;(first|with_reducible rfl|(go_at_call 79;exact callB (spec_l12ItemOk.calls kl6 _ _ _ _ _ _ _ _ _ _ _ _ _ _ (Kd.qC HR445_2.out hW) HC445_2.out (Kd.qC HR445_4.out hW) HC445_4.out (Kd.qC HRo5.out hW) HCo5.out A15.out) hW)|(go_simp;with_reducible rfl));go_big_quiet_on)))
   clear HB
   refine zW fun w18 (HB:Below w4.heap.size w4 w18)=>?_
   go_wp2_with(fail)
   go_ret
   exact⟨ze,zv HW.out HB⟩
end Go.Proofs.YtcekmnclmldmmaaGreatDoor.Q
