import Derived.Test.YtcekmnclmldmmaaGreatDoorN03
import Derived.WalkMore
import Derived.Test.YtcekmnclmldmmaaGreatDoorN02
set_option linter.unusedVariables false
set_option linter.unusedSimpArgs false
namespace Go.Proofs.YtcekmnclmldmmaaGreatDoor.Q
open Go.RowKit W1 W2 W3
attribute [local go_sem] max2_int min2_int max_two min_two max_three min_three max_four min_four
attribute [local go_sem high] bl_leq bl_gtr bl_geq
set_option maxHeartbeats 8000000
set_option maxRecDepth 100000
theorem utf8_latin(r:Int)(h0:128≤r)(h1:r<256):∃a b:UInt8,Utf8.encode r=⟨#[a,b]⟩∧128≤b.toNat:=by
 have hv:Utf8.valid r=true:=by unfold Utf8.valid;simp;omega
 unfold Utf8.encode
 simp only[hv,if_true]
 rw[if_neg (by omega),if_pos (by omega)]
 refine⟨_,_,rfl,?_⟩
 simp
 omega
theorem strings_ValidRune_low(r:Int)(w:World)(h0:128≤r)(h1:r<256):Calls Tryz.prog 150 #[.int .i32 r] w fun e w'=>e= .returned (.bool true)∧w'=w:=by
 have h2:r<55296:=by omega
 have h3:0≤r:=by omega
 go_enter Tryz.func150,Tryz.ntmps150
 go_wp2
 go_ret
 exact⟨rfl,rfl⟩
theorem strings_IndexRune_latin(r:Int)(w:World)(h0:128≤r)(h1:r<256):Calls Tryz.prog 128 #[.string (⟨#[45,95,46,43]⟩:ByteArray),.int .i32 r] w fun e w'=>e= .returned (.int .i64 (-1))∧qE w w':=by
 have c1:decide (0≤r)=true:=decide_eq_true (by omega)
 have c2:decide (r<128)=false:=decide_eq_false (by omega)
 have c3:(r==65533)=false:=beq_eq_false_iff_ne.mpr (by omega)
 obtain⟨a,b,he,hb⟩:=utf8_latin r h0 h1
 have HE:=qB.mk he
 have hb2:(95==(b.toNat:Int))=false:=beq_eq_false_iff_ne.mpr (by omega)
 have hb3:(b==95)=false:=beq_eq_false_iff_ne.mpr (by intro h;subst h;exact absurd hb (by decide))
 have hcv:∀w,(convert 21 9 (.int .i32 r)).run Tryz.prog w= .ok (.string (⟨#[a,b]⟩:ByteArray)) w:=by
  intro w
  rw[←he]
  simp[convert,go_sem,Tryz.underlying21,Tryz.underlying9,Conv.intToString]
 have hct:Conv.intToString r=pure (.string (⟨#[a,b]⟩:ByteArray)):=by unfold Conv.intToString;rw[he]
 have hix:Lib.indexByte (((⟨#[45,95,46,43]⟩:ByteArray).extract 2 4).data.toList) ((b.toNat:Int)).toNat.toUInt8= -1:=by
  have e1:((b.toNat:Int)).toNat.toUInt8=b:=by simp
  have e2:((⟨#[45,95,46,43]⟩:ByteArray).extract 2 4).data.toList=[46,43]:=by rfl
  have b1:b≠46:=by intro h;subst h;exact absurd hb (by decide)
  have b2:b≠43:=by intro h;subst h;exact absurd hb (by decide)
  rw[e1,e2]
  simp[Lib.indexByte,b1,b2,b1.symm,b2.symm]
 have HIX:∀W,Calls Tryz.prog 129 #[.string ((⟨#[45,95,46,43]⟩:ByteArray).extract 2 4),.int .u8 (b.toNat:Int)] W fun e w'=>e= .returned (.int .i64 (-1))∧w'=W:=fun W=>(Tryz.strings_IndexByte _ _ W).mono fun e w' ⟨he,hw⟩=>⟨by rw[he,hix],hw⟩
 replace HIX:=qB.mk HIX
 clear he hix
 go_enter Tryz.func128,Tryz.ntmps128
 go_wp2_with(first
  |(go_at_call 150;refine(strings_ValidRune_low r _ h0 h1).mono ?_;rintro e w' ⟨rfl,hw⟩;rw[hw]))
 refine wp_scope_straight ?_
 go_wp2
 repeat(go_quiet (fail);try go_wp2)
 go_loopg[9,10] 1 (fun kq v9 v10 w'=>v9= .int .i64 1∧v10= .int .i64 0∧w'=w)
 case atStart=>exact⟨rfl,rfl,rfl⟩
 case round=>
  obtain⟨rfl,rfl,rfl⟩:=hrel
  have i1:∀h,(⟨#[45,95,46,43]⟩:ByteArray)[1]'h=95:=fun _=>rfl
  have i2:∀h,(⟨#[a,b]⟩:ByteArray)[1]'h=b:=fun _=>rfl
  go_wp2
  try refine wp_scope_straight ?_
  go_wp2
  go_quiet (fail)
  go_wp2
  have hw2:IntKind.i64.wrap 2=2:=by decide
  go_quiet ((go_at_call 129;refine(HIX.out _).mono ?_;rintro e w' ⟨rfl,hw⟩;subst hw;(first|exact⟨rfl,_,rfl⟩|exact⟨rfl,0,rfl⟩|exact⟨rfl,_,World.drewN_drewN _ _ _⟩|exact⟨rfl,_,Eq.trans (World.drewN_drewN _ _ _) (congrArg (World.drewN _) (Nat.add_assoc _ _ _))⟩)))
  go_wp2
  rw[Exit.noGoto_ret]
  go_wp2
  try rw[Exit.noGoto_ret]
  go_wp2
  go_ret
  exact⟨rfl,⟨_,rfl⟩⟩
theorem strings_ContainsRune_latin(r:Int)(w:World)(h0:128≤r)(h1:r<256):Calls Tryz.prog 94 #[.string (⟨#[45,95,46,43]⟩:ByteArray),.int .i32 r] w fun e w'=>e= .returned (.bool false)∧qE w w':=by
 go_enter Tryz.func94,Tryz.ntmps94
 go_wp2_with(go_at_call 128;refine(strings_IndexRune_latin r _ h0 h1).mono ?_;rintro e w' ⟨rfl,⟨n,rfl⟩⟩)
 go_ret
 exact⟨rfl,⟨_,rfl⟩⟩
def strings_ContainsRune.f(a0:ByteArray)(a1:Int):Option Bool:=if 0≤a1∧a1<128 then some (decide (0≤Lib.indexByte a0.data.toList a1.toNat.toUInt8)) else if 128≤a1∧a1<256∧a0=(⟨#[45,95,46,43]⟩:ByteArray) then some false else none
theorem strings_ContainsRune.calls(a0:ByteArray)(a1:Int)(r:Bool)(w:World)(h:strings_ContainsRune.f a0 a1=some r):
 Calls Tryz.prog 94 #[.string a0,.int .i32 a1] w fun e w'=>e= .returned (.bool r)∧qE w w':=by
 unfold strings_ContainsRune.f at h
 split at h
 ·rename_i hc
  obtain rfl:=Option.some.inj h
  exact(Tryz.strings_ContainsRune_ascii a0 a1 w hc.1 hc.2).mono fun e w' ⟨he,hw⟩=>⟨he,hw ▸ qE.refl w⟩
 ·split at h
  ·rename_i hc
   obtain⟨h0,h1,rfl⟩:=hc
   obtain rfl:=Option.some.inj h
   exact strings_ContainsRune_latin a1 w h0 h1
  ·exact absurd h (by simp)
def impl_letter.f(a0:Int):Option (Bool):=if a0≥97 then(if a0≤122 then(some true) else(if a0≥65 then(some (decide (a0≤90))) else(some false))) else(if a0≥65 then(some (decide (a0≤90))) else(some false))
theorem impl_letter.calls(a0:Int)(r:Bool)(w:World)(h:impl_letter.f a0=some r):
 Calls Tryz.prog 92 #[.int .u8 a0] w fun e w'=>e= .returned (.bool r)∧qE w w':=by
 unfold impl_letter.f at h
 have H:=h
 clear h
 by_cases c2:a0≥97
 ·rw[if_pos c2] at H
  have c2b0:=zge c2
  clear c2
  by_cases c3:a0≤122
  ·rw[if_pos c3] at H
   have c3b0:=z1 c3
   clear c3
   obtain rfl:=zi H
   go_enter Tryz.func92,Tryz.ntmps92
   go_wp2
   go_ret
   exact⟨zr,by repeat(first|exact qE.refl _|apply qE.step)⟩
  rw[if_neg c3] at H
  have c3b0:=z0 c3
  clear c3
  by_cases c4:a0≥65
  ·rw[if_pos c4] at H
   have c4b0:=zge c4
   clear c4
   obtain rfl:=zi H
   go_enter Tryz.func92,Tryz.ntmps92
   go_wp2
   go_ret
   exact⟨zr,by repeat(first|exact qE.refl _|apply qE.step)⟩
  rw[if_neg c4] at H
  have c4b0:=zgen c4
  clear c4
  obtain rfl:=zi H
  go_enter Tryz.func92,Tryz.ntmps92
  go_wp2
  go_ret
  exact⟨zr,by repeat(first|exact qE.refl _|apply qE.step)⟩
 rw[if_neg c2] at H
 have c2b0:=zgen c2
 clear c2
 by_cases c5:a0≥65
 ·rw[if_pos c5] at H
  have c5b0:=zge c5
  clear c5
  obtain rfl:=zi H
  go_enter Tryz.func92,Tryz.ntmps92
  go_wp2
  go_ret
  exact⟨zr,by repeat(first|exact qE.refl _|apply qE.step)⟩
 rw[if_neg c5] at H
 have c5b0:=zgen c5
 clear c5
 obtain rfl:=zi H
 go_enter Tryz.func92,Tryz.ntmps92
 go_wp2
 go_ret
 exact⟨zr,by repeat(first|exact qE.refl _|apply qE.step)⟩
def impl_digit.f(a0:Int):Option (Bool):=if a0≥48 then(some (decide (a0≤57))) else(some false)
theorem impl_digit.calls(a0:Int)(r:Bool)(w:World)(h:impl_digit.f a0=some r):
 Calls Tryz.prog 93 #[.int .u8 a0] w fun e w'=>e= .returned (.bool r)∧qE w w':=by
 unfold impl_digit.f at h
 have H:=h
 clear h
 by_cases c2:a0≥48
 ·rw[if_pos c2] at H
  have c2b0:=zge c2
  clear c2
  obtain rfl:=zi H
  go_enter Tryz.func93,Tryz.ntmps93
  go_wp2
  go_ret
  exact⟨zr,by repeat(first|exact qE.refl _|apply qE.step)⟩
 rw[if_neg c2] at H
 have c2b0:=zgen c2
 clear c2
 obtain rfl:=zi H
 go_enter Tryz.func93,Tryz.ntmps93
 go_wp2
 go_ret
 exact⟨zr,by repeat(first|exact qE.refl _|apply qE.step)⟩
mutual
def impl_NameOk.j0:Nat→ByteArray→Bool→Option (Bool)
 |0,_,_=>none
 |k+1,x0,x17=>if x17=true then(some false) else(impl_NameOk.l0 k x0 (x0.size:Int) 0)
def impl_NameOk.l0:Nat→ByteArray→Int→Int→Option (Bool)
 |0,_,_,_=>none
 |k+1,x0,x19,x20=>if x20<x19 then(if 0≤x20 then(if x20<(x0.size:Int) then((impl_letter.f (bt x0 x20)).bind fun t535=>(if t535=true then(impl_NameOk.l0 k x0 x19 (wrap64 (x20+1))) else((impl_digit.f (bt x0 x20)).bind fun t536=>(if t536=true then(impl_NameOk.l0 k x0 x19 (wrap64 (x20+1))) else((strings_ContainsRune.f (⟨#[45,95,46,43]⟩:ByteArray) (wrap32 (bt x0 x20))).bind fun t537=>(if t537=true then(impl_NameOk.l0 k x0 x19 (wrap64 (x20+1))) else(some false))))))) else(none)) else(none)) else(some true)
end
def impl_NameOk.f(k:Nat)(a0:ByteArray):Option (Bool):=if(a0.size:Int)<1 then(impl_NameOk.j0 k a0 true) else(if(a0.size:Int)>60 then(impl_NameOk.j0 k a0 true) else(if 0<(a0.size:Int) then(impl_NameOk.j0 k a0 ((bt a0 0)==46)) else(none)))
theorem impl_NameOk.calls(k:Nat)(a0:ByteArray)(r:Bool)(w:World)(h:impl_NameOk.f k a0=some r):
 Calls Tryz.prog 45 #[.string a0] w fun e w'=>e= .returned (.bool r)∧qE w w':=by
 unfold impl_NameOk.f at h
 have H:=h
 clear h
 have HC2:=zz H
 clear H
 go_enter Tryz.func45,Tryz.ntmps45
 go_upto_region 1 with(fail)
 go_cut [17] (fun v17 wc=>∃(kq:Nat) (x17_1:Bool),v17= .bool x17_1∧qB (impl_NameOk.j0 kq a0 x17_1=some r)∧qB (kq≤k)∧qE w wc)
 case first=>
  have H:=HC2.out
  clear HC2
  by_cases c3:(a0.size:Int)<1
  ·rw[if_pos c3] at H
   have c3b0:=z1 c3
   have c3b1:decide (a0.size<1)=true:=z1 (by omega)
   clear c3
   (first|rw[c3b0]|(simp only[i64_w,i32_w];rw[c3b0])|skip)
   have H':=zz H
   clear H
   go_wp2
   go_meet
   case rel=>exact⟨_,(true),zr,H',⟨by first|omega|exact Nat.le_refl _⟩,by repeat(first|exact qE.refl _|apply qE.step)⟩
  ·rw[if_neg c3] at H
   have c3b0:=z0 c3
   have c3b1:decide (a0.size<1)=false:=z0 (by omega)
   clear c3
   (first|rw[c3b0]|(simp only[i64_w,i32_w];rw[c3b0])|skip)
   by_cases c4:(a0.size:Int)>60
   ·rw[if_pos c4] at H
    have c4b0:=zgt c4
    have c4b1:decide (60<a0.size)=true:=z1 (by omega)
    clear c4
    have H':=zz H
    clear H
    go_wp2
    go_meet
    case rel=>exact⟨_,(true),zr,H',⟨by first|omega|exact Nat.le_refl _⟩,by repeat(first|exact qE.refl _|apply qE.step)⟩
   ·rw[if_neg c4] at H
    have c4b0:=zgtn c4
    have c4b1:decide (60<a0.size)=false:=z0 (by omega)
    clear c4
    by_cases c5:0<(a0.size:Int)
    ·rw[if_pos c5] at H
     have c5b0:=z1 c5
     have c5b1:decide (0<a0.size)=true:=z1 (by omega)
     clear c5
     have H':=zz H
     clear H
     have p6:0≤(0:Int):=(by omega)
     have q6:0<a0.size:=(by have:(0:Int)<(a0.size:Int):=z2;omega)
     have hx6:∀h:0<a0.size,((a0[0]'h).toNat:Int)=bt a0 0:=bt_at a0 0
     clear p6
     have qi6:(0<(a0.size:Int))=True:=eq_true (z2)
     replace q6:=eq_true q6
     go_wp2
     go_meet
     case rel=>exact⟨_,(((bt a0 0)==46)),zr,H',⟨by first|omega|exact Nat.le_refl _⟩,by repeat(first|exact qE.refl _|apply qE.step)⟩
    ·rw[if_neg c5] at H
     exact absurd H (by simp)
 case rest=>
  clear HC2
  try clear p2
  try clear c3
  try clear c3b0
  try clear c3b1
  try clear c4
  try clear c4b0
  try clear c4b1
  try clear c5
  try clear c5b0
  try clear c5b1
  try clear p6
  try clear q6
  try clear hx6
  try clear qi6
  try clear p6
  try clear q6
  obtain⟨kq,x17_1,rfl,HA,HJ1,⟨mc1,rfl⟩⟩:=hcut
  cases kq with
  |zero=>exact absurd HA.out (by simp[impl_NameOk.j0])
  |succ kj1=>
   have H:=HA.out
   clear HA
   simp only[impl_NameOk.j0] at H
   by_cases c7:x17_1=true
   ·subst c7
    rw[if_pos rfl] at H
    obtain rfl:=zi H
    go_wp2
    go_ret
    exact⟨zr,by repeat(first|exact qE.refl _|apply qE.step)⟩
   replace c7:=Bool.eq_false_iff.mpr c7
   subst c7
   rw[if_neg (show¬(false=true) by decide)] at H
   have H':=zz H
   clear H
   go_wp2
   go_loopg[20] kj1 (fun kq v20 w'=>∃(x20_2:Int),v20= .int .i64 x20_2∧qB (impl_NameOk.l0 kq a0 (a0.size:Int) x20_2=some r)∧qB (kq≤kj1)∧qE w w')
   case atStart=>exact⟨(0),zr,H',⟨Nat.le_refl _⟩,by repeat(first|exact qE.refl _|apply qE.step)⟩
   case round=>
    clear H'
    try clear c1
    try clear p2
    try clear c3
    try clear c3b0
    try clear c3b1
    try clear c4
    try clear c4b0
    try clear c4b1
    try clear c5
    try clear c5b0
    try clear c5b1
    try clear p6
    try clear q6
    try clear hx6
    try clear qi6
    try clear c7
    try clear p2
    try clear p6
    try clear q6
    obtain⟨x20_2,rfl,HA,HK2,⟨m2,rfl⟩⟩:=hrel
    cases gk with
    |zero=>exact absurd HA.out (by simp[impl_NameOk.l0])
    |succ k2=>
     have H:=HA.out
     clear HA
     simp only[impl_NameOk.l0] at H
     by_cases c8:x20_2<(a0.size:Int)
     case neg=>
      rw[if_neg c8] at H
      have c8b0:=z0 c8
      clear c8
      obtain rfl:=zi H
      go_wp2
      go_ret
      exact⟨zr,by repeat(first|exact qE.refl _|apply qE.step)⟩
     rw[if_pos c8] at H
     have c8b0:=z1 c8
     clear c8
     by_cases c9:0≤x20_2
     case neg=>exact zno H c9
     rw[if_pos c9] at H
     have c9b0:=z1 c9
     clear c9
     by_cases c10:x20_2<(a0.size:Int)
     case neg=>exact zno H c10
     rw[if_pos c10] at H
     have c10b0:=z1 c10
     clear c10
     replace H:=zf H
     obtain⟨t535,A120,H⟩:=H
     try dsimp only at H
     have A12:=zz A120
     clear A120
     by_cases c13:t535=true
     ·subst c13
      rw[if_pos rfl] at H
      have H':=zz H
      clear H
      have p11:0≤(x20_2:Int):=z2
      have q11:x20_2<(a0.size:Int):=z2
      have hx11:=bt_at a0 x20_2
      replace p11:=eq_true p11
      replace q11:=eq_true q11
      go_wp2_with(first|(refine zL 92 27 Tryz.func92 #[.int .u8 (bt a0 x20_2)] ?_;(with_reducible refine(impl_letter.calls (bt a0 x20_2) true _ A12.out).mono ?_);rintro e w' ⟨rfl,⟨nd,rfl⟩⟩;refine⟨_,rfl,?_⟩))
      go_roundg k2
      case measure=>have:=HJ1.out;have:=HK2.out;omega
      case rel=>exact⟨(wrap64 (x20_2+1)),zr,H',⟨by have:=HJ1.out;have:=HK2.out;omega⟩,by repeat(first|exact qE.refl _|apply qE.step)⟩
     replace c13:=Bool.eq_false_iff.mpr c13
     subst c13
     rw[if_neg (show¬(false=true) by decide)] at H
     replace H:=zf H
     obtain⟨t536,A140,H⟩:=H
     try dsimp only at H
     have A14:=zz A140
     clear A140
     by_cases c15:t536=true
     ·subst c15
      rw[if_pos rfl] at H
      have H':=zz H
      clear H
      have p11:0≤(x20_2:Int):=z2
      have q11:x20_2<(a0.size:Int):=z2
      have hx11:=bt_at a0 x20_2
      replace p11:=eq_true p11
      replace q11:=eq_true q11
      go_wp2_with(first|(refine zL 92 27 Tryz.func92 #[.int .u8 (bt a0 x20_2)] ?_;(with_reducible refine(impl_letter.calls (bt a0 x20_2) false _ A12.out).mono ?_);rintro e w' ⟨rfl,⟨nd,rfl⟩⟩;refine⟨_,rfl,?_⟩)|(go_at_call 93;(with_reducible refine(impl_digit.calls (bt a0 x20_2) true _ A14.out).mono ?_);rintro e w' ⟨rfl,⟨nd,rfl⟩⟩))
      go_roundg k2
      case measure=>have:=HJ1.out;have:=HK2.out;omega
      case rel=>exact⟨(wrap64 (x20_2+1)),zr,H',⟨by have:=HJ1.out;have:=HK2.out;omega⟩,by repeat(first|exact qE.refl _|apply qE.step)⟩
     replace c15:=Bool.eq_false_iff.mpr c15
     subst c15
     rw[if_neg (show¬(false=true) by decide)] at H
     replace H:=zf H
     obtain⟨t537,A160,H⟩:=H
     try dsimp only at H
     have A16:=zz A160
     clear A160
     by_cases c17:t537=true
     case neg=>
      replace c17:=Bool.eq_false_iff.mpr c17
      subst c17
      rw[if_neg (show¬(false=true) by decide)] at H
      obtain rfl:=zi H
      have p11:0≤(x20_2:Int):=z2
      have q11:x20_2<(a0.size:Int):=z2
      have hx11:=bt_at a0 x20_2
      replace p11:=eq_true p11
      replace q11:=eq_true q11
      go_wp2_with(first|(refine zL 92 27 Tryz.func92 #[.int .u8 (bt a0 x20_2)] ?_;(with_reducible refine(impl_letter.calls (bt a0 x20_2) false _ A12.out).mono ?_);rintro e w' ⟨rfl,⟨nd,rfl⟩⟩;refine⟨_,rfl,?_⟩)|(go_at_call 93;(with_reducible refine(impl_digit.calls (bt a0 x20_2) false _ A14.out).mono ?_);rintro e w' ⟨rfl,⟨nd,rfl⟩⟩)|(go_at_call 94;(with_reducible refine(strings_ContainsRune.calls (⟨#[45,95,46,43]⟩:ByteArray) (wrap32 (bt a0 x20_2)) false _ A16.out).mono ?_);rintro e w' ⟨rfl,⟨nd,rfl⟩⟩))
      go_ret
      exact⟨zr,by repeat(first|exact qE.refl _|apply qE.step)⟩
     subst c17
     rw[if_pos rfl] at H
     have H':=zz H
     clear H
     have p11:0≤(x20_2:Int):=z2
     have q11:x20_2<(a0.size:Int):=z2
     have hx11:=bt_at a0 x20_2
     replace p11:=eq_true p11
     replace q11:=eq_true q11
     go_wp2_with(first|(refine zL 92 27 Tryz.func92 #[.int .u8 (bt a0 x20_2)] ?_;(with_reducible refine(impl_letter.calls (bt a0 x20_2) false _ A12.out).mono ?_);rintro e w' ⟨rfl,⟨nd,rfl⟩⟩;refine⟨_,rfl,?_⟩)|(go_at_call 93;(with_reducible refine(impl_digit.calls (bt a0 x20_2) false _ A14.out).mono ?_);rintro e w' ⟨rfl,⟨nd,rfl⟩⟩)|(go_at_call 94;(with_reducible refine(strings_ContainsRune.calls (⟨#[45,95,46,43]⟩:ByteArray) (wrap32 (bt a0 x20_2)) true _ A16.out).mono ?_);rintro e w' ⟨rfl,⟨nd,rfl⟩⟩))
     go_roundg k2
     case measure=>have:=HJ1.out;have:=HK2.out;omega
     case rel=>exact⟨(wrap64 (x20_2+1)),zr,H',⟨by have:=HJ1.out;have:=HK2.out;omega⟩,by repeat(first|exact qE.refl _|apply qE.step)⟩
def strings_IndexByte.f(a0:ByteArray)(a1:Int):Option Int:=some (Lib.indexByte a0.data.toList a1.toNat.toUInt8)
theorem strings_IndexByte.calls(a0:ByteArray)(a1:Int)(r:Int)(w:World)(h:strings_IndexByte.f a0 a1=some r):
 Calls Tryz.prog 129 #[.string a0,.int .u8 a1] w fun e w'=>e= .returned (.int .i64 r)∧qE w w':=by
 obtain rfl:=Option.some.inj h
 exact(Tryz.strings_IndexByte a0 a1 w).mono fun e w' ⟨he,hw⟩=>⟨he,hw ▸ qE.refl w⟩
def impl_ReadWord32.l0:Nat→ByteArray→Int→Int→Int→Option (Int×Bool)
 |0,_,_,_,_=>none
 |k+1,x0,x4,x11,x12=>if x12<x11 then(if 0≤x12 then(if x12<(x0.size:Int) then((strings_IndexByte.f (⟨#[48,49,50,51,52,53,54,55,56,57,97,98,99,100,102,103,104,105,106,107,108,109,110,112,113,114,115,118,119,120,121,122]⟩:ByteArray) (bt x0 x12)).bind fun t538=>(if t538<0 then(some (0,false)) else(if x12=0 then(if t538>15 then(some (0,false)) else(impl_ReadWord32.l0 k x0 (Go.bits .or .u64 (IntKind.u64.wrap (x4*32)) (IntKind.u64.wrap (t538))) x11 (wrap64 (x12+1)))) else(impl_ReadWord32.l0 k x0 (Go.bits .or .u64 (IntKind.u64.wrap (x4*32)) (IntKind.u64.wrap (t538))) x11 (wrap64 (x12+1)))))) else(none)) else(none)) else(some (x4,true))
def impl_ReadWord32.f(k:Nat)(a0:ByteArray):Option (Int×Bool):=if(a0.size:Int)=13 then(impl_ReadWord32.l0 k a0 0 (a0.size:Int) 0) else(some (0,false))
theorem impl_ReadWord32.calls(k:Nat)(a0:ByteArray)(r1:Int)(r2:Bool)(w:World)(h:impl_ReadWord32.f k a0=some (r1,r2)):
 Calls Tryz.prog 95 #[.string a0] w fun e w'=>e= .returned (.tuple #[.int .u64 r1,.bool r2])∧qE w w':=by
 unfold impl_ReadWord32.f at h
 have H:=h
 clear h
 by_cases c2:(a0.size:Int)=13
 case neg=>
  rw[if_neg c2] at H
  obtain⟨c2b0,c2b1⟩:=zw c2
  simp only[Option.some.injEq,Prod.mk.injEq] at H
  obtain⟨rfl,rfl⟩:=H
  go_enter Tryz.func95,Tryz.ntmps95
  go_wp2
  go_ret2
  exact⟨zr,by repeat(first|exact qE.refl _|apply qE.step)⟩
 rw[if_pos c2] at H
 obtain⟨c2b0,c2b1⟩:=zq c2
 clear c2
 have H':=zz H
 clear H
 go_enter Tryz.func95,Tryz.ntmps95
 go_wp2
 go_loopg[4,12] k (fun kq v4 v12 w'=>∃(x4_1:Int) (x12_1:Int),v4= .int .u64 x4_1∧v12= .int .i64 x12_1∧qB (impl_ReadWord32.l0 kq a0 x4_1 (a0.size:Int) x12_1=some (r1,r2))∧qB (kq≤k)∧qE w w')
 case atStart=>exact⟨(0),(0),zr,zr,H',⟨Nat.le_refl _⟩,by repeat(first|exact qE.refl _|apply qE.step)⟩
 case round=>
  clear H'
  try clear c2
  try clear c2b0
  try clear c2b1
  try clear p2
  obtain⟨x4_1,x12_1,rfl,rfl,HA,HK1,⟨m1,rfl⟩⟩:=hrel
  cases gk with
  |zero=>exact absurd HA.out (by simp[impl_ReadWord32.l0])
  |succ k1=>
   have H:=HA.out
   clear HA
   simp only[impl_ReadWord32.l0] at H
   by_cases c3:x12_1<(a0.size:Int)
   case neg=>
    rw[if_neg c3] at H
    have c3b0:=z0 c3
    clear c3
    simp only[Option.some.injEq,Prod.mk.injEq] at H
    obtain⟨rfl,rfl⟩:=H
    go_wp2
    go_ret2
    exact⟨zr,by repeat(first|exact qE.refl _|apply qE.step)⟩
   rw[if_pos c3] at H
   have c3b0:=z1 c3
   clear c3
   by_cases c4:0≤x12_1
   case neg=>exact zno H c4
   rw[if_pos c4] at H
   have c4b0:=z1 c4
   clear c4
   by_cases c5:x12_1<(a0.size:Int)
   case neg=>exact zno H c5
   rw[if_pos c5] at H
   have c5b0:=z1 c5
   clear c5
   replace H:=zf H
   obtain⟨t538,A70,H⟩:=H
   try dsimp only at H
   have A7:=zz A70
   clear A70
   by_cases c8:t538<0
   ·rw[if_pos c8] at H
    have c8b0:=z1 c8
    clear c8
    simp only[Option.some.injEq,Prod.mk.injEq] at H
    obtain⟨rfl,rfl⟩:=H
    have p6:0≤(x12_1:Int):=z2
    have q6:x12_1<(a0.size:Int):=z2
    have hx6:=bt_at a0 x12_1
    replace p6:=eq_true p6
    replace q6:=eq_true q6
    go_wp2_with(first|(refine zL 129 18 Tryz.func129 #[.string (⟨#[48,49,50,51,52,53,54,55,56,57,97,98,99,100,102,103,104,105,106,107,108,109,110,112,113,114,115,118,119,120,121,122]⟩:ByteArray),.int .u8 (bt a0 x12_1)] ?_;(with_reducible refine(strings_IndexByte.calls (⟨#[48,49,50,51,52,53,54,55,56,57,97,98,99,100,102,103,104,105,106,107,108,109,110,112,113,114,115,118,119,120,121,122]⟩:ByteArray) (bt a0 x12_1) t538 _ A7.out).mono ?_);rintro e w' ⟨rfl,⟨nd,rfl⟩⟩;refine⟨_,rfl,?_⟩))
    go_ret2
    exact⟨zr,by repeat(first|exact qE.refl _|apply qE.step)⟩
   rw[if_neg c8] at H
   have c8b0:=z0 c8
   clear c8
   by_cases c9:x12_1=0
   case neg=>
    rw[if_neg c9] at H
    obtain⟨c9b0,c9b1⟩:=zw c9
    have H':=zz H
    clear H
    have p6:0≤(x12_1:Int):=z2
    have q6:x12_1<(a0.size:Int):=z2
    have hx6:=bt_at a0 x12_1
    replace p6:=eq_true p6
    replace q6:=eq_true q6
    go_wp2_with(first|(refine zL 129 18 Tryz.func129 #[.string (⟨#[48,49,50,51,52,53,54,55,56,57,97,98,99,100,102,103,104,105,106,107,108,109,110,112,113,114,115,118,119,120,121,122]⟩:ByteArray),.int .u8 (bt a0 x12_1)] ?_;(with_reducible refine(strings_IndexByte.calls (⟨#[48,49,50,51,52,53,54,55,56,57,97,98,99,100,102,103,104,105,106,107,108,109,110,112,113,114,115,118,119,120,121,122]⟩:ByteArray) (bt a0 x12_1) t538 _ A7.out).mono ?_);rintro e w' ⟨rfl,⟨nd,rfl⟩⟩;refine⟨_,rfl,?_⟩))
    go_roundg k1
    case measure=>have:=HK1.out;omega
    case rel=>exact⟨(Go.bits .or .u64 (IntKind.u64.wrap (x4_1*32)) (IntKind.u64.wrap (t538))),(wrap64 (x12_1+1)),zr,zr,H',⟨by have:=HK1.out;omega⟩,by repeat(first|exact qE.refl _|apply qE.step)⟩
   rw[if_pos c9] at H
   obtain⟨c9b0,c9b1⟩:=zq c9
   clear c9
   by_cases c10:t538>15
   ·rw[if_pos c10] at H
    have c10b0:=zgt c10
    clear c10
    simp only[Option.some.injEq,Prod.mk.injEq] at H
    obtain⟨rfl,rfl⟩:=H
    have p6:0≤(x12_1:Int):=z2
    have q6:x12_1<(a0.size:Int):=z2
    have hx6:=bt_at a0 x12_1
    replace p6:=eq_true p6
    replace q6:=eq_true q6
    go_wp2_with(first|(refine zL 129 18 Tryz.func129 #[.string (⟨#[48,49,50,51,52,53,54,55,56,57,97,98,99,100,102,103,104,105,106,107,108,109,110,112,113,114,115,118,119,120,121,122]⟩:ByteArray),.int .u8 (bt a0 x12_1)] ?_;(with_reducible refine(strings_IndexByte.calls (⟨#[48,49,50,51,52,53,54,55,56,57,97,98,99,100,102,103,104,105,106,107,108,109,110,112,113,114,115,118,119,120,121,122]⟩:ByteArray) (bt a0 x12_1) t538 _ A7.out).mono ?_);rintro e w' ⟨rfl,⟨nd,rfl⟩⟩;refine⟨_,rfl,?_⟩))
    go_ret2
    exact⟨zr,by repeat(first|exact qE.refl _|apply qE.step)⟩
   rw[if_neg c10] at H
   have c10b0:=zgtn c10
   clear c10
   have H':=zz H
   clear H
   have p6:0≤(x12_1:Int):=z2
   have q6:x12_1<(a0.size:Int):=z2
   have hx6:=bt_at a0 x12_1
   replace p6:=eq_true p6
   replace q6:=eq_true q6
   go_wp2_with(first|(refine zL 129 18 Tryz.func129 #[.string (⟨#[48,49,50,51,52,53,54,55,56,57,97,98,99,100,102,103,104,105,106,107,108,109,110,112,113,114,115,118,119,120,121,122]⟩:ByteArray),.int .u8 (bt a0 x12_1)] ?_;(with_reducible refine(strings_IndexByte.calls (⟨#[48,49,50,51,52,53,54,55,56,57,97,98,99,100,102,103,104,105,106,107,108,109,110,112,113,114,115,118,119,120,121,122]⟩:ByteArray) (bt a0 x12_1) t538 _ A7.out).mono ?_);rintro e w' ⟨rfl,⟨nd,rfl⟩⟩;refine⟨_,rfl,?_⟩))
   go_roundg k1
   case measure=>have:=HK1.out;omega
   case rel=>exact⟨(Go.bits .or .u64 (IntKind.u64.wrap (x4_1*32)) (IntKind.u64.wrap (t538))),(wrap64 (x12_1+1)),zr,zr,H',⟨by have:=HK1.out;omega⟩,by repeat(first|exact qE.refl _|apply qE.step)⟩
def impl_AddressOk.f(k:Nat)(a0:ByteArray):Option (Bool):=if(a0.size:Int)<14 then(some false) else(if 13<(a0.size:Int) then(if(bt a0 13)=45 then(if 14≤(a0.size:Int) then((impl_NameOk.f k (a0.extract 14 a0.size)).bind fun t539=>(if t539=true then(if 0≤13 then(if 13≤(a0.size:Int) then((impl_ReadWord32.f k (a0.extract 0 13)).bind fun bt540=>(some bt540.2)) else(none)) else(none)) else(some false))) else(none)) else(some false)) else(none))
theorem impl_AddressOk.calls(k:Nat)(a0:ByteArray)(r:Bool)(w:World)(h:impl_AddressOk.f k a0=some r):
 Calls Tryz.prog 46 #[.string a0] w fun e w'=>e= .returned (.bool r)∧qE w w':=by
 unfold impl_AddressOk.f at h
 have H:=h
 clear h
 by_cases c2:(a0.size:Int)<14
 ·rw[if_pos c2] at H
  have c2b0:=z1 c2
  have c2b1:decide (a0.size<14)=true:=z1 (by omega)
  clear c2
  obtain rfl:=zi H
  go_enter Tryz.func46,Tryz.ntmps46
  go_wp2
  go_ret
  exact⟨zr,by repeat(first|exact qE.refl _|apply qE.step)⟩
 rw[if_neg c2] at H
 have c2b0:=z0 c2
 have c2b1:decide (a0.size<14)=false:=z0 (by omega)
 clear c2
 by_cases c3:13<(a0.size:Int)
 case neg=>exact zno H c3
 rw[if_pos c3] at H
 have c3b0:=z1 c3
 have c3b1:decide (13<a0.size)=true:=z1 (by omega)
 clear c3
 by_cases c5:(bt a0 13)=45
 case neg=>
  rw[if_neg c5] at H
  obtain⟨c5b0,c5b1⟩:=zw c5
  obtain rfl:=zi H
  have p4:0≤(13:Int):=(by omega)
  have q4:13<a0.size:=(by have:(13:Int)<(a0.size:Int):=z2;omega)
  have hx4:∀h:13<a0.size,((a0[13]'h).toNat:Int)=bt a0 13:=bt_at a0 13
  clear p4
  have qi4:(13<(a0.size:Int))=True:=eq_true (z2)
  replace q4:=eq_true q4
  go_enter Tryz.func46,Tryz.ntmps46
  go_wp2
  go_ret
  exact⟨zr,by repeat(first|exact qE.refl _|apply qE.step)⟩
 rw[if_pos c5] at H
 obtain⟨c5b0,c5b1⟩:=zq c5
 clear c5
 by_cases c6:14≤(a0.size:Int)
 case neg=>exact zno H c6
 rw[if_pos c6] at H
 have c6b0:=eq_true c6
 have c6b1:=z1 c6
 clear c6
 replace H:=zf H
 obtain⟨t539,A70,H⟩:=H
 try dsimp only at H
 have A7:=zz A70
 clear A70
 by_cases c8:t539=true
 case neg=>
  replace c8:=Bool.eq_false_iff.mpr c8
  subst c8
  rw[if_neg (show¬(false=true) by decide)] at H
  obtain rfl:=zi H
  have p4:0≤(13:Int):=(by omega)
  have q4:13<a0.size:=(by have:(13:Int)<(a0.size:Int):=z2;omega)
  have hx4:∀h:13<a0.size,((a0[13]'h).toNat:Int)=bt a0 13:=bt_at a0 13
  clear p4
  have qi4:(13<(a0.size:Int))=True:=eq_true (z2)
  replace q4:=eq_true q4
  go_enter Tryz.func46,Tryz.ntmps46
  go_wp2_with(first|(go_at_call 45;(with_reducible refine(impl_NameOk.calls k (a0.extract 14 a0.size) false _ A7.out).mono ?_);rintro e w' ⟨rfl,⟨nd,rfl⟩⟩))
  go_ret
  exact⟨zr,by repeat(first|exact qE.refl _|apply qE.step)⟩
 subst c8
 rw[if_pos rfl] at H
 by_cases c9:0≤13
 case neg=>exact zno H c9
 rw[if_pos c9] at H
 have c9b0:=eq_true c9
 have c9b1:=z1 c9
 clear c9
 by_cases c10:13≤(a0.size:Int)
 case neg=>exact zno H c10
 rw[if_pos c10] at H
 have c10b0:=eq_true c10
 have c10b1:=z1 c10
 clear c10
 replace H:=zf H
 obtain⟨⟨t540,t541⟩,A110,H⟩:=H
 try dsimp only at H
 have A11:=zz A110
 clear A110
 obtain rfl:=zi H
 have p4:0≤(13:Int):=(by omega)
 have q4:13<a0.size:=(by have:(13:Int)<(a0.size:Int):=z2;omega)
 have hx4:∀h:13<a0.size,((a0[13]'h).toNat:Int)=bt a0 13:=bt_at a0 13
 clear p4
 have qi4:(13<(a0.size:Int))=True:=eq_true (z2)
 replace q4:=eq_true q4
 go_enter Tryz.func46,Tryz.ntmps46
 go_wp2_with(first|(go_at_call 45;(with_reducible refine(impl_NameOk.calls k (a0.extract 14 a0.size) true _ A7.out).mono ?_);rintro e w' ⟨rfl,⟨nd,rfl⟩⟩)|(refine zL 95 22 Tryz.func95 #[.string (a0.extract 0 13)] ?_;(with_reducible refine(impl_ReadWord32.calls k (a0.extract 0 13) t540 t541 _ A11.out).mono ?_);rintro e w' ⟨rfl,⟨nd,rfl⟩⟩;refine⟨_,rfl,?_⟩))
 go_ret
 exact⟨zr,by repeat(first|exact qE.refl _|apply qE.step)⟩
def spec_l1Letter.f(a0:Int):Option (Bool):=if a0≥97 then(if a0≤122 then(some true) else(if a0≥65 then(some (decide (a0≤90))) else(some false))) else(if a0≥65 then(some (decide (a0≤90))) else(some false))
theorem spec_l1Letter.calls(a0:Int)(r:Bool)(w:World)(h:spec_l1Letter.f a0=some r):
 Calls Tryz.prog 82 #[.int .u8 a0] w fun e w'=>e= .returned (.bool r)∧qE w w':=by
 unfold spec_l1Letter.f at h
 have H:=h
 clear h
 by_cases c2:a0≥97
 ·rw[if_pos c2] at H
  have c2b0:=zge c2
  clear c2
  by_cases c3:a0≤122
  ·rw[if_pos c3] at H
   have c3b0:=z1 c3
   clear c3
   obtain rfl:=zi H
   go_enter Tryz.func82,Tryz.ntmps82
   go_wp2
   go_ret
   exact⟨zr,by repeat(first|exact qE.refl _|apply qE.step)⟩
  rw[if_neg c3] at H
  have c3b0:=z0 c3
  clear c3
  by_cases c4:a0≥65
  ·rw[if_pos c4] at H
   have c4b0:=zge c4
   clear c4
   obtain rfl:=zi H
   go_enter Tryz.func82,Tryz.ntmps82
   go_wp2
   go_ret
   exact⟨zr,by repeat(first|exact qE.refl _|apply qE.step)⟩
  rw[if_neg c4] at H
  have c4b0:=zgen c4
  clear c4
  obtain rfl:=zi H
  go_enter Tryz.func82,Tryz.ntmps82
  go_wp2
  go_ret
  exact⟨zr,by repeat(first|exact qE.refl _|apply qE.step)⟩
 rw[if_neg c2] at H
 have c2b0:=zgen c2
 clear c2
 by_cases c5:a0≥65
 ·rw[if_pos c5] at H
  have c5b0:=zge c5
  clear c5
  obtain rfl:=zi H
  go_enter Tryz.func82,Tryz.ntmps82
  go_wp2
  go_ret
  exact⟨zr,by repeat(first|exact qE.refl _|apply qE.step)⟩
 rw[if_neg c5] at H
 have c5b0:=zgen c5
 clear c5
 obtain rfl:=zi H
 go_enter Tryz.func82,Tryz.ntmps82
 go_wp2
 go_ret
 exact⟨zr,by repeat(first|exact qE.refl _|apply qE.step)⟩
def spec_l1Digit.f(a0:Int):Option (Bool):=if a0≥48 then(some (decide (a0≤57))) else(some false)
theorem spec_l1Digit.calls(a0:Int)(r:Bool)(w:World)(h:spec_l1Digit.f a0=some r):
 Calls Tryz.prog 83 #[.int .u8 a0] w fun e w'=>e= .returned (.bool r)∧qE w w':=by
 unfold spec_l1Digit.f at h
 have H:=h
 clear h
 by_cases c2:a0≥48
 ·rw[if_pos c2] at H
  have c2b0:=zge c2
  clear c2
  obtain rfl:=zi H
  go_enter Tryz.func83,Tryz.ntmps83
  go_wp2
  go_ret
  exact⟨zr,by repeat(first|exact qE.refl _|apply qE.step)⟩
 rw[if_neg c2] at H
 have c2b0:=zgen c2
 clear c2
 obtain rfl:=zi H
 go_enter Tryz.func83,Tryz.ntmps83
 go_wp2
 go_ret
 exact⟨zr,by repeat(first|exact qE.refl _|apply qE.step)⟩
mutual
def spec_NameOk.j0:Nat→ByteArray→Bool→Option (Bool)
 |0,_,_=>none
 |k+1,x0,x17=>if x17=true then(some false) else(spec_NameOk.l0 k x0 0)
def spec_NameOk.l0:Nat→ByteArray→Int→Option (Bool)
 |0,_,_=>none
 |k+1,x0,x3=>if x3<(x0.size:Int) then(if 0≤x3 then((spec_l1Letter.f (bt x0 x3)).bind fun t285=>(if t285=true then(spec_NameOk.l0 k x0 (wrap64 (x3+1))) else((spec_l1Digit.f (bt x0 x3)).bind fun t286=>(if t286=true then(spec_NameOk.l0 k x0 (wrap64 (x3+1))) else(if(bt x0 x3)=45 then(spec_NameOk.l0 k x0 (wrap64 (x3+1))) else(if(bt x0 x3)=95 then(spec_NameOk.l0 k x0 (wrap64 (x3+1))) else(if(bt x0 x3)=46 then(spec_NameOk.l0 k x0 (wrap64 (x3+1))) else(if(bt x0 x3)=43 then(spec_NameOk.l0 k x0 (wrap64 (x3+1))) else(some false))))))))) else(none)) else(some true)
end
def spec_NameOk.f(k:Nat)(a0:ByteArray):Option (Bool):=if(a0.size:Int)<1 then(spec_NameOk.j0 k a0 true) else(if(a0.size:Int)>60 then(spec_NameOk.j0 k a0 true) else(if 0<(a0.size:Int) then(spec_NameOk.j0 k a0 ((bt a0 0)==46)) else(none)))
theorem spec_NameOk.calls(k:Nat)(a0:ByteArray)(r:Bool)(w:World)(h:spec_NameOk.f k a0=some r):
 Calls Tryz.prog 35 #[.string a0] w fun e w'=>e= .returned (.bool r)∧qE w w':=by
 unfold spec_NameOk.f at h
 have H:=h
 clear h
 have HC2:=zz H
 clear H
 go_enter Tryz.func35,Tryz.ntmps35
 go_upto_region 1 with(fail)
 go_cut [17] (fun v17 wc=>∃(kq:Nat) (x17_1:Bool),v17= .bool x17_1∧qB (spec_NameOk.j0 kq a0 x17_1=some r)∧qB (kq≤k)∧qE w wc)
 case first=>
  have H:=HC2.out
  clear HC2
  by_cases c3:(a0.size:Int)<1
  ·rw[if_pos c3] at H
   have c3b0:=z1 c3
   have c3b1:decide (a0.size<1)=true:=z1 (by omega)
   clear c3
   (first|rw[c3b0]|(simp only[i64_w,i32_w];rw[c3b0])|skip)
   have H':=zz H
   clear H
   go_wp2
   go_meet
   case rel=>exact⟨_,(true),zr,H',⟨by first|omega|exact Nat.le_refl _⟩,by repeat(first|exact qE.refl _|apply qE.step)⟩
  ·rw[if_neg c3] at H
   have c3b0:=z0 c3
   have c3b1:decide (a0.size<1)=false:=z0 (by omega)
   clear c3
   (first|rw[c3b0]|(simp only[i64_w,i32_w];rw[c3b0])|skip)
   by_cases c4:(a0.size:Int)>60
   ·rw[if_pos c4] at H
    have c4b0:=zgt c4
    have c4b1:decide (60<a0.size)=true:=z1 (by omega)
    clear c4
    have H':=zz H
    clear H
    go_wp2
    go_meet
    case rel=>exact⟨_,(true),zr,H',⟨by first|omega|exact Nat.le_refl _⟩,by repeat(first|exact qE.refl _|apply qE.step)⟩
   ·rw[if_neg c4] at H
    have c4b0:=zgtn c4
    have c4b1:decide (60<a0.size)=false:=z0 (by omega)
    clear c4
    by_cases c5:0<(a0.size:Int)
    ·rw[if_pos c5] at H
     have c5b0:=z1 c5
     have c5b1:decide (0<a0.size)=true:=z1 (by omega)
     clear c5
     have H':=zz H
     clear H
     have p6:0≤(0:Int):=(by omega)
     have q6:0<a0.size:=(by have:(0:Int)<(a0.size:Int):=z2;omega)
     have hx6:∀h:0<a0.size,((a0[0]'h).toNat:Int)=bt a0 0:=bt_at a0 0
     clear p6
     have qi6:(0<(a0.size:Int))=True:=eq_true (z2)
     replace q6:=eq_true q6
     go_wp2
     go_meet
     case rel=>exact⟨_,(((bt a0 0)==46)),zr,H',⟨by first|omega|exact Nat.le_refl _⟩,by repeat(first|exact qE.refl _|apply qE.step)⟩
    ·rw[if_neg c5] at H
     exact absurd H (by simp)
 case rest=>
  clear HC2
  try clear p2
  try clear c3
  try clear c3b0
  try clear c3b1
  try clear c4
  try clear c4b0
  try clear c4b1
  try clear c5
  try clear c5b0
  try clear c5b1
  try clear p6
  try clear q6
  try clear hx6
  try clear qi6
  try clear p6
  try clear q6
  obtain⟨kq,x17_1,rfl,HA,HJ1,⟨mc1,rfl⟩⟩:=hcut
  cases kq with
  |zero=>exact absurd HA.out (by simp[spec_NameOk.j0])
  |succ kj1=>
   have H:=HA.out
   clear HA
   simp only[spec_NameOk.j0] at H
   by_cases c7:x17_1=true
   ·subst c7
    rw[if_pos rfl] at H
    obtain rfl:=zi H
    go_wp2
    go_ret
    exact⟨zr,by repeat(first|exact qE.refl _|apply qE.step)⟩
   replace c7:=Bool.eq_false_iff.mpr c7
   subst c7
   rw[if_neg (show¬(false=true) by decide)] at H
   have H':=zz H
   clear H
   go_wp2
   go_loopg[3] kj1 (fun kq v3 w'=>∃(x3_2:Int),v3= .int .i64 x3_2∧qB (spec_NameOk.l0 kq a0 x3_2=some r)∧qB (kq≤kj1)∧qE w w')
   case atStart=>exact⟨(0),zr,H',⟨Nat.le_refl _⟩,by repeat(first|exact qE.refl _|apply qE.step)⟩
   case round=>
    clear H'
    try clear c1
    try clear p2
    try clear c3
    try clear c3b0
    try clear c3b1
    try clear c4
    try clear c4b0
    try clear c4b1
    try clear c5
    try clear c5b0
    try clear c5b1
    try clear p6
    try clear q6
    try clear hx6
    try clear qi6
    try clear c7
    try clear p2
    try clear p6
    try clear q6
    obtain⟨x3_2,rfl,HA,HK2,⟨m2,rfl⟩⟩:=hrel
    cases gk with
    |zero=>exact absurd HA.out (by simp[spec_NameOk.l0])
    |succ k2=>
     have H:=HA.out
     clear HA
     simp only[spec_NameOk.l0] at H
     by_cases c8:x3_2<(a0.size:Int)
     case neg=>
      rw[if_neg c8] at H
      have c8b0:=z0 c8
      clear c8
      obtain rfl:=zi H
      go_wp2
      go_ret
      exact⟨zr,by repeat(first|exact qE.refl _|apply qE.step)⟩
     rw[if_pos c8] at H
     have c8b0:=z1 c8
     clear c8
     by_cases c9:0≤x3_2
     case neg=>exact zno H c9
     rw[if_pos c9] at H
     have c9b0:=z1 c9
     clear c9
     replace H:=zf H
     obtain⟨t285,A110,H⟩:=H
     try dsimp only at H
     have A11:=zz A110
     clear A110
     by_cases c12:t285=true
     ·subst c12
      rw[if_pos rfl] at H
      have H':=zz H
      clear H
      have p10:0≤(x3_2:Int):=z2
      have q10:x3_2<(a0.size:Int):=z2
      have hx10:=bt_at a0 x3_2
      replace p10:=eq_true p10
      replace q10:=eq_true q10
      go_wp2_with(first|(refine zL 82 28 Tryz.func82 #[.int .u8 (bt a0 x3_2)] ?_;(with_reducible refine(spec_l1Letter.calls (bt a0 x3_2) true _ A11.out).mono ?_);rintro e w' ⟨rfl,⟨nd,rfl⟩⟩;refine⟨_,rfl,?_⟩))
      go_roundg k2
      case measure=>have:=HJ1.out;have:=HK2.out;omega
      case rel=>exact⟨(wrap64 (x3_2+1)),zr,H',⟨by have:=HJ1.out;have:=HK2.out;omega⟩,by repeat(first|exact qE.refl _|apply qE.step)⟩
     replace c12:=Bool.eq_false_iff.mpr c12
     subst c12
     rw[if_neg (show¬(false=true) by decide)] at H
     replace H:=zf H
     obtain⟨t286,A130,H⟩:=H
     try dsimp only at H
     have A13:=zz A130
     clear A130
     by_cases c14:t286=true
     ·subst c14
      rw[if_pos rfl] at H
      have H':=zz H
      clear H
      have p10:0≤(x3_2:Int):=z2
      have q10:x3_2<(a0.size:Int):=z2
      have hx10:=bt_at a0 x3_2
      replace p10:=eq_true p10
      replace q10:=eq_true q10
      go_wp2_with(first|(refine zL 82 28 Tryz.func82 #[.int .u8 (bt a0 x3_2)] ?_;(with_reducible refine(spec_l1Letter.calls (bt a0 x3_2) false _ A11.out).mono ?_);rintro e w' ⟨rfl,⟨nd,rfl⟩⟩;refine⟨_,rfl,?_⟩)|(go_at_call 83;(with_reducible refine(spec_l1Digit.calls (bt a0 x3_2) true _ A13.out).mono ?_);rintro e w' ⟨rfl,⟨nd,rfl⟩⟩))
      go_roundg k2
      case measure=>have:=HJ1.out;have:=HK2.out;omega
      case rel=>exact⟨(wrap64 (x3_2+1)),zr,H',⟨by have:=HJ1.out;have:=HK2.out;omega⟩,by repeat(first|exact qE.refl _|apply qE.step)⟩
     replace c14:=Bool.eq_false_iff.mpr c14
     subst c14
     rw[if_neg (show¬(false=true) by decide)] at H
     by_cases c15:(bt a0 x3_2)=45
     ·rw[if_pos c15] at H
      obtain⟨c15b0,c15b1⟩:=zq c15
      clear c15
      have H':=zz H
      clear H
      have p10:0≤(x3_2:Int):=z2
      have q10:x3_2<(a0.size:Int):=z2
      have hx10:=bt_at a0 x3_2
      replace p10:=eq_true p10
      replace q10:=eq_true q10
      go_wp2_with(first|(refine zL 82 28 Tryz.func82 #[.int .u8 (bt a0 x3_2)] ?_;(with_reducible refine(spec_l1Letter.calls (bt a0 x3_2) false _ A11.out).mono ?_);rintro e w' ⟨rfl,⟨nd,rfl⟩⟩;refine⟨_,rfl,?_⟩)|(go_at_call 83;(with_reducible refine(spec_l1Digit.calls (bt a0 x3_2) false _ A13.out).mono ?_);rintro e w' ⟨rfl,⟨nd,rfl⟩⟩))
      go_roundg k2
      case measure=>have:=HJ1.out;have:=HK2.out;omega
      case rel=>exact⟨(wrap64 (x3_2+1)),zr,H',⟨by have:=HJ1.out;have:=HK2.out;omega⟩,by repeat(first|exact qE.refl _|apply qE.step)⟩
     rw[if_neg c15] at H
     obtain⟨c15b0,c15b1⟩:=zw c15
     by_cases c16:(bt a0 x3_2)=95
     ·rw[if_pos c16] at H
      obtain⟨c16b0,c16b1⟩:=zq c16
      clear c16
      have H':=zz H
      clear H
      have p10:0≤(x3_2:Int):=z2
      have q10:x3_2<(a0.size:Int):=z2
      have hx10:=bt_at a0 x3_2
      replace p10:=eq_true p10
      replace q10:=eq_true q10
      go_wp2_with(first|(refine zL 82 28 Tryz.func82 #[.int .u8 (bt a0 x3_2)] ?_;(with_reducible refine(spec_l1Letter.calls (bt a0 x3_2) false _ A11.out).mono ?_);rintro e w' ⟨rfl,⟨nd,rfl⟩⟩;refine⟨_,rfl,?_⟩)|(go_at_call 83;(with_reducible refine(spec_l1Digit.calls (bt a0 x3_2) false _ A13.out).mono ?_);rintro e w' ⟨rfl,⟨nd,rfl⟩⟩))
      go_roundg k2
      case measure=>have:=HJ1.out;have:=HK2.out;omega
      case rel=>exact⟨(wrap64 (x3_2+1)),zr,H',⟨by have:=HJ1.out;have:=HK2.out;omega⟩,by repeat(first|exact qE.refl _|apply qE.step)⟩
     rw[if_neg c16] at H
     obtain⟨c16b0,c16b1⟩:=zw c16
     by_cases c17:(bt a0 x3_2)=46
     ·rw[if_pos c17] at H
      obtain⟨c17b0,c17b1⟩:=zq c17
      clear c17
      have H':=zz H
      clear H
      have p10:0≤(x3_2:Int):=z2
      have q10:x3_2<(a0.size:Int):=z2
      have hx10:=bt_at a0 x3_2
      replace p10:=eq_true p10
      replace q10:=eq_true q10
      go_wp2_with(first|(refine zL 82 28 Tryz.func82 #[.int .u8 (bt a0 x3_2)] ?_;(with_reducible refine(spec_l1Letter.calls (bt a0 x3_2) false _ A11.out).mono ?_);rintro e w' ⟨rfl,⟨nd,rfl⟩⟩;refine⟨_,rfl,?_⟩)|(go_at_call 83;(with_reducible refine(spec_l1Digit.calls (bt a0 x3_2) false _ A13.out).mono ?_);rintro e w' ⟨rfl,⟨nd,rfl⟩⟩))
      go_roundg k2
      case measure=>have:=HJ1.out;have:=HK2.out;omega
      case rel=>exact⟨(wrap64 (x3_2+1)),zr,H',⟨by have:=HJ1.out;have:=HK2.out;omega⟩,by repeat(first|exact qE.refl _|apply qE.step)⟩
     rw[if_neg c17] at H
     obtain⟨c17b0,c17b1⟩:=zw c17
     by_cases c18:(bt a0 x3_2)=43
     case neg=>
      rw[if_neg c18] at H
      obtain⟨c18b0,c18b1⟩:=zw c18
      obtain rfl:=zi H
      have p10:0≤(x3_2:Int):=z2
      have q10:x3_2<(a0.size:Int):=z2
      have hx10:=bt_at a0 x3_2
      replace p10:=eq_true p10
      replace q10:=eq_true q10
      go_wp2_with(first|(refine zL 82 28 Tryz.func82 #[.int .u8 (bt a0 x3_2)] ?_;(with_reducible refine(spec_l1Letter.calls (bt a0 x3_2) false _ A11.out).mono ?_);rintro e w' ⟨rfl,⟨nd,rfl⟩⟩;refine⟨_,rfl,?_⟩)|(go_at_call 83;(with_reducible refine(spec_l1Digit.calls (bt a0 x3_2) false _ A13.out).mono ?_);rintro e w' ⟨rfl,⟨nd,rfl⟩⟩))
      go_ret
      exact⟨zr,by repeat(first|exact qE.refl _|apply qE.step)⟩
     rw[if_pos c18] at H
     obtain⟨c18b0,c18b1⟩:=zq c18
     clear c18
     have H':=zz H
     clear H
     have p10:0≤(x3_2:Int):=z2
     have q10:x3_2<(a0.size:Int):=z2
     have hx10:=bt_at a0 x3_2
     replace p10:=eq_true p10
     replace q10:=eq_true q10
     go_wp2_with(first|(refine zL 82 28 Tryz.func82 #[.int .u8 (bt a0 x3_2)] ?_;(with_reducible refine(spec_l1Letter.calls (bt a0 x3_2) false _ A11.out).mono ?_);rintro e w' ⟨rfl,⟨nd,rfl⟩⟩;refine⟨_,rfl,?_⟩)|(go_at_call 83;(with_reducible refine(spec_l1Digit.calls (bt a0 x3_2) false _ A13.out).mono ?_);rintro e w' ⟨rfl,⟨nd,rfl⟩⟩))
     go_roundg k2
     case measure=>have:=HJ1.out;have:=HK2.out;omega
     case rel=>exact⟨(wrap64 (x3_2+1)),zr,H',⟨by have:=HJ1.out;have:=HK2.out;omega⟩,by repeat(first|exact qE.refl _|apply qE.step)⟩
def spec_l1Index.l0:Nat→Int→Int→Option (Int)
 |0,_,_=>none
 |k+1,x0,x3=>if x3<32 then(if 0≤x3 then(if(bt (⟨#[48,49,50,51,52,53,54,55,56,57,97,98,99,100,102,103,104,105,106,107,108,109,110,112,113,114,115,118,119,120,121,122]⟩:ByteArray) x3)=x0 then(some x3) else(spec_l1Index.l0 k x0 (wrap64 (x3+1)))) else(none)) else(some (-1))
def spec_l1Index.f(k:Nat)(a0:Int):Option (Int):=spec_l1Index.l0 k a0 0
theorem spec_l1Index.mono_l:∀k,(∀y0 y1,LeO (spec_l1Index.l0 k y0 y1) (spec_l1Index.l0 (k+1) y0 y1))
 |0=>fun _ _ r h=>by simp[spec_l1Index.l0] at h
 |k+1=>by
  have ih0:=spec_l1Index.mono_l k
  ·intro y0 y1
   unfold spec_l1Index.l0
   exact zM
theorem spec_l1Index.mono:∀a0 k,LeO (spec_l1Index.f k a0) (spec_l1Index.f (k+1) a0):=by
 intro a0 k
 have ih0:=spec_l1Index.mono_l k
 unfold spec_l1Index.f
 exact zM
theorem spec_l1Index.calls(k:Nat)(a0:Int)(r:Int)(w:World)(h:spec_l1Index.f k a0=some r):
 Calls Tryz.prog 122 #[.int .u8 a0] w fun e w'=>e= .returned (.int .i64 r)∧qE w w':=by
 unfold spec_l1Index.f at h
 have H:=h
 clear h
 have H':=zz H
 clear H
 go_enter Tryz.func122,Tryz.ntmps122
 go_wp2
 go_loopg[3] k (fun kq v3 w'=>∃(x3_1:Int),v3= .int .i64 x3_1∧qB (spec_l1Index.l0 kq a0 x3_1=some r)∧qB (kq≤k)∧qE w w')
 case atStart=>exact⟨(0),zr,H',⟨Nat.le_refl _⟩,by repeat(first|exact qE.refl _|apply qE.step)⟩
 case round=>
  clear H'
  try clear c1
  obtain⟨x3_1,rfl,HA,HK1,⟨m1,rfl⟩⟩:=hrel
  cases gk with
  |zero=>exact absurd HA.out (by simp[spec_l1Index.l0])
  |succ k1=>
   have H:=HA.out
   clear HA
   simp only[spec_l1Index.l0] at H
   by_cases c2:x3_1<32
   case neg=>
    rw[if_neg c2] at H
    have c2b0:=z0 c2
    clear c2
    obtain rfl:=zi H
    go_wp2
    go_ret
    exact⟨zr,by repeat(first|exact qE.refl _|apply qE.step)⟩
   rw[if_pos c2] at H
   have c2b0:=z1 c2
   clear c2
   by_cases c3:0≤x3_1
   case neg=>exact zno H c3
   rw[if_pos c3] at H
   have c3b0:=z1 c3
   clear c3
   by_cases c5:(bt (⟨#[48,49,50,51,52,53,54,55,56,57,97,98,99,100,102,103,104,105,106,107,108,109,110,112,113,114,115,118,119,120,121,122]⟩:ByteArray) x3_1)=a0
   ·rw[if_pos c5] at H
    obtain⟨c5b0,c5b1⟩:=zq c5
    clear c5
    obtain rfl:=zi H
    have p4:0≤(x3_1:Int):=z2
    have q4:x3_1<(32:Int):=z2
    have hx4:=bt_at (⟨#[48,49,50,51,52,53,54,55,56,57,97,98,99,100,102,103,104,105,106,107,108,109,110,112,113,114,115,118,119,120,121,122]⟩:ByteArray) x3_1
    replace p4:=eq_true p4
    replace q4:=eq_true q4
    go_wp2
    go_ret
    exact⟨zr,by repeat(first|exact qE.refl _|apply qE.step)⟩
   rw[if_neg c5] at H
   obtain⟨c5b0,c5b1⟩:=zw c5
   have H':=zz H
   clear H
   have p4:0≤(x3_1:Int):=z2
   have q4:x3_1<(32:Int):=z2
   have hx4:=bt_at (⟨#[48,49,50,51,52,53,54,55,56,57,97,98,99,100,102,103,104,105,106,107,108,109,110,112,113,114,115,118,119,120,121,122]⟩:ByteArray) x3_1
   replace p4:=eq_true p4
   replace q4:=eq_true q4
   go_wp2
   go_roundg k1
   case measure=>have:=HK1.out;omega
   case rel=>exact⟨(wrap64 (x3_1+1)),zr,H',⟨by have:=HK1.out;omega⟩,by repeat(first|exact qE.refl _|apply qE.step)⟩
def spec_ReadWord32.l0:Nat→ByteArray→Int→Int→Option (Int×Bool)
 |0,_,_,_=>none
 |k+1,x0,x4,x5=>if x5<13 then(if 0≤x5 then(if x5<(x0.size:Int) then((spec_l1Index.f k (bt x0 x5)).bind fun t287=>(if t287<0 then(some (0,false)) else(if x5=0 then(if t287>15 then(some (0,false)) else(spec_ReadWord32.l0 k x0 (IntKind.u64.wrap ((IntKind.u64.wrap (x4*32))+(IntKind.u64.wrap (t287)))) (wrap64 (x5+1)))) else(spec_ReadWord32.l0 k x0 (IntKind.u64.wrap ((IntKind.u64.wrap (x4*32))+(IntKind.u64.wrap (t287)))) (wrap64 (x5+1)))))) else(none)) else(none)) else(some (x4,true))
def spec_ReadWord32.f(k:Nat)(a0:ByteArray):Option (Int×Bool):=if(a0.size:Int)=13 then(spec_ReadWord32.l0 k a0 0 0) else(some (0,false))
theorem spec_ReadWord32.calls(k:Nat)(a0:ByteArray)(r1:Int)(r2:Bool)(w:World)(h:spec_ReadWord32.f k a0=some (r1,r2)):
 Calls Tryz.prog 84 #[.string a0] w fun e w'=>e= .returned (.tuple #[.int .u64 r1,.bool r2])∧qE w w':=by
 unfold spec_ReadWord32.f at h
 have H:=h
 clear h
 by_cases c2:(a0.size:Int)=13
 case neg=>
  rw[if_neg c2] at H
  obtain⟨c2b0,c2b1⟩:=zw c2
  simp only[Option.some.injEq,Prod.mk.injEq] at H
  obtain⟨rfl,rfl⟩:=H
  go_enter Tryz.func84,Tryz.ntmps84
  go_wp2
  go_ret2
  exact⟨zr,by repeat(first|exact qE.refl _|apply qE.step)⟩
 rw[if_pos c2] at H
 obtain⟨c2b0,c2b1⟩:=zq c2
 clear c2
 have H':=zz H
 clear H
 go_enter Tryz.func84,Tryz.ntmps84
 go_wp2
 go_loopg[4,5] k (fun kq v4 v5 w'=>∃(x4_1:Int) (x5_1:Int),v4= .int .u64 x4_1∧v5= .int .i64 x5_1∧qB (spec_ReadWord32.l0 kq a0 x4_1 x5_1=some (r1,r2))∧qB (kq≤k)∧qE w w')
 case atStart=>exact⟨(0),(0),zr,zr,H',⟨Nat.le_refl _⟩,by repeat(first|exact qE.refl _|apply qE.step)⟩
 case round=>
  clear H'
  try clear c2
  try clear c2b0
  try clear c2b1
  try clear p2
  obtain⟨x4_1,x5_1,rfl,rfl,HA,HK1,⟨m1,rfl⟩⟩:=hrel
  cases gk with
  |zero=>exact absurd HA.out (by simp[spec_ReadWord32.l0])
  |succ k1=>
   have H:=HA.out
   clear HA
   simp only[spec_ReadWord32.l0] at H
   by_cases c3:x5_1<13
   case neg=>
    rw[if_neg c3] at H
    have c3b0:=z0 c3
    clear c3
    simp only[Option.some.injEq,Prod.mk.injEq] at H
    obtain⟨rfl,rfl⟩:=H
    go_wp2
    go_ret2
    exact⟨zr,by repeat(first|exact qE.refl _|apply qE.step)⟩
   rw[if_pos c3] at H
   have c3b0:=z1 c3
   clear c3
   by_cases c4:0≤x5_1
   case neg=>exact zno H c4
   rw[if_pos c4] at H
   have c4b0:=z1 c4
   clear c4
   by_cases c5:x5_1<(a0.size:Int)
   case neg=>exact zno H c5
   rw[if_pos c5] at H
   have c5b0:=z1 c5
   clear c5
   replace H:=zf H
   obtain⟨t287,A70,H⟩:=H
   try dsimp only at H
   have A7:=zz A70
   clear A70
   by_cases c8:t287<0
   ·rw[if_pos c8] at H
    have c8b0:=z1 c8
    clear c8
    simp only[Option.some.injEq,Prod.mk.injEq] at H
    obtain⟨rfl,rfl⟩:=H
    have p6:0≤(x5_1:Int):=z2
    have q6:x5_1<(a0.size:Int):=z2
    have hx6:=bt_at a0 x5_1
    replace p6:=eq_true p6
    replace q6:=eq_true q6
    go_wp2_with(first|(refine zL 122 17 Tryz.func122 #[.int .u8 (bt a0 x5_1)] ?_;(with_reducible refine(spec_l1Index.calls k1 (bt a0 x5_1) t287 _ A7.out).mono ?_);rintro e w' ⟨rfl,⟨nd,rfl⟩⟩;refine⟨_,rfl,?_⟩))
    go_ret2
    exact⟨zr,by repeat(first|exact qE.refl _|apply qE.step)⟩
   rw[if_neg c8] at H
   have c8b0:=z0 c8
   clear c8
   by_cases c9:x5_1=0
   case neg=>
    rw[if_neg c9] at H
    obtain⟨c9b0,c9b1⟩:=zw c9
    have H':=zz H
    clear H
    have p6:0≤(x5_1:Int):=z2
    have q6:x5_1<(a0.size:Int):=z2
    have hx6:=bt_at a0 x5_1
    replace p6:=eq_true p6
    replace q6:=eq_true q6
    go_wp2_with(first|(refine zL 122 17 Tryz.func122 #[.int .u8 (bt a0 x5_1)] ?_;(with_reducible refine(spec_l1Index.calls k1 (bt a0 x5_1) t287 _ A7.out).mono ?_);rintro e w' ⟨rfl,⟨nd,rfl⟩⟩;refine⟨_,rfl,?_⟩))
    go_roundg k1
    case measure=>have:=HK1.out;omega
    case rel=>exact⟨(IntKind.u64.wrap ((IntKind.u64.wrap (x4_1*32))+(IntKind.u64.wrap (t287)))),(wrap64 (x5_1+1)),zr,zr,H',⟨by have:=HK1.out;omega⟩,by repeat(first|exact qE.refl _|apply qE.step)⟩
   rw[if_pos c9] at H
   obtain⟨c9b0,c9b1⟩:=zq c9
   clear c9
   by_cases c10:t287>15
   ·rw[if_pos c10] at H
    have c10b0:=zgt c10
    clear c10
    simp only[Option.some.injEq,Prod.mk.injEq] at H
    obtain⟨rfl,rfl⟩:=H
    have p6:0≤(x5_1:Int):=z2
    have q6:x5_1<(a0.size:Int):=z2
    have hx6:=bt_at a0 x5_1
    replace p6:=eq_true p6
    replace q6:=eq_true q6
    go_wp2_with(first|(refine zL 122 17 Tryz.func122 #[.int .u8 (bt a0 x5_1)] ?_;(with_reducible refine(spec_l1Index.calls k1 (bt a0 x5_1) t287 _ A7.out).mono ?_);rintro e w' ⟨rfl,⟨nd,rfl⟩⟩;refine⟨_,rfl,?_⟩))
    go_ret2
    exact⟨zr,by repeat(first|exact qE.refl _|apply qE.step)⟩
   rw[if_neg c10] at H
   have c10b0:=zgtn c10
   clear c10
   have H':=zz H
   clear H
   have p6:0≤(x5_1:Int):=z2
   have q6:x5_1<(a0.size:Int):=z2
   have hx6:=bt_at a0 x5_1
   replace p6:=eq_true p6
   replace q6:=eq_true q6
   go_wp2_with(first|(refine zL 122 17 Tryz.func122 #[.int .u8 (bt a0 x5_1)] ?_;(with_reducible refine(spec_l1Index.calls k1 (bt a0 x5_1) t287 _ A7.out).mono ?_);rintro e w' ⟨rfl,⟨nd,rfl⟩⟩;refine⟨_,rfl,?_⟩))
   go_roundg k1
   case measure=>have:=HK1.out;omega
   case rel=>exact⟨(IntKind.u64.wrap ((IntKind.u64.wrap (x4_1*32))+(IntKind.u64.wrap (t287)))),(wrap64 (x5_1+1)),zr,zr,H',⟨by have:=HK1.out;omega⟩,by repeat(first|exact qE.refl _|apply qE.step)⟩
def spec_AddressOk.j0:Nat→ByteArray→Bool→Option (Bool)
 |0,_,_=>none
 |k+1,x0,x12=>if x12=true then(some false) else(if 0≤13 then(if 13≤(x0.size:Int) then((spec_ReadWord32.f k (x0.extract 0 13)).bind fun bt288=>(if bt288.2=true then(if 14≤(x0.size:Int) then((spec_NameOk.f k (x0.extract 14 x0.size)).bind fun t290=>(some t290)) else(none)) else(some false))) else(none)) else(none))
def spec_AddressOk.f(k:Nat)(a0:ByteArray):Option (Bool):=if(a0.size:Int)<15 then(spec_AddressOk.j0 k a0 true) else(if 13<(a0.size:Int) then(spec_AddressOk.j0 k a0 ((bt a0 13) !=45)) else(none))
theorem spec_AddressOk.calls(k:Nat)(a0:ByteArray)(r:Bool)(w:World)(h:spec_AddressOk.f k a0=some r):
 Calls Tryz.prog 36 #[.string a0] w fun e w'=>e= .returned (.bool r)∧qE w w':=by
 unfold spec_AddressOk.f at h
 have H:=h
 clear h
 have HC2:=zz H
 clear H
 go_enter Tryz.func36,Tryz.ntmps36
 go_upto_region 1 with(fail)
 go_cut [12] (fun v12 wc=>∃(kq:Nat) (x12_1:Bool),v12= .bool x12_1∧qB (spec_AddressOk.j0 kq a0 x12_1=some r)∧qB (kq≤k)∧qE w wc)
 case first=>
  have H:=HC2.out
  clear HC2
  by_cases c3:(a0.size:Int)<15
  ·rw[if_pos c3] at H
   have c3b0:=z1 c3
   have c3b1:decide (a0.size<15)=true:=z1 (by omega)
   clear c3
   (first|rw[c3b0]|(simp only[i64_w,i32_w];rw[c3b0])|skip)
   have H':=zz H
   clear H
   go_wp2
   go_meet
   case rel=>exact⟨_,(true),zr,H',⟨by first|omega|exact Nat.le_refl _⟩,by repeat(first|exact qE.refl _|apply qE.step)⟩
  ·rw[if_neg c3] at H
   have c3b0:=z0 c3
   have c3b1:decide (a0.size<15)=false:=z0 (by omega)
   clear c3
   (first|rw[c3b0]|(simp only[i64_w,i32_w];rw[c3b0])|skip)
   by_cases c4:13<(a0.size:Int)
   ·rw[if_pos c4] at H
    have c4b0:=z1 c4
    have c4b1:decide (13<a0.size)=true:=z1 (by omega)
    clear c4
    have H':=zz H
    clear H
    have p5:0≤(13:Int):=(by omega)
    have q5:13<a0.size:=(by have:(13:Int)<(a0.size:Int):=z2;omega)
    have hx5:∀h:13<a0.size,((a0[13]'h).toNat:Int)=bt a0 13:=bt_at a0 13
    clear p5
    have qi5:(13<(a0.size:Int))=True:=eq_true (z2)
    replace q5:=eq_true q5
    go_wp2
    go_meet
    case rel=>exact⟨_,(((bt a0 13) !=45)),zr,H',⟨by first|omega|exact Nat.le_refl _⟩,by repeat(first|exact qE.refl _|apply qE.step)⟩
   ·rw[if_neg c4] at H
    exact absurd H (by simp)
 case rest=>
  clear HC2
  try clear p2
  try clear c3
  try clear c3b0
  try clear c3b1
  try clear c4
  try clear c4b0
  try clear c4b1
  try clear p5
  try clear q5
  try clear hx5
  try clear qi5
  try clear p5
  try clear q5
  obtain⟨kq,x12_1,rfl,HA,HJ1,⟨mc1,rfl⟩⟩:=hcut
  cases kq with
  |zero=>exact absurd HA.out (by simp[spec_AddressOk.j0])
  |succ kj1=>
   have H:=HA.out
   clear HA
   simp only[spec_AddressOk.j0] at H
   by_cases c6:x12_1=true
   ·subst c6
    rw[if_pos rfl] at H
    obtain rfl:=zi H
    go_wp2
    go_ret
    exact⟨zr,by repeat(first|exact qE.refl _|apply qE.step)⟩
   replace c6:=Bool.eq_false_iff.mpr c6
   subst c6
   rw[if_neg (show¬(false=true) by decide)] at H
   by_cases c7:0≤13
   case neg=>exact zno H c7
   rw[if_pos c7] at H
   have c7b0:=eq_true c7
   have c7b1:=z1 c7
   clear c7
   by_cases c8:13≤(a0.size:Int)
   case neg=>exact zno H c8
   rw[if_pos c8] at H
   have c8b0:=eq_true c8
   have c8b1:=z1 c8
   clear c8
   replace H:=zf H
   obtain⟨⟨t288,t289⟩,A90,H⟩:=H
   try dsimp only at H
   have A9:=zz A90
   clear A90
   by_cases c10:t289=true
   case neg=>
    replace c10:=Bool.eq_false_iff.mpr c10
    subst c10
    rw[if_neg (show¬(false=true) by decide)] at H
    obtain rfl:=zi H
    go_wp2_with(first|(refine zL 84 16 Tryz.func84 #[.string (a0.extract 0 13)] ?_;(with_reducible refine(spec_ReadWord32.calls kj1 (a0.extract 0 13) t288 false _ A9.out).mono ?_);rintro e w' ⟨rfl,⟨nd,rfl⟩⟩;refine⟨_,rfl,?_⟩))
    go_ret
    exact⟨zr,by repeat(first|exact qE.refl _|apply qE.step)⟩
   subst c10
   rw[if_pos rfl] at H
   by_cases c11:14≤(a0.size:Int)
   case neg=>exact zno H c11
   rw[if_pos c11] at H
   have c11b0:=eq_true c11
   have c11b1:=z1 c11
   clear c11
   replace H:=zf H
   obtain⟨t290,A120,H⟩:=H
   try dsimp only at H
   have A12:=zz A120
   clear A120
   obtain rfl:=zi H
   go_wp2_with(first|(refine zL 84 16 Tryz.func84 #[.string (a0.extract 0 13)] ?_;(with_reducible refine(spec_ReadWord32.calls kj1 (a0.extract 0 13) t288 true _ A9.out).mono ?_);rintro e w' ⟨rfl,⟨nd,rfl⟩⟩;refine⟨_,rfl,?_⟩)|(go_at_call 35;(with_reducible refine(spec_NameOk.calls kj1 (a0.extract 14 a0.size) t290 _ A12.out).mono ?_);rintro e w' ⟨rfl,⟨nd,rfl⟩⟩))
   go_ret
   exact⟨zr,by repeat(first|exact qE.refl _|apply qE.step)⟩
end Go.Proofs.YtcekmnclmldmmaaGreatDoor.Q
