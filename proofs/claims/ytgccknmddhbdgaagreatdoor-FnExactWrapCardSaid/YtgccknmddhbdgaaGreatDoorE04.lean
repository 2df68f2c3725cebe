import Derived.Test.YtgccknmddhbdgaaGreatDoorE03
import Derived.WalkMore
import Derived.Test.YtgccknmddhbdgaaGreatDoorE02
namespace Go.Proofs.YtgccknmddhbdgaaGreatDoor.Q
open Go.RowKit W1 W2 W3
attribute [local go_sem] max2_int min2_int max_two min_two max_three min_three max_four min_four
attribute [local go_sem high] bl_leq bl_gtr bl_geq
set_option maxHeartbeats 8000000
set_option maxRecDepth 100000
theorem utf8_latin(r:Int)(h0:128<=r)(h1:r<256):∃a b:UInt8,Utf8.encode r=⟨#[a,b]⟩/\128<=b.toNat:=by
 have hv:Utf8.valid r=true:=by unfold Utf8.valid;simp;omega
 unfold Utf8.encode;simp only[hv,if_true];rw[if_neg (by omega),if_pos (by omega)];refine⟨_,_,rfl,?_⟩;simp;omega
theorem strings_ValidRune_low(r:Int)(w:World)(h0:128<=r)(h1:r<256):Calls Tryz.prog 123 #[.int .i32 r] w fun e w'=>e= .returned (.bool true)/\w'=w:=by
 have h2:r<55296:=by omega
 have h3:0<=r:=by omega
 go_enter Tryz.func123,Tryz.ntmps123;go_wp2;go_ret;exact⟨rfl,rfl⟩
theorem strings_IndexRune_latin(r:Int)(w:World)(h0:128<=r)(h1:r<256):Calls Tryz.prog 108 #[.string (⟨#[45,95,46,43]⟩:ByteArray),.int .i32 r] w fun e w'=>e= .returned (.int .i64 (-1))/\vB w w':=by
 have c1:decide (0<=r)=true:=decide_eq_true (by omega);have c2:decide (r<128)=false:=decide_eq_false (by omega);have c3:(r==65533)=false:=beq_eq_false_iff_ne.mpr (by omega);obtain⟨a,b,he,hb⟩:=utf8_latin r h0 h1;have HE:=qB.mk he;have hb2:(95==(b.toNat:Int))=false:=beq_eq_false_iff_ne.mpr (by omega);have hb3:(b==95)=false:=beq_eq_false_iff_ne.mpr (by intro h;subst h;exact absurd hb (by decide));have hcv:∀w,(convert 21 9 (.int .i32 r)).run Tryz.prog w= .ok (.string (⟨#[a,b]⟩:ByteArray)) w:=by
  intro w;rw[<-he];simp[convert,go_sem,Tryz.underlying21,Tryz.underlying9,Conv.intToString]
 have hct:Conv.intToString r=pure (.string (⟨#[a,b]⟩:ByteArray)):=by unfold Conv.intToString;rw[he]
 have hix:Lib.indexByte (((⟨#[45,95,46,43]⟩:ByteArray).extract 2 4).data.toList) ((b.toNat:Int)).toNat.toUInt8= -1:=by
  have e1:((b.toNat:Int)).toNat.toUInt8=b:=by simp
  have e2:((⟨#[45,95,46,43]⟩:ByteArray).extract 2 4).data.toList=[46,43]:=by rfl
  have b1:b≠46:=by intro h;subst h;exact absurd hb (by decide)
  have b2:b≠43:=by intro h;subst h;exact absurd hb (by decide)
  rw[e1,e2];simp[Lib.indexByte,b1,b2,b1.symm,b2.symm]
 have HIX:∀W,Calls Tryz.prog 109 #[.string ((⟨#[45,95,46,43]⟩:ByteArray).extract 2 4),.int .u8 (b.toNat:Int)] W fun e w'=>e= .returned (.int .i64 (-1))/\w'=W:=fun W=>(Tryz.strings_IndexByte _ _ W).mono fun e w' ⟨he,hw⟩=>⟨by rw[he,hix],hw⟩
 replace HIX:=qB.mk HIX;clear he hix;go_enter Tryz.func108,Tryz.ntmps108
 go_wp2_with(first
  |(go_at_call 123;refine(strings_ValidRune_low r _ h0 h1).mono ?_;rintro e w' ⟨rfl,hw⟩;rw[hw]))
 refine wp_scope_straight ?_;go_wp2;repeat(go_quiet (fail);try go_wp2)
 go_loopg[9,10] 1 (fun kq v9 v10 w'=>v9= .int .i64 1/\v10= .int .i64 0/\w'=w)
 case atStart=>exact⟨rfl,rfl,rfl⟩
 case round=>
  obtain⟨rfl,rfl,rfl⟩:=hrel;have i1:∀h,(⟨#[45,95,46,43]⟩:ByteArray)[1]'h=95:=fun _=>rfl;have i2:∀h,(⟨#[a,b]⟩:ByteArray)[1]'h=b:=fun _=>rfl;go_wp2;try refine wp_scope_straight ?_
  go_wp2
  go_quiet (fail)
  go_wp2;have hw2:IntKind.i64.wrap 2=2:=by decide
  go_quiet ((go_at_call 109;refine(HIX.out _).mono ?_;rintro e w' ⟨rfl,hw⟩;subst hw;(first|exact⟨rfl,_,rfl⟩|exact⟨rfl,0,rfl⟩|exact⟨rfl,_,World.drewN_drewN _ _ _⟩|exact⟨rfl,_,Eq.trans (World.drewN_drewN _ _ _) (congrArg (World.drewN _) (Nat.add_assoc _ _ _))⟩)))
  go_wp2;rw[Exit.noGoto_ret];go_wp2;try rw[Exit.noGoto_ret]
  go_wp2;go_ret;exact⟨rfl,⟨_,rfl⟩⟩
theorem strings_ContainsRune_latin(r:Int)(w:World)(h0:128<=r)(h1:r<256):Calls Tryz.prog 90 #[.string (⟨#[45,95,46,43]⟩:ByteArray),.int .i32 r] w fun e w'=>e= .returned (.bool false)/\vB w w':=by
 go_enter Tryz.func90,Tryz.ntmps90;go_wp2_with(go_at_call 108;refine(strings_IndexRune_latin r _ h0 h1).mono ?_;rintro e w' ⟨rfl,⟨n,rfl⟩⟩)
 go_ret;exact⟨rfl,⟨_,rfl⟩⟩
def strings_ContainsRune.f(a0:ByteArray)(a1:Int):Option Bool:=if 0<=a1/\a1<128 then some (decide (0<=Lib.indexByte a0.data.toList a1.toNat.toUInt8)) else if 128<=a1/\a1<256/\a0=(⟨#[45,95,46,43]⟩:ByteArray) then some false else none
theorem strings_ContainsRune.calls(a0:ByteArray)(a1:Int)(r:Bool)(w:World)(h:strings_ContainsRune.f a0 a1=some r):
 Calls Tryz.prog 90 #[.string a0,.int .i32 a1] w fun e w'=>e= .returned (.bool r)/\vB w w':=by
 unfold strings_ContainsRune.f at h;split at h
 ·rename_i hc
  obtain rfl:=Option.some.inj h;exact(Tryz.strings_ContainsRune_ascii a0 a1 w hc.1 hc.2).mono fun e w' ⟨he,hw⟩=>⟨he,hw ▸ vB.refl w⟩
 ·split at h
  ·rename_i hc
   obtain⟨h0,h1,rfl⟩:=hc;obtain rfl:=Option.some.inj h;exact strings_ContainsRune_latin a1 w h0 h1
  ·exact absurd h (by simp)
def impl_letter.f(a0:Int):Option (Bool):=if a0>=97 then(if a0<=122 then(some true) else(if a0>=65 then(some (decide (a0<=90))) else(some false))) else(if a0>=65 then(some (decide (a0<=90))) else(some false))
theorem impl_letter.calls(a0:Int)(r:Bool)(w:World)(H:impl_letter.f a0=some r):
 Calls Tryz.prog 88 #[.int .u8 a0] w fun e w'=>e= .returned (.bool r)/\vB w w':=by
 unfold impl_letter.f at H;refine yE H ?_ ?_<;>clear H<;>intro aa H
 ·refine yD H ?_ ?_<;>clear H<;>intro ab H
  ·obtain rfl:=zi H;go_enter Tryz.func88,Tryz.ntmps88;exact yr
  refine yE H ?_ ?_<;>clear H<;>intro ac H
  ·obtain rfl:=zi H;go_enter Tryz.func88,Tryz.ntmps88;exact yr
  obtain rfl:=zi H;go_enter Tryz.func88,Tryz.ntmps88;exact yr
 refine yE H ?_ ?_<;>clear H<;>intro ad H
 ·obtain rfl:=zi H;go_enter Tryz.func88,Tryz.ntmps88;exact yr
 obtain rfl:=zi H;go_enter Tryz.func88,Tryz.ntmps88;exact yr
def impl_digit.f(a0:Int):Option (Bool):=if a0>=48 then(some (decide (a0<=57))) else(some false)
theorem impl_digit.calls(a0:Int)(r:Bool)(w:World)(H:impl_digit.f a0=some r):
 Calls Tryz.prog 89 #[.int .u8 a0] w fun e w'=>e= .returned (.bool r)/\vB w w':=by
 unfold impl_digit.f at H;refine yE H ?_ ?_<;>clear H<;>intro aa H
 ·obtain rfl:=zi H;go_enter Tryz.func89,Tryz.ntmps89;exact yr
 obtain rfl:=zi H;go_enter Tryz.func89,Tryz.ntmps89;exact yr
mutual
def impl_NameOk.j0:Nat->ByteArray->Bool->Option (Bool)
 |0,_,_=>none
 |k+1,x0,af=>if af=true then(some false) else(impl_NameOk.l0 k x0 (x0.size:Int) 0)
def impl_NameOk.l0:Nat->ByteArray->Int->Int->Option (Bool)
 |0,_,_,_=>none
 |k+1,x0,ab,aa=>if aa<ab then(if 0<=aa then(if aa<(x0.size:Int) then((impl_letter.f (bt x0 aa)).bind fun ac=>(if ac=true then(impl_NameOk.l0 k x0 ab (wrap64 (aa+1))) else((impl_digit.f (bt x0 aa)).bind fun ad=>(if ad=true then(impl_NameOk.l0 k x0 ab (wrap64 (aa+1))) else((strings_ContainsRune.f (⟨#[45,95,46,43]⟩:ByteArray) (wrap32 (bt x0 aa))).bind fun ae=>(if ae=true then(impl_NameOk.l0 k x0 ab (wrap64 (aa+1))) else(some false))))))) else(none)) else(none)) else(some true)
end
def impl_NameOk.f(k:Nat)(a0:ByteArray):Option (Bool):=if(a0.size:Int)<1 then(impl_NameOk.j0 k a0 true) else(if(a0.size:Int)>60 then(impl_NameOk.j0 k a0 true) else(if 0<(a0.size:Int) then(impl_NameOk.j0 k a0 ((bt a0 0)==46)) else(none)))
theorem impl_NameOk.calls(k:Nat)(a0:ByteArray)(r:Bool)(w:World)(h:impl_NameOk.f k a0=some r):
 Calls Tryz.prog 61 #[.string a0] w fun e w'=>e= .returned (.bool r)/\vB w w':=by
 unfold impl_NameOk.f at h;have H:=h;clear h;have ap:=zz H;clear H;go_enter Tryz.func61,Tryz.ntmps61
 go_upto_region 1 with(fail)
 go_cut [17] (fun aG wc=>∃(kq:Nat) (ae:Bool),aG= .bool ae/\qB (impl_NameOk.j0 kq a0 ae=some r)/\qB (kq<=k)/\vB w wc)
 case first=>
  have H:=ap.out;clear ap;by_cases c3:(a0.size:Int)<1
  ·rw[if_pos c3] at H;have ad:=z1 c3;have ah:decide (a0.size<1)=true:=z1 yo_;clear c3
   (first|rw[ad]|(simp only[i64_w,i32_w];rw[ad])|skip)
   have H':=zz H;clear H;go_wp2
   go_meet
   case rel=>exact⟨_,(true),zr,H',⟨by first|omega|exact Nat.le_refl _⟩,yD0⟩
  ·rw[if_neg c3] at H;have ad:=z0 c3;have ah:decide (a0.size<1)=false:=z0 yo_;clear c3
   (first|rw[ad]|(simp only[i64_w,i32_w];rw[ad])|skip)
   by_cases c4:(a0.size:Int)>60
   ·rw[if_pos c4] at H;have ai:=zgt c4;have aj:decide (60<a0.size)=true:=z1 yo_;clear c4;have H':=zz H;clear H;go_wp2
    go_meet
    case rel=>exact⟨_,(true),zr,H',⟨by first|omega|exact Nat.le_refl _⟩,yD0⟩
   ·rw[if_neg c4] at H;have ai:=zgtn c4;have aj:decide (60<a0.size)=false:=z0 yo_;clear c4;by_cases c5:0<(a0.size:Int)
    ·rw[if_pos c5] at H;have ar:=z1 c5;have au:decide (0<a0.size)=true:=z1 yo_;clear c5;have H':=zz H;clear H;have p6:0<=(0:Int):=yo_;have q6:0<a0.size:=(by have:(0:Int)<(a0.size:Int):=z2;omega)
     have az:∀h:0<a0.size,((a0[0]'h).toNat:Int)=bt a0 0:=bt_at a0 0;clear p6;have aA:(0<(a0.size:Int))=True:=eq_true (z2);replace q6:=eq_true q6;go_wp2
     go_meet
     case rel=>exact⟨_,(((bt a0 0)==46)),zr,H',⟨by first|omega|exact Nat.le_refl _⟩,yD0⟩
    ·rw[if_neg c5] at H;exact absurd H (by simp)
 case rest=>
  clear ap;try clear c3
  try clear ad
  try clear ah
  try clear c4
  try clear ai
  try clear aj
  try clear c5
  try clear ar
  try clear au
  try clear p6
  try clear q6
  try clear az
  try clear aA
  try clear p6
  try clear q6
  obtain⟨kq,ae,rfl,HA,af,⟨aL,rfl⟩⟩:=hcut;cases kq with
  |zero=>exact absurd HA.out (by simp[impl_NameOk.j0])
  |succ aB=>
   have H:=HA.out;clear HA;simp only[impl_NameOk.j0] at H;by_cases c7:ae=true
   ·subst c7;rw[if_pos rfl] at H;obtain rfl:=zi H;exact yr
   replace c7:=Bool.eq_false_iff.mpr c7;subst c7;rw[if_neg (show¬(false=true) by decide)] at H;have H':=zz H;clear H;go_wp2;go_loopg[20] aB (fun kq aH w'=>∃(aa:Int),aH= .int .i64 aa/\qB (impl_NameOk.l0 kq a0 (a0.size:Int) aa=some r)/\qB (kq<=aB)/\vB w w')
   case atStart=>exact⟨(0),zr,H',⟨Nat.le_refl _⟩,yD0⟩
   case round=>
    clear H';try clear c3
    try clear ad
    try clear ah
    try clear c4
    try clear ai
    try clear aj
    try clear c5
    try clear ar
    try clear au
    try clear p6
    try clear q6
    try clear az
    try clear aA
    try clear c7
    try clear p6
    try clear q6
    obtain⟨aa,rfl,HA,ag,⟨m2,rfl⟩⟩:=hrel;cases gk with
    |zero=>exact absurd HA.out (by simp[impl_NameOk.l0])
    |succ k2=>
     have H:=HA.out;clear HA;simp only[impl_NameOk.l0] at H;refine yDn H ?_ ?_<;>clear H<;>intro aJ H
     ·obtain rfl:=zi H;exact yr
     replace H:=yAD H;obtain⟨aK,H⟩:=H;replace H:=yAD H;obtain⟨aI,H⟩:=H;replace H:=zf H;obtain⟨aD,av,H⟩:=H;try dsimp only at H
     have al:=zz av;clear av;by_cases am:aD=true
     ·subst am;rw[if_pos rfl] at H;have H':=zz H;clear H;have ab:0<=(aa:Int):=z2;have ac:aa<(a0.size:Int):=z2;have ak:=bt_at a0 aa;replace ab:=eq_true ab;replace ac:=eq_true ac;go_wp2_with(first|(refine zL 88 27 Tryz.func88 #[.int .u8 (bt a0 aa)] ?_;(with_reducible refine(impl_letter.calls (bt a0 aa) true _ al.out).mono ?_);rintro e w' ⟨rfl,⟨nd,rfl⟩⟩;refine⟨_,rfl,?_⟩))
      go_roundg k2
      case measure=>exact yM2 af ag
      case rel=>exact⟨(wrap64 (aa+1)),zr,H',⟨yM2 af ag⟩,yD0⟩
     replace am:=Bool.eq_false_iff.mpr am;subst am;rw[if_neg (show¬(false=true) by decide)] at H;replace H:=zf H;obtain⟨aE,aw,H⟩:=H;try dsimp only at H
     have ax:=zz aw;clear aw;by_cases an:aE=true
     ·subst an;rw[if_pos rfl] at H;have H':=zz H;clear H;have ab:0<=(aa:Int):=z2;have ac:aa<(a0.size:Int):=z2;have ak:=bt_at a0 aa;replace ab:=eq_true ab;replace ac:=eq_true ac;go_wp2_with(first|(refine zL 88 27 Tryz.func88 #[.int .u8 (bt a0 aa)] ?_;(with_reducible refine(impl_letter.calls (bt a0 aa) false _ al.out).mono ?_);rintro e w' ⟨rfl,⟨nd,rfl⟩⟩;refine⟨_,rfl,?_⟩)|(go_at_call 89;(with_reducible refine(impl_digit.calls (bt a0 aa) true _ ax.out).mono ?_);rintro e w' ⟨rfl,⟨nd,rfl⟩⟩))
      go_roundg k2
      case measure=>exact yM2 af ag
      case rel=>exact⟨(wrap64 (aa+1)),zr,H',⟨yM2 af ag⟩,yD0⟩
     replace an:=Bool.eq_false_iff.mpr an;subst an;rw[if_neg (show¬(false=true) by decide)] at H;replace H:=zf H;obtain⟨aF,ay,H⟩:=H;try dsimp only at H
     have aC:=zz ay;clear ay;by_cases ao:aF=true
     case neg=>
      replace ao:=Bool.eq_false_iff.mpr ao;subst ao;rw[if_neg (show¬(false=true) by decide)] at H;obtain rfl:=zi H;have ab:0<=(aa:Int):=z2;have ac:aa<(a0.size:Int):=z2;have ak:=bt_at a0 aa;replace ab:=eq_true ab;replace ac:=eq_true ac;go_wp2_with(first|(refine zL 88 27 Tryz.func88 #[.int .u8 (bt a0 aa)] ?_;(with_reducible refine(impl_letter.calls (bt a0 aa) false _ al.out).mono ?_);rintro e w' ⟨rfl,⟨nd,rfl⟩⟩;refine⟨_,rfl,?_⟩)|(go_at_call 89;(with_reducible refine(impl_digit.calls (bt a0 aa) false _ ax.out).mono ?_);rintro e w' ⟨rfl,⟨nd,rfl⟩⟩)|(go_at_call 90;(with_reducible refine(strings_ContainsRune.calls (⟨#[45,95,46,43]⟩:ByteArray) (wrap32 (bt a0 aa)) false _ aC.out).mono ?_);rintro e w' ⟨rfl,⟨nd,rfl⟩⟩))
      go_ret;exact⟨zr,yD0⟩
     subst ao;rw[if_pos rfl] at H;have H':=zz H;clear H;have ab:0<=(aa:Int):=z2;have ac:aa<(a0.size:Int):=z2;have ak:=bt_at a0 aa;replace ab:=eq_true ab;replace ac:=eq_true ac;go_wp2_with(first|(refine zL 88 27 Tryz.func88 #[.int .u8 (bt a0 aa)] ?_;(with_reducible refine(impl_letter.calls (bt a0 aa) false _ al.out).mono ?_);rintro e w' ⟨rfl,⟨nd,rfl⟩⟩;refine⟨_,rfl,?_⟩)|(go_at_call 89;(with_reducible refine(impl_digit.calls (bt a0 aa) false _ ax.out).mono ?_);rintro e w' ⟨rfl,⟨nd,rfl⟩⟩)|(go_at_call 90;(with_reducible refine(strings_ContainsRune.calls (⟨#[45,95,46,43]⟩:ByteArray) (wrap32 (bt a0 aa)) true _ aC.out).mono ?_);rintro e w' ⟨rfl,⟨nd,rfl⟩⟩))
     go_roundg k2
     case measure=>exact yM2 af ag
     case rel=>exact⟨(wrap64 (aa+1)),zr,H',⟨yM2 af ag⟩,yD0⟩
def strings_IndexByte.f(a0:ByteArray)(a1:Int):Option Int:=some (Lib.indexByte a0.data.toList a1.toNat.toUInt8)
theorem strings_IndexByte.calls(a0:ByteArray)(a1:Int)(r:Int)(w:World)(h:strings_IndexByte.f a0 a1=some r):
 Calls Tryz.prog 109 #[.string a0,.int .u8 a1] w fun e w'=>e= .returned (.int .i64 r)/\vB w w':=by
 obtain rfl:=Option.some.inj h;exact(Tryz.strings_IndexByte a0 a1 w).mono fun e w' ⟨he,hw⟩=>⟨he,hw ▸ vB.refl w⟩
def impl_ReadWord32.l0:Nat->ByteArray->Int->Int->Int->Option (Int×Bool)
 |0,_,_,_,_=>none
 |k+1,x0,x4,ac,aa=>if aa<ac then(if 0<=aa then(if aa<(x0.size:Int) then((strings_IndexByte.f (⟨#[48,49,50,51,52,53,54,55,56,57,97,98,99,100,102,103,104,105,106,107,108,109,110,112,113,114,115,118,119,120,121,122]⟩:ByteArray) (bt x0 aa)).bind fun ab=>(if ab<0 then(some (0,false)) else(if aa=0 then(if ab>15 then(some (0,false)) else(impl_ReadWord32.l0 k x0 (Go.bits .or .u64 (IntKind.u64.wrap (x4*32)) (IntKind.u64.wrap (ab))) ac (wrap64 (aa+1)))) else(impl_ReadWord32.l0 k x0 (Go.bits .or .u64 (IntKind.u64.wrap (x4*32)) (IntKind.u64.wrap (ab))) ac (wrap64 (aa+1)))))) else(none)) else(none)) else(some (x4,true))
def impl_ReadWord32.f(k:Nat)(a0:ByteArray):Option (Int×Bool):=if(a0.size:Int)=13 then(impl_ReadWord32.l0 k a0 0 (a0.size:Int) 0) else(some (0,false))
theorem impl_ReadWord32.calls(k:Nat)(a0:ByteArray)(r1:Int)(r2:Bool)(w:World)(H:impl_ReadWord32.f k a0=some (r1,r2)):
 Calls Tryz.prog 91 #[.string a0] w fun e w'=>e= .returned (.tuple #[.int .u64 r1,.bool r2])/\vB w w':=by
 unfold impl_ReadWord32.f at H;refine yCn H ?_ ?_<;>clear H<;>intro c2 H
 ·obtain⟨ae,af⟩:=zw c2;simp only[Option.some.injEq,Prod.mk.injEq] at H;obtain⟨rfl,rfl⟩:=H;go_enter Tryz.func91,Tryz.ntmps91;go_wp2
  go_ret2
  exact⟨zr,yD0⟩
 obtain⟨ae,af⟩:=zq c2;clear c2;have H':=zz H;clear H;go_enter Tryz.func91,Tryz.ntmps91;go_wp2;go_loopg[4,12] k (fun kq v4 ak w'=>∃(ac:Int) (aa:Int),v4= .int .u64 ac/\ak= .int .i64 aa/\qB (impl_ReadWord32.l0 kq a0 ac (a0.size:Int) aa=some (r1,r2))/\qB (kq<=k)/\vB w w')
 case atStart=>exact⟨(0),(0),zr,zr,H',⟨Nat.le_refl _⟩,yD0⟩
 case round=>
  clear H';try clear c2
  try clear ae
  try clear af
  obtain⟨ac,aa,rfl,rfl,HA,ad,⟨m1,rfl⟩⟩:=hrel;cases gk with
  |zero=>exact absurd HA.out (by simp[impl_ReadWord32.l0])
  |succ k1=>
   have H:=HA.out;clear HA;simp only[impl_ReadWord32.l0] at H;refine yDn H ?_ ?_<;>clear H<;>intro am H
   ·simp only[Option.some.injEq,Prod.mk.injEq] at H;obtain⟨rfl,rfl⟩:=H;go_wp2
    go_ret2
    exact⟨zr,yD0⟩
   replace H:=yAD H;obtain⟨an,H⟩:=H;replace H:=yAD H;obtain⟨ao,H⟩:=H;replace H:=zf H;obtain⟨ab,ah,H⟩:=H;try dsimp only at H
   have A7:=zz ah;clear ah;refine yD H ?_ ?_<;>clear H<;>intro ap H
   ·simp only[Option.some.injEq,Prod.mk.injEq] at H;obtain⟨rfl,rfl⟩:=H;have p6:0<=(aa:Int):=z2;have q6:aa<(a0.size:Int):=z2;have ag:=bt_at a0 aa;replace p6:=eq_true p6;replace q6:=eq_true q6;go_wp2_with(first|(refine zL 109 18 Tryz.func109 #[.string (⟨#[48,49,50,51,52,53,54,55,56,57,97,98,99,100,102,103,104,105,106,107,108,109,110,112,113,114,115,118,119,120,121,122]⟩:ByteArray),.int .u8 (bt a0 aa)] ?_;(with_reducible refine(strings_IndexByte.calls (⟨#[48,49,50,51,52,53,54,55,56,57,97,98,99,100,102,103,104,105,106,107,108,109,110,112,113,114,115,118,119,120,121,122]⟩:ByteArray) (bt a0 aa) ab _ A7.out).mono ?_);rintro e w' ⟨rfl,⟨nd,rfl⟩⟩;refine⟨_,rfl,?_⟩))
    go_ret2
    exact⟨zr,yD0⟩
   refine yCn H ?_ ?_<;>clear H<;>intro c9 H
   ·obtain⟨ai,aj⟩:=zw c9;have H':=zz H;clear H;have p6:0<=(aa:Int):=z2;have q6:aa<(a0.size:Int):=z2;have ag:=bt_at a0 aa;replace p6:=eq_true p6;replace q6:=eq_true q6;go_wp2_with(first|(refine zL 109 18 Tryz.func109 #[.string (⟨#[48,49,50,51,52,53,54,55,56,57,97,98,99,100,102,103,104,105,106,107,108,109,110,112,113,114,115,118,119,120,121,122]⟩:ByteArray),.int .u8 (bt a0 aa)] ?_;(with_reducible refine(strings_IndexByte.calls (⟨#[48,49,50,51,52,53,54,55,56,57,97,98,99,100,102,103,104,105,106,107,108,109,110,112,113,114,115,118,119,120,121,122]⟩:ByteArray) (bt a0 aa) ab _ A7.out).mono ?_);rintro e w' ⟨rfl,⟨nd,rfl⟩⟩;refine⟨_,rfl,?_⟩))
    go_roundg k1
    case measure=>exact yM1 ad
    case rel=>exact⟨(Go.bits .or .u64 (IntKind.u64.wrap (ac*32)) (IntKind.u64.wrap (ab))),(wrap64 (aa+1)),zr,zr,H',⟨yM1 ad⟩,yD0⟩
   obtain⟨ai,aj⟩:=zq c9;clear c9;refine yG H ?_ ?_<;>clear H<;>intro al H
   ·simp only[Option.some.injEq,Prod.mk.injEq] at H;obtain⟨rfl,rfl⟩:=H;have p6:0<=(aa:Int):=z2;have q6:aa<(a0.size:Int):=z2;have ag:=bt_at a0 aa;replace p6:=eq_true p6;replace q6:=eq_true q6;go_wp2_with(first|(refine zL 109 18 Tryz.func109 #[.string (⟨#[48,49,50,51,52,53,54,55,56,57,97,98,99,100,102,103,104,105,106,107,108,109,110,112,113,114,115,118,119,120,121,122]⟩:ByteArray),.int .u8 (bt a0 aa)] ?_;(with_reducible refine(strings_IndexByte.calls (⟨#[48,49,50,51,52,53,54,55,56,57,97,98,99,100,102,103,104,105,106,107,108,109,110,112,113,114,115,118,119,120,121,122]⟩:ByteArray) (bt a0 aa) ab _ A7.out).mono ?_);rintro e w' ⟨rfl,⟨nd,rfl⟩⟩;refine⟨_,rfl,?_⟩))
    go_ret2
    exact⟨zr,yD0⟩
   have H':=zz H;clear H;have p6:0<=(aa:Int):=z2;have q6:aa<(a0.size:Int):=z2;have ag:=bt_at a0 aa;replace p6:=eq_true p6;replace q6:=eq_true q6;go_wp2_with(first|(refine zL 109 18 Tryz.func109 #[.string (⟨#[48,49,50,51,52,53,54,55,56,57,97,98,99,100,102,103,104,105,106,107,108,109,110,112,113,114,115,118,119,120,121,122]⟩:ByteArray),.int .u8 (bt a0 aa)] ?_;(with_reducible refine(strings_IndexByte.calls (⟨#[48,49,50,51,52,53,54,55,56,57,97,98,99,100,102,103,104,105,106,107,108,109,110,112,113,114,115,118,119,120,121,122]⟩:ByteArray) (bt a0 aa) ab _ A7.out).mono ?_);rintro e w' ⟨rfl,⟨nd,rfl⟩⟩;refine⟨_,rfl,?_⟩))
   go_roundg k1
   case measure=>exact yM1 ad
   case rel=>exact⟨(Go.bits .or .u64 (IntKind.u64.wrap (ac*32)) (IntKind.u64.wrap (ab))),(wrap64 (aa+1)),zr,zr,H',⟨yM1 ad⟩,yD0⟩
def impl_AddressOk.f(k:Nat)(a0:ByteArray):Option (Bool):=if(a0.size:Int)<14 then(some false) else(if 13<(a0.size:Int) then(if(bt a0 13)=45 then(if 14<=(a0.size:Int) then((impl_NameOk.f k (a0.extract 14 a0.size)).bind fun ab=>(if ab=true then(if 0<=13 then(if 13<=(a0.size:Int) then((impl_ReadWord32.f k (a0.extract 0 13)).bind fun aa=>(some aa.2)) else(none)) else(none)) else(some false))) else(none)) else(some false)) else(none))
theorem impl_AddressOk.calls(k:Nat)(a0:ByteArray)(r:Bool)(w:World)(h:impl_AddressOk.f k a0=some r):
 Calls Tryz.prog 62 #[.string a0] w fun e w'=>e= .returned (.bool r)/\vB w w':=by
 unfold impl_AddressOk.f at h;have H:=h;clear h;refine yC H ?_ ?_<;>clear H<;>intro c2 H
 ·have af:=z1 c2;have ag:decide (a0.size<14)=true:=z1 yo_;clear c2;obtain rfl:=zi H;go_enter Tryz.func62,Tryz.ntmps62;exact yr
 have af:=z0 c2;have ag:decide (a0.size<14)=false:=z0 yo_;clear c2;replace H:=yA H;obtain⟨c3,H⟩:=H;have ap:=z1 c3;have ar:decide (13<a0.size)=true:=z1 yo_;clear c3;refine yCn H ?_ ?_<;>clear H<;>intro c5 H
 ·obtain⟨ah,ai⟩:=zw c5;obtain rfl:=zi H;have p4:0<=(13:Int):=yo_;have q4:13<a0.size:=(by have:(13:Int)<(a0.size:Int):=z2;omega)
  have ac:∀h:13<a0.size,((a0[13]'h).toNat:Int)=bt a0 13:=bt_at a0 13;clear p4;have ad:(13<(a0.size:Int))=True:=eq_true (z2);replace q4:=eq_true q4;go_enter Tryz.func62,Tryz.ntmps62;exact yr
 obtain⟨ah,ai⟩:=zq c5;clear c5;replace H:=yA H;obtain⟨c6,H⟩:=H;have au:=eq_true c6;have av:=z1 c6;clear c6;replace H:=zf H;obtain⟨aj,ae,H⟩:=H;try dsimp only at H
 have A7:=zz ae;clear ae;by_cases c8:aj=true
 case neg=>
  replace c8:=Bool.eq_false_iff.mpr c8;subst c8;rw[if_neg (show¬(false=true) by decide)] at H;obtain rfl:=zi H;have p4:0<=(13:Int):=yo_;have q4:13<a0.size:=(by have:(13:Int)<(a0.size:Int):=z2;omega)
  have ac:∀h:13<a0.size,((a0[13]'h).toNat:Int)=bt a0 13:=bt_at a0 13;clear p4;have ad:(13<(a0.size:Int))=True:=eq_true (z2);replace q4:=eq_true q4;go_enter Tryz.func62,Tryz.ntmps62;go_wp2_with(first|(go_at_call 61;(with_reducible refine(impl_NameOk.calls k (a0.extract 14 a0.size) false _ A7.out).mono ?_);rintro e w' ⟨rfl,⟨nd,rfl⟩⟩))
  go_ret;exact⟨zr,yD0⟩
 subst c8;rw[if_pos rfl] at H;replace H:=yA H;obtain⟨c9,H⟩:=H;have aw:=eq_true c9;have ax:=z1 c9;clear c9;replace H:=yA H;obtain⟨aa,H⟩:=H;have an:=eq_true aa;have ao:=z1 aa;clear aa;replace H:=zf H;obtain⟨⟨ak,al⟩,ab,H⟩:=H;try dsimp only at H
 have am:=zz ab;clear ab;obtain rfl:=zi H;have p4:0<=(13:Int):=yo_;have q4:13<a0.size:=(by have:(13:Int)<(a0.size:Int):=z2;omega)
 have ac:∀h:13<a0.size,((a0[13]'h).toNat:Int)=bt a0 13:=bt_at a0 13;clear p4;have ad:(13<(a0.size:Int))=True:=eq_true (z2);replace q4:=eq_true q4;go_enter Tryz.func62,Tryz.ntmps62;go_wp2_with(first|(go_at_call 61;(with_reducible refine(impl_NameOk.calls k (a0.extract 14 a0.size) true _ A7.out).mono ?_);rintro e w' ⟨rfl,⟨nd,rfl⟩⟩)|(refine zL 91 22 Tryz.func91 #[.string (a0.extract 0 13)] ?_;(with_reducible refine(impl_ReadWord32.calls k (a0.extract 0 13) ak al _ am.out).mono ?_);rintro e w' ⟨rfl,⟨nd,rfl⟩⟩;refine⟨_,rfl,?_⟩))
 go_ret;exact⟨zr,yD0⟩
def spec_l1Letter.f(a0:Int):Option (Bool):=if a0>=97 then(if a0<=122 then(some true) else(if a0>=65 then(some (decide (a0<=90))) else(some false))) else(if a0>=65 then(some (decide (a0<=90))) else(some false))
theorem spec_l1Letter.calls(a0:Int)(r:Bool)(w:World)(H:spec_l1Letter.f a0=some r):
 Calls Tryz.prog 75 #[.int .u8 a0] w fun e w'=>e= .returned (.bool r)/\vB w w':=by
 unfold spec_l1Letter.f at H;refine yE H ?_ ?_<;>clear H<;>intro aa H
 ·refine yD H ?_ ?_<;>clear H<;>intro ab H
  ·obtain rfl:=zi H;go_enter Tryz.func75,Tryz.ntmps75;exact yr
  refine yE H ?_ ?_<;>clear H<;>intro ac H
  ·obtain rfl:=zi H;go_enter Tryz.func75,Tryz.ntmps75;exact yr
  obtain rfl:=zi H;go_enter Tryz.func75,Tryz.ntmps75;exact yr
 refine yE H ?_ ?_<;>clear H<;>intro ad H
 ·obtain rfl:=zi H;go_enter Tryz.func75,Tryz.ntmps75;exact yr
 obtain rfl:=zi H;go_enter Tryz.func75,Tryz.ntmps75;exact yr
def spec_l1Digit.f(a0:Int):Option (Bool):=if a0>=48 then(some (decide (a0<=57))) else(some false)
theorem spec_l1Digit.calls(a0:Int)(r:Bool)(w:World)(H:spec_l1Digit.f a0=some r):
 Calls Tryz.prog 76 #[.int .u8 a0] w fun e w'=>e= .returned (.bool r)/\vB w w':=by
 unfold spec_l1Digit.f at H;refine yE H ?_ ?_<;>clear H<;>intro aa H
 ·obtain rfl:=zi H;go_enter Tryz.func76,Tryz.ntmps76;exact yr
 obtain rfl:=zi H;go_enter Tryz.func76,Tryz.ntmps76;exact yr
mutual
def spec_NameOk.j0:Nat->ByteArray->Bool->Option (Bool)
 |0,_,_=>none
 |k+1,x0,ac=>if ac=true then(some false) else(spec_NameOk.l0 k x0 0)
def spec_NameOk.l0:Nat->ByteArray->Int->Option (Bool)
 |0,_,_=>none
 |k+1,x0,x3=>if x3<(x0.size:Int) then(if 0<=x3 then((spec_l1Letter.f (bt x0 x3)).bind fun aa=>(if aa=true then(spec_NameOk.l0 k x0 (wrap64 (x3+1))) else((spec_l1Digit.f (bt x0 x3)).bind fun ab=>(if ab=true then(spec_NameOk.l0 k x0 (wrap64 (x3+1))) else(if(bt x0 x3)=45 then(spec_NameOk.l0 k x0 (wrap64 (x3+1))) else(if(bt x0 x3)=95 then(spec_NameOk.l0 k x0 (wrap64 (x3+1))) else(if(bt x0 x3)=46 then(spec_NameOk.l0 k x0 (wrap64 (x3+1))) else(if(bt x0 x3)=43 then(spec_NameOk.l0 k x0 (wrap64 (x3+1))) else(some false))))))))) else(none)) else(some true)
end
def spec_NameOk.f(k:Nat)(a0:ByteArray):Option (Bool):=if(a0.size:Int)<1 then(spec_NameOk.j0 k a0 true) else(if(a0.size:Int)>60 then(spec_NameOk.j0 k a0 true) else(if 0<(a0.size:Int) then(spec_NameOk.j0 k a0 ((bt a0 0)==46)) else(none)))
theorem spec_NameOk.calls(k:Nat)(a0:ByteArray)(r:Bool)(w:World)(h:spec_NameOk.f k a0=some r):
 Calls Tryz.prog 48 #[.string a0] w fun e w'=>e= .returned (.bool r)/\vB w w':=by
 unfold spec_NameOk.f at h;have H:=h;clear h;have ap:=zz H;clear H;go_enter Tryz.func48,Tryz.ntmps48
 go_upto_region 1 with(fail)
 go_cut [17] (fun aO wc=>∃(kq:Nat) (ah:Bool),aO= .bool ah/\qB (spec_NameOk.j0 kq a0 ah=some r)/\qB (kq<=k)/\vB w wc)
 case first=>
  have H:=ap.out;clear ap;by_cases c3:(a0.size:Int)<1
  ·rw[if_pos c3] at H;have af:=z1 c3;have ak:decide (a0.size<1)=true:=z1 yo_;clear c3
   (first|rw[af]|(simp only[i64_w,i32_w];rw[af])|skip)
   have H':=zz H;clear H;go_wp2
   go_meet
   case rel=>exact⟨_,(true),zr,H',⟨by first|omega|exact Nat.le_refl _⟩,yD0⟩
  ·rw[if_neg c3] at H;have af:=z0 c3;have ak:decide (a0.size<1)=false:=z0 yo_;clear c3
   (first|rw[af]|(simp only[i64_w,i32_w];rw[af])|skip)
   by_cases c4:(a0.size:Int)>60
   ·rw[if_pos c4] at H;have al:=zgt c4;have am:decide (60<a0.size)=true:=z1 yo_;clear c4;have H':=zz H;clear H;go_wp2
    go_meet
    case rel=>exact⟨_,(true),zr,H',⟨by first|omega|exact Nat.le_refl _⟩,yD0⟩
   ·rw[if_neg c4] at H;have al:=zgtn c4;have am:decide (60<a0.size)=false:=z0 yo_;clear c4;by_cases c5:0<(a0.size:Int)
    ·rw[if_pos c5] at H;have ar:=z1 c5;have au:decide (0<a0.size)=true:=z1 yo_;clear c5;have H':=zz H;clear H;have p6:0<=(0:Int):=yo_;have q6:0<a0.size:=(by have:(0:Int)<(a0.size:Int):=z2;omega)
     have aJ:∀h:0<a0.size,((a0[0]'h).toNat:Int)=bt a0 0:=bt_at a0 0;clear p6;have aK:(0<(a0.size:Int))=True:=eq_true (z2);replace q6:=eq_true q6;go_wp2
     go_meet
     case rel=>exact⟨_,(((bt a0 0)==46)),zr,H',⟨by first|omega|exact Nat.le_refl _⟩,yD0⟩
    ·rw[if_neg c5] at H;exact absurd H (by simp)
 case rest=>
  clear ap;try clear c3
  try clear af
  try clear ak
  try clear c4
  try clear al
  try clear am
  try clear c5
  try clear ar
  try clear au
  try clear p6
  try clear q6
  try clear aJ
  try clear aK
  try clear p6
  try clear q6
  obtain⟨kq,ah,rfl,HA,ad,⟨aR,rfl⟩⟩:=hcut;cases kq with
  |zero=>exact absurd HA.out (by simp[spec_NameOk.j0])
  |succ aL=>
   have H:=HA.out;clear HA;simp only[spec_NameOk.j0] at H;by_cases c7:ah=true
   ·subst c7;rw[if_pos rfl] at H;obtain rfl:=zi H;exact yr
   replace c7:=Bool.eq_false_iff.mpr c7;subst c7;rw[if_neg (show¬(false=true) by decide)] at H;have H':=zz H;clear H;go_wp2;go_loopg[3] aL (fun kq v3 w'=>∃(aa:Int),v3= .int .i64 aa/\qB (spec_NameOk.l0 kq a0 aa=some r)/\qB (kq<=aL)/\vB w w')
   case atStart=>exact⟨(0),zr,H',⟨Nat.le_refl _⟩,yD0⟩
   case round=>
    clear H';try clear c3
    try clear af
    try clear ak
    try clear c4
    try clear al
    try clear am
    try clear c5
    try clear ar
    try clear au
    try clear p6
    try clear q6
    try clear aJ
    try clear aK
    try clear c7
    try clear p6
    try clear q6
    obtain⟨aa,rfl,HA,ae,⟨m2,rfl⟩⟩:=hrel;cases gk with
    |zero=>exact absurd HA.out (by simp[spec_NameOk.l0])
    |succ k2=>
     have H:=HA.out;clear HA;simp only[spec_NameOk.l0] at H;refine yDn H ?_ ?_<;>clear H<;>intro aP H
     ·obtain rfl:=zi H;exact yr
     replace H:=yAD H;obtain⟨aQ,H⟩:=H;replace H:=zf H;obtain⟨aM,av,H⟩:=H;try dsimp only at H
     have ai:=zz av;clear av;by_cases an:aM=true
     ·subst an;rw[if_pos rfl] at H;have H':=zz H;clear H;have ab:0<=(aa:Int):=z2;have ac:aa<(a0.size:Int):=z2;have ag:=bt_at a0 aa;replace ab:=eq_true ab;replace ac:=eq_true ac;go_wp2_with(first|(refine zL 75 28 Tryz.func75 #[.int .u8 (bt a0 aa)] ?_;(with_reducible refine(spec_l1Letter.calls (bt a0 aa) true _ ai.out).mono ?_);rintro e w' ⟨rfl,⟨nd,rfl⟩⟩;refine⟨_,rfl,?_⟩))
      go_roundg k2
      case measure=>exact yM2 ad ae
      case rel=>exact⟨(wrap64 (aa+1)),zr,H',⟨yM2 ad ae⟩,yD0⟩
     replace an:=Bool.eq_false_iff.mpr an;subst an;rw[if_neg (show¬(false=true) by decide)] at H;replace H:=zf H;obtain⟨aN,aw,H⟩:=H;try dsimp only at H
     have aj:=zz aw;clear aw;by_cases ao:aN=true
     ·subst ao;rw[if_pos rfl] at H;have H':=zz H;clear H;have ab:0<=(aa:Int):=z2;have ac:aa<(a0.size:Int):=z2;have ag:=bt_at a0 aa;replace ab:=eq_true ab;replace ac:=eq_true ac;go_wp2_with(first|(refine zL 75 28 Tryz.func75 #[.int .u8 (bt a0 aa)] ?_;(with_reducible refine(spec_l1Letter.calls (bt a0 aa) false _ ai.out).mono ?_);rintro e w' ⟨rfl,⟨nd,rfl⟩⟩;refine⟨_,rfl,?_⟩)|(go_at_call 76;(with_reducible refine(spec_l1Digit.calls (bt a0 aa) true _ aj.out).mono ?_);rintro e w' ⟨rfl,⟨nd,rfl⟩⟩))
      go_roundg k2
      case measure=>exact yM2 ad ae
      case rel=>exact⟨(wrap64 (aa+1)),zr,H',⟨yM2 ad ae⟩,yD0⟩
     replace ao:=Bool.eq_false_iff.mpr ao;subst ao;rw[if_neg (show¬(false=true) by decide)] at H;refine yC H ?_ ?_<;>clear H<;>intro ax H
     ·obtain⟨aB,aC⟩:=zq ax;clear ax;have H':=zz H;clear H;have ab:0<=(aa:Int):=z2;have ac:aa<(a0.size:Int):=z2;have ag:=bt_at a0 aa;replace ab:=eq_true ab;replace ac:=eq_true ac;go_wp2_with(first|(refine zL 75 28 Tryz.func75 #[.int .u8 (bt a0 aa)] ?_;(with_reducible refine(spec_l1Letter.calls (bt a0 aa) false _ ai.out).mono ?_);rintro e w' ⟨rfl,⟨nd,rfl⟩⟩;refine⟨_,rfl,?_⟩)|(go_at_call 76;(with_reducible refine(spec_l1Digit.calls (bt a0 aa) false _ aj.out).mono ?_);rintro e w' ⟨rfl,⟨nd,rfl⟩⟩))
      go_roundg k2
      case measure=>exact yM2 ad ae
      case rel=>exact⟨(wrap64 (aa+1)),zr,H',⟨yM2 ad ae⟩,yD0⟩
     obtain⟨aB,aC⟩:=zw ax;refine yC H ?_ ?_<;>clear H<;>intro ay H
     ·obtain⟨aD,aE⟩:=zq ay;clear ay;have H':=zz H;clear H;have ab:0<=(aa:Int):=z2;have ac:aa<(a0.size:Int):=z2;have ag:=bt_at a0 aa;replace ab:=eq_true ab;replace ac:=eq_true ac;go_wp2_with(first|(refine zL 75 28 Tryz.func75 #[.int .u8 (bt a0 aa)] ?_;(with_reducible refine(spec_l1Letter.calls (bt a0 aa) false _ ai.out).mono ?_);rintro e w' ⟨rfl,⟨nd,rfl⟩⟩;refine⟨_,rfl,?_⟩)|(go_at_call 76;(with_reducible refine(spec_l1Digit.calls (bt a0 aa) false _ aj.out).mono ?_);rintro e w' ⟨rfl,⟨nd,rfl⟩⟩))
      go_roundg k2
      case measure=>exact yM2 ad ae
      case rel=>exact⟨(wrap64 (aa+1)),zr,H',⟨yM2 ad ae⟩,yD0⟩
     obtain⟨aD,aE⟩:=zw ay;refine yC H ?_ ?_<;>clear H<;>intro az H
     ·obtain⟨aF,aG⟩:=zq az;clear az;have H':=zz H;clear H;have ab:0<=(aa:Int):=z2;have ac:aa<(a0.size:Int):=z2;have ag:=bt_at a0 aa;replace ab:=eq_true ab;replace ac:=eq_true ac;go_wp2_with(first|(refine zL 75 28 Tryz.func75 #[.int .u8 (bt a0 aa)] ?_;(with_reducible refine(spec_l1Letter.calls (bt a0 aa) false _ ai.out).mono ?_);rintro e w' ⟨rfl,⟨nd,rfl⟩⟩;refine⟨_,rfl,?_⟩)|(go_at_call 76;(with_reducible refine(spec_l1Digit.calls (bt a0 aa) false _ aj.out).mono ?_);rintro e w' ⟨rfl,⟨nd,rfl⟩⟩))
      go_roundg k2
      case measure=>exact yM2 ad ae
      case rel=>exact⟨(wrap64 (aa+1)),zr,H',⟨yM2 ad ae⟩,yD0⟩
     obtain⟨aF,aG⟩:=zw az;refine yCn H ?_ ?_<;>clear H<;>intro aA H
     ·obtain⟨aH,aI⟩:=zw aA;obtain rfl:=zi H;have ab:0<=(aa:Int):=z2;have ac:aa<(a0.size:Int):=z2;have ag:=bt_at a0 aa;replace ab:=eq_true ab;replace ac:=eq_true ac;go_wp2_with(first|(refine zL 75 28 Tryz.func75 #[.int .u8 (bt a0 aa)] ?_;(with_reducible refine(spec_l1Letter.calls (bt a0 aa) false _ ai.out).mono ?_);rintro e w' ⟨rfl,⟨nd,rfl⟩⟩;refine⟨_,rfl,?_⟩)|(go_at_call 76;(with_reducible refine(spec_l1Digit.calls (bt a0 aa) false _ aj.out).mono ?_);rintro e w' ⟨rfl,⟨nd,rfl⟩⟩))
      go_ret;exact⟨zr,yD0⟩
     obtain⟨aH,aI⟩:=zq aA;clear aA;have H':=zz H;clear H;have ab:0<=(aa:Int):=z2;have ac:aa<(a0.size:Int):=z2;have ag:=bt_at a0 aa;replace ab:=eq_true ab;replace ac:=eq_true ac;go_wp2_with(first|(refine zL 75 28 Tryz.func75 #[.int .u8 (bt a0 aa)] ?_;(with_reducible refine(spec_l1Letter.calls (bt a0 aa) false _ ai.out).mono ?_);rintro e w' ⟨rfl,⟨nd,rfl⟩⟩;refine⟨_,rfl,?_⟩)|(go_at_call 76;(with_reducible refine(spec_l1Digit.calls (bt a0 aa) false _ aj.out).mono ?_);rintro e w' ⟨rfl,⟨nd,rfl⟩⟩))
     go_roundg k2
     case measure=>exact yM2 ad ae
     case rel=>exact⟨(wrap64 (aa+1)),zr,H',⟨yM2 ad ae⟩,yD0⟩
def spec_l1Index.l0:Nat->Int->Int->Option (Int)
 |0,_,_=>none
 |k+1,x0,x3=>if x3<32 then(if 0<=x3 then(if(bt (⟨#[48,49,50,51,52,53,54,55,56,57,97,98,99,100,102,103,104,105,106,107,108,109,110,112,113,114,115,118,119,120,121,122]⟩:ByteArray) x3)=x0 then(some x3) else(spec_l1Index.l0 k x0 (wrap64 (x3+1)))) else(none)) else(some (-1))
def spec_l1Index.f(k:Nat)(a0:Int):Option (Int):=spec_l1Index.l0 k a0 0
theorem spec_l1Index.mono_l:∀k,(∀y0 y1,LeO (spec_l1Index.l0 k y0 y1) (spec_l1Index.l0 (k+1) y0 y1))
 |0=>fun _ _ r h=>by simp[spec_l1Index.l0] at h
 |k+1=>by
  have ih0:=spec_l1Index.mono_l k
  ·intro y0 y1;unfold spec_l1Index.l0;exact zM
theorem spec_l1Index.mono:∀a0 k,LeO (spec_l1Index.f k a0) (spec_l1Index.f (k+1) a0):=by
 intro a0 k;have ih0:=spec_l1Index.mono_l k;unfold spec_l1Index.f;exact zM
theorem spec_l1Index.calls(k:Nat)(a0:Int)(r:Int)(w:World)(H:spec_l1Index.f k a0=some r):
 Calls Tryz.prog 100 #[.int .u8 a0] w fun e w'=>e= .returned (.int .i64 r)/\vB w w':=by
 unfold spec_l1Index.f at H;have H':=zz H;clear H;go_enter Tryz.func100,Tryz.ntmps100;go_wp2;go_loopg[3] k (fun kq v3 w'=>∃(aa:Int),v3= .int .i64 aa/\qB (spec_l1Index.l0 kq a0 aa=some r)/\qB (kq<=k)/\vB w w')
 case atStart=>exact⟨(0),zr,H',⟨Nat.le_refl _⟩,yD0⟩
 case round=>
  clear H';obtain⟨aa,rfl,HA,ab,⟨m1,rfl⟩⟩:=hrel;cases gk with
  |zero=>exact absurd HA.out (by simp[spec_l1Index.l0])
  |succ k1=>
   have H:=HA.out;clear HA;simp only[spec_l1Index.l0] at H;refine yDn H ?_ ?_<;>clear H<;>intro af H
   ·obtain rfl:=zi H;exact yr
   replace H:=yAD H;obtain⟨ag,H⟩:=H;refine yC H ?_ ?_<;>clear H<;>intro c5 H
   ·obtain⟨ac,ad⟩:=zq c5;clear c5;obtain rfl:=zi H;have p4:0<=(aa:Int):=z2;have q4:aa<(32:Int):=z2;have ae:=bt_at (⟨#[48,49,50,51,52,53,54,55,56,57,97,98,99,100,102,103,104,105,106,107,108,109,110,112,113,114,115,118,119,120,121,122]⟩:ByteArray) aa;replace p4:=eq_true p4;replace q4:=eq_true q4;exact yr
   obtain⟨ac,ad⟩:=zw c5;have H':=zz H;clear H;have p4:0<=(aa:Int):=z2;have q4:aa<(32:Int):=z2;have ae:=bt_at (⟨#[48,49,50,51,52,53,54,55,56,57,97,98,99,100,102,103,104,105,106,107,108,109,110,112,113,114,115,118,119,120,121,122]⟩:ByteArray) aa;replace p4:=eq_true p4;replace q4:=eq_true q4;go_wp2;go_roundg k1
   case measure=>exact yM1 ab
   case rel=>exact⟨(wrap64 (aa+1)),zr,H',⟨yM1 ab⟩,yD0⟩
def spec_ReadWord32.l0:Nat->ByteArray->Int->Int->Option (Int×Bool)
 |0,_,_,_=>none
 |k+1,x0,x4,x5=>if x5<13 then(if 0<=x5 then(if x5<(x0.size:Int) then((spec_l1Index.f k (bt x0 x5)).bind fun aa=>(if aa<0 then(some (0,false)) else(if x5=0 then(if aa>15 then(some (0,false)) else(spec_ReadWord32.l0 k x0 (IntKind.u64.wrap ((IntKind.u64.wrap (x4*32))+(IntKind.u64.wrap (aa)))) (wrap64 (x5+1)))) else(spec_ReadWord32.l0 k x0 (IntKind.u64.wrap ((IntKind.u64.wrap (x4*32))+(IntKind.u64.wrap (aa)))) (wrap64 (x5+1)))))) else(none)) else(none)) else(some (x4,true))
def spec_ReadWord32.f(k:Nat)(a0:ByteArray):Option (Int×Bool):=if(a0.size:Int)=13 then(spec_ReadWord32.l0 k a0 0 0) else(some (0,false))
theorem spec_ReadWord32.calls(k:Nat)(a0:ByteArray)(r1:Int)(r2:Bool)(w:World)(H:spec_ReadWord32.f k a0=some (r1,r2)):
 Calls Tryz.prog 77 #[.string a0] w fun e w'=>e= .returned (.tuple #[.int .u64 r1,.bool r2])/\vB w w':=by
 unfold spec_ReadWord32.f at H;refine yCn H ?_ ?_<;>clear H<;>intro c2 H
 ·obtain⟨ae,af⟩:=zw c2;simp only[Option.some.injEq,Prod.mk.injEq] at H;obtain⟨rfl,rfl⟩:=H;go_enter Tryz.func77,Tryz.ntmps77;go_wp2
  go_ret2
  exact⟨zr,yD0⟩
 obtain⟨ae,af⟩:=zq c2;clear c2;have H':=zz H;clear H;go_enter Tryz.func77,Tryz.ntmps77;go_wp2;go_loopg[4,5] k (fun kq v4 v5 w'=>∃(ac:Int) (aa:Int),v4= .int .u64 ac/\v5= .int .i64 aa/\qB (spec_ReadWord32.l0 kq a0 ac aa=some (r1,r2))/\qB (kq<=k)/\vB w w')
 case atStart=>exact⟨(0),(0),zr,zr,H',⟨Nat.le_refl _⟩,yD0⟩
 case round=>
  clear H';try clear c2
  try clear ae
  try clear af
  obtain⟨ac,aa,rfl,rfl,HA,ad,⟨m1,rfl⟩⟩:=hrel;cases gk with
  |zero=>exact absurd HA.out (by simp[spec_ReadWord32.l0])
  |succ k1=>
   have H:=HA.out;clear HA;simp only[spec_ReadWord32.l0] at H;refine yDn H ?_ ?_<;>clear H<;>intro al H
   ·simp only[Option.some.injEq,Prod.mk.injEq] at H;obtain⟨rfl,rfl⟩:=H;go_wp2
    go_ret2
    exact⟨zr,yD0⟩
   replace H:=yAD H;obtain⟨am,H⟩:=H;replace H:=yAD H;obtain⟨an,H⟩:=H;replace H:=zf H;obtain⟨ab,ah,H⟩:=H;try dsimp only at H
   have A7:=zz ah;clear ah;refine yD H ?_ ?_<;>clear H<;>intro ao H
   ·simp only[Option.some.injEq,Prod.mk.injEq] at H;obtain⟨rfl,rfl⟩:=H;have p6:0<=(aa:Int):=z2;have q6:aa<(a0.size:Int):=z2;have ag:=bt_at a0 aa;replace p6:=eq_true p6;replace q6:=eq_true q6;go_wp2_with(first|(refine zL 100 17 Tryz.func100 #[.int .u8 (bt a0 aa)] ?_;(with_reducible refine(spec_l1Index.calls k1 (bt a0 aa) ab _ A7.out).mono ?_);rintro e w' ⟨rfl,⟨nd,rfl⟩⟩;refine⟨_,rfl,?_⟩))
    go_ret2
    exact⟨zr,yD0⟩
   refine yCn H ?_ ?_<;>clear H<;>intro c9 H
   ·obtain⟨ai,aj⟩:=zw c9;have H':=zz H;clear H;have p6:0<=(aa:Int):=z2;have q6:aa<(a0.size:Int):=z2;have ag:=bt_at a0 aa;replace p6:=eq_true p6;replace q6:=eq_true q6;go_wp2_with(first|(refine zL 100 17 Tryz.func100 #[.int .u8 (bt a0 aa)] ?_;(with_reducible refine(spec_l1Index.calls k1 (bt a0 aa) ab _ A7.out).mono ?_);rintro e w' ⟨rfl,⟨nd,rfl⟩⟩;refine⟨_,rfl,?_⟩))
    go_roundg k1
    case measure=>exact yM1 ad
    case rel=>exact⟨(IntKind.u64.wrap ((IntKind.u64.wrap (ac*32))+(IntKind.u64.wrap (ab)))),(wrap64 (aa+1)),zr,zr,H',⟨yM1 ad⟩,yD0⟩
   obtain⟨ai,aj⟩:=zq c9;clear c9;refine yG H ?_ ?_<;>clear H<;>intro ak H
   ·simp only[Option.some.injEq,Prod.mk.injEq] at H;obtain⟨rfl,rfl⟩:=H;have p6:0<=(aa:Int):=z2;have q6:aa<(a0.size:Int):=z2;have ag:=bt_at a0 aa;replace p6:=eq_true p6;replace q6:=eq_true q6;go_wp2_with(first|(refine zL 100 17 Tryz.func100 #[.int .u8 (bt a0 aa)] ?_;(with_reducible refine(spec_l1Index.calls k1 (bt a0 aa) ab _ A7.out).mono ?_);rintro e w' ⟨rfl,⟨nd,rfl⟩⟩;refine⟨_,rfl,?_⟩))
    go_ret2
    exact⟨zr,yD0⟩
   have H':=zz H;clear H;have p6:0<=(aa:Int):=z2;have q6:aa<(a0.size:Int):=z2;have ag:=bt_at a0 aa;replace p6:=eq_true p6;replace q6:=eq_true q6;go_wp2_with(first|(refine zL 100 17 Tryz.func100 #[.int .u8 (bt a0 aa)] ?_;(with_reducible refine(spec_l1Index.calls k1 (bt a0 aa) ab _ A7.out).mono ?_);rintro e w' ⟨rfl,⟨nd,rfl⟩⟩;refine⟨_,rfl,?_⟩))
   go_roundg k1
   case measure=>exact yM1 ad
   case rel=>exact⟨(IntKind.u64.wrap ((IntKind.u64.wrap (ac*32))+(IntKind.u64.wrap (ab)))),(wrap64 (aa+1)),zr,zr,H',⟨yM1 ad⟩,yD0⟩
def spec_AddressOk.j0:Nat->ByteArray->Bool->Option (Bool)
 |0,_,_=>none
 |k+1,x0,ac=>if ac=true then(some false) else(if 0<=13 then(if 13<=(x0.size:Int) then((spec_ReadWord32.f k (x0.extract 0 13)).bind fun aa=>(if aa.2=true then(if 14<=(x0.size:Int) then((spec_NameOk.f k (x0.extract 14 x0.size)).bind fun ab=>(some ab)) else(none)) else(some false))) else(none)) else(none))
def spec_AddressOk.f(k:Nat)(a0:ByteArray):Option (Bool):=if(a0.size:Int)<15 then(spec_AddressOk.j0 k a0 true) else(if 13<(a0.size:Int) then(spec_AddressOk.j0 k a0 ((bt a0 13) !=45)) else(none))
theorem spec_AddressOk.calls(k:Nat)(a0:ByteArray)(r:Bool)(w:World)(h:spec_AddressOk.f k a0=some r):
 Calls Tryz.prog 49 #[.string a0] w fun e w'=>e= .returned (.bool r)/\vB w w':=by
 unfold spec_AddressOk.f at h;have H:=h;clear h;have ad:=zz H;clear H;go_enter Tryz.func49,Tryz.ntmps49
 go_upto_region 1 with(fail)
 go_cut [12] (fun ao wc=>∃(kq:Nat) (ab:Bool),ao= .bool ab/\qB (spec_AddressOk.j0 kq a0 ab=some r)/\qB (kq<=k)/\vB w wc)
 case first=>
  have H:=ad.out;clear ad;by_cases c3:(a0.size:Int)<15
  ·rw[if_pos c3] at H;have aa:=z1 c3;have ae:decide (a0.size<15)=true:=z1 yo_;clear c3
   (first|rw[aa]|(simp only[i64_w,i32_w];rw[aa])|skip)
   have H':=zz H;clear H;go_wp2
   go_meet
   case rel=>exact⟨_,(true),zr,H',⟨by first|omega|exact Nat.le_refl _⟩,yD0⟩
  ·rw[if_neg c3] at H;have aa:=z0 c3;have ae:decide (a0.size<15)=false:=z0 yo_;clear c3
   (first|rw[aa]|(simp only[i64_w,i32_w];rw[aa])|skip)
   by_cases c4:13<(a0.size:Int)
   ·rw[if_pos c4] at H;have ak:=z1 c4;have al:decide (13<a0.size)=true:=z1 yo_;clear c4;have H':=zz H;clear H;have p5:0<=(13:Int):=yo_;have q5:13<a0.size:=(by have:(13:Int)<(a0.size:Int):=z2;omega)
    have ap:∀h:13<a0.size,((a0[13]'h).toNat:Int)=bt a0 13:=bt_at a0 13;clear p5;have ar:(13<(a0.size:Int))=True:=eq_true (z2);replace q5:=eq_true q5;go_wp2
    go_meet
    case rel=>exact⟨_,(((bt a0 13) !=45)),zr,H',⟨by first|omega|exact Nat.le_refl _⟩,yD0⟩
   ·rw[if_neg c4] at H;exact absurd H (by simp)
 case rest=>
  clear ad;try clear c3
  try clear aa
  try clear ae
  try clear c4
  try clear ak
  try clear al
  try clear p5
  try clear q5
  try clear ap
  try clear ar
  try clear p5
  try clear q5
  obtain⟨kq,ab,rfl,HA,aB,⟨aC,rfl⟩⟩:=hcut;cases kq with
  |zero=>exact absurd HA.out (by simp[spec_AddressOk.j0])
  |succ af=>
   have H:=HA.out;clear HA;simp only[spec_AddressOk.j0] at H;by_cases c6:ab=true
   ·subst c6;rw[if_pos rfl] at H;obtain rfl:=zi H;exact yr
   replace c6:=Bool.eq_false_iff.mpr c6;subst c6;rw[if_neg (show¬(false=true) by decide)] at H;replace H:=yA H;obtain⟨c7,H⟩:=H;have ax:=eq_true c7;have ay:=z1 c7;clear c7;replace H:=yA H;obtain⟨c8,H⟩:=H;have az:=eq_true c8;have aA:=z1 c8;clear c8;replace H:=zf H;obtain⟨⟨ag,am⟩,aj,H⟩:=H;try dsimp only at H
   have A9:=zz aj;clear aj;by_cases ac:am=true
   case neg=>
    replace ac:=Bool.eq_false_iff.mpr ac;subst ac;rw[if_neg (show¬(false=true) by decide)] at H;obtain rfl:=zi H;go_wp2_with(first|(refine zL 77 16 Tryz.func77 #[.string (a0.extract 0 13)] ?_;(with_reducible refine(spec_ReadWord32.calls af (a0.extract 0 13) ag false _ A9.out).mono ?_);rintro e w' ⟨rfl,⟨nd,rfl⟩⟩;refine⟨_,rfl,?_⟩))
    go_ret;exact⟨zr,yD0⟩
   subst ac;rw[if_pos rfl] at H;replace H:=yA H;obtain⟨ah,H⟩:=H;have av:=eq_true ah;have aw:=z1 ah;clear ah;replace H:=zf H;obtain⟨an,ai,H⟩:=H;try dsimp only at H
   have au:=zz ai;clear ai;obtain rfl:=zi H;go_wp2_with(first|(refine zL 77 16 Tryz.func77 #[.string (a0.extract 0 13)] ?_;(with_reducible refine(spec_ReadWord32.calls af (a0.extract 0 13) ag true _ A9.out).mono ?_);rintro e w' ⟨rfl,⟨nd,rfl⟩⟩;refine⟨_,rfl,?_⟩)|(go_at_call 48;(with_reducible refine(spec_NameOk.calls af (a0.extract 14 a0.size) an _ au.out).mono ?_);rintro e w' ⟨rfl,⟨nd,rfl⟩⟩))
   go_ret;exact⟨zr,yD0⟩
end Go.Proofs.YtgccknmddhbdgaaGreatDoor.Q
