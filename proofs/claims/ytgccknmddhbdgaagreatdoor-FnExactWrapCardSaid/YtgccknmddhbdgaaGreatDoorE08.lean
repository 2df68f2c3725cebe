import Derived.Test.YtgccknmddhbdgaaGreatDoorE06
namespace Go.Proofs.YtgccknmddhbdgaaGreatDoor.Q
open Go.RowKit W1 W2 W3
attribute [local go_sem] max2_int min2_int max_two min_two max_three min_three max_four min_four
attribute [local go_sem high] bl_leq bl_gtr bl_geq
set_option maxHeartbeats 8000000
set_option maxRecDepth 100000
def impl_Word32.l0:Nat->Int->List Int->Int->Int->Option (ByteArray)
 |0,_,_,_,_=>none
 |k+1,x0,x3,x7,x8=>if x8<x7 then(if 0<=(wrap64 (5*x8)) then(if 0<=(Go.bits .and .u64 (shr .u64 x0 (wrap64 (5*x8))) 31) then(if(Go.bits .and .u64 (shr .u64 x0 (wrap64 (5*x8))) 31)<32 then(if 0<=(wrap64 (12 - x8)) then(if(wrap64 (12 - x8))<(x3.length:Int) then(impl_Word32.l0 k x0 (x3.set ((wrap64 (12 - x8)):Int).toNat (bt (⟨#[48,49,50,51,52,53,54,55,56,57,97,98,99,100,102,103,104,105,106,107,108,109,110,112,113,114,115,118,119,120,121,122]⟩:ByteArray) (Go.bits .and .u64 (shr .u64 x0 (wrap64 (5*x8))) 31))) x7 (wrap64 (x8+1))) else(none)) else(none)) else(none)) else(none)) else(none)) else(some (strOfNums x3))
def impl_Word32.f(k:Nat)(a0:Int):Option (ByteArray):=if 13<=281474976710656 then((some (List.replicate 13 0:List Int)).bind fun aa=>(impl_Word32.l0 k a0 aa (aa.length:Int) 0)) else(none)
theorem impl_Word32.calls(k:Nat)(a0:Int)(r:ByteArray)(w:World)(H:impl_Word32.f k a0=some r):
 Calls Tryz.prog 118 #[.int .u64 a0] w fun e w'=>e= .returned (.string r)/\Below w.heap.size w w':=by
 have HB:=yB w;unfold impl_Word32.f at H;replace H:=yA H;obtain⟨c2,H⟩:=H;have aW:=eq_true c2;have aX:=z1 c2;clear c2;obtain⟨ae,aj⟩:∃y_:List Int,y_=(List.replicate 13 0):=⟨_,rfl⟩
 replace H:(impl_Word32.l0 k a0 ae (ae.length:Int) 0)=some r:=yN0 aj H;have aw:=zz aj;clear aj;have H':=zz H;clear H;go_enter Tryz.func118,Tryz.ntmps118;go_wp2_with(first|(refine zN 5 ?_;refine Kd.R_make (Kd.int .u8) _ 5 rfl (N:=5) rfl 118 _ _ rfl 13 rfl rfl Tryz.underlying118 (.int .u8 0) 1 info5 rfl yd_ yo_ 0 (ok:=fun _=>True) (okp:=fun _=>True) rfl (fun _ hk=>hk) trivial yo_ yo_ (Below.refl _ _) (Nat.le_refl _) ?_;intro bb w3 an hb hg_ hnew_;clear hg_ hnew_;(first|rw[<-aw.out] at an|(simp only[Int.reduceToNat] at an;rw[<-aw.out] at an));have ax:=zz (Kd.qU an (qE zb));replace HB:=zz (zv zb hb);clear hb an;obtain⟨a2,aO,a3⟩:=Kd.qW ax.out;subst a3))
 go_loopg[8] k (fun kq v8 w'=>∃(ac:List Int) (aa:Int),v8= .int .i64 aa/\qB (impl_Word32.l0 kq a0 ac (ae.length:Int) aa=some r)/\qB (kq<=k)/\qB (Kd.R (Kd.int .u8) 5 w' w.heap.size (fun _=>True) (.slice a2 ae.length aO) ac)/\qB (Below w.heap.size w w'))
 case atStart=>exact⟨(ae),(0),zr,H',⟨Nat.le_refl _⟩,⟨zR ax.out⟩,⟨zb⟩⟩
 case round=>
  clear H';try clear c2
  try clear aW
  try clear aX
  obtain⟨ac,aa,rfl,HA,aP,ag,HB⟩:=hrel;have ab:=(Kd.qH ag.out).1;rw[ab] at ag
  (try simp only[ab])
  cases gk with
  |zero=>exact absurd HA.out (by simp[impl_Word32.l0])
  |succ k1=>
   have H:=HA.out;clear HA;simp only[impl_Word32.l0] at H;refine yCn H ?_ ?_<;>clear H<;>intro c6 H
   ·have ao:=z0 c6
    (try(have ai:=ao;rw[ab] at ai))
    clear c6;obtain rfl:=zi H;have a7:=own_string (P:=Tryz.prog) Tryz.underlying118 Tryz.underlying5 Tryz.underlying9 (Kd.own_of_R ag.out);go_wp2;go_ret;exact⟨ze,zb⟩
   have ao:=z1 c6
   (try(have ai:=ao;rw[ab] at ai))
   clear c6;obtain⟨ah,ap⟩:∃j_:Int,(wrap64 (5*aa))=j_:=⟨_,rfl⟩
   replace H:(if 0<=(ah) then(if 0<=(Go.bits .and .u64 (shr .u64 a0 (ah)) 31) then(if(Go.bits .and .u64 (shr .u64 a0 (ah)) 31)<32 then(if 0<=(wrap64 (12 - aa)) then(if(wrap64 (12 - aa))<(ac.length:Int) then(impl_Word32.l0 k1 a0 (ac.set ((wrap64 (12 - aa)):Int).toNat (bt (⟨#[48,49,50,51,52,53,54,55,56,57,97,98,99,100,102,103,104,105,106,107,108,109,110,112,113,114,115,118,119,120,121,122]⟩:ByteArray) (Go.bits .and .u64 (shr .u64 a0 (ah)) 31))) (ae.length:Int) (wrap64 (aa+1))) else(none)) else(none)) else(none)) else(none)) else(none))=some r:=by first|(rw[ap] at H;exact H)|(simp only[ap] at H⊢;exact H)
   have a8:(IntKind.i64.wrap (5*aa))=ah:=(i64_w _).trans ap;replace H:=yA H;obtain⟨c8,H⟩:=H;have bc:=eq_true c8;have aY:=z1 c8
   (try(have aC:=aY;rw[ab] at aC))
   clear c8;obtain⟨af,ak⟩:∃j_:Int,(shr .u64 a0 (ah))=j_:=⟨_,rfl⟩
   replace H:(if 0<=(Go.bits .and .u64 (af) 31) then(if(Go.bits .and .u64 (af) 31)<32 then(if 0<=(wrap64 (12 - aa)) then(if(wrap64 (12 - aa))<(ac.length:Int) then(impl_Word32.l0 k1 a0 (ac.set ((wrap64 (12 - aa)):Int).toNat (bt (⟨#[48,49,50,51,52,53,54,55,56,57,97,98,99,100,102,103,104,105,106,107,108,109,110,112,113,114,115,118,119,120,121,122]⟩:ByteArray) (Go.bits .and .u64 (af) 31))) (ae.length:Int) (wrap64 (aa+1))) else(none)) else(none)) else(none)) else(none))=some r:=by first|(rw[ak] at H;exact H)|(simp only[ak] at H⊢;exact H)
   have a9:(a0 / 2 ^ min (ah).toNat 64)=af:=ak;have ba:(ah)<=64->(a0 / 2 ^ (ah).toNat)=af:=shr_small ak;replace H:=yA H;obtain⟨aQ,H⟩:=H;have aJ:=z1 aQ
   (try(have ay:=aJ;rw[ab] at ay))
   clear aQ;replace H:=yA H;obtain⟨aR,H⟩:=H;have aK:=z1 aR
   (try(have az:=aK;rw[ab] at az))
   clear aR;obtain⟨ad,al⟩:∃j_:Int,(wrap64 (12 - aa))=j_:=⟨_,rfl⟩
   replace H:(if 0<=(ad) then(if(ad)<(ac.length:Int) then(impl_Word32.l0 k1 a0 (ac.set ((ad):Int).toNat (bt (⟨#[48,49,50,51,52,53,54,55,56,57,97,98,99,100,102,103,104,105,106,107,108,109,110,112,113,114,115,118,119,120,121,122]⟩:ByteArray) (Go.bits .and .u64 (af) 31))) (ae.length:Int) (wrap64 (aa+1))) else(none)) else(none))=some r:=by first|(rw[al] at H;exact H)|(simp only[al] at H⊢;exact H)
   have a4:(IntKind.i64.wrap (12 - aa))=ad:=(i64_w _).trans al;replace H:=yA H;obtain⟨aS,H⟩:=H;have aL:=z1 aS
   (try(have aA:=aL;rw[ab] at aA))
   clear aS;replace H:=yA H;obtain⟨aT,H⟩:=H;have aM:=z1 aT
   (try(have aB:=aM;rw[ab] at aB))
   clear aT;obtain⟨ar,am⟩:∃y_:List Int,y_=(ac.set ((ad):Int).toNat (bt (⟨#[48,49,50,51,52,53,54,55,56,57,97,98,99,100,102,103,104,105,106,107,108,109,110,112,113,114,115,118,119,120,121,122]⟩:ByteArray) (Go.bits .and .u64 (af) 31))):=⟨_,rfl⟩
   replace H:(impl_Word32.l0 k1 a0 ar (ae.length:Int) (wrap64 (aa+1)))=some r:=yN0 am H;have aN:=zz am;clear am;have H':=zz H;clear H;have aU:0<=((Go.bits .and .u64 (af) 31):Int):=z2;have aV:(Go.bits .and .u64 (af) 31)<(32:Int):=z2;have bd:=bt_at (⟨#[48,49,50,51,52,53,54,55,56,57,97,98,99,100,102,103,104,105,106,107,108,109,110,112,113,114,115,118,119,120,121,122]⟩:ByteArray) (Go.bits .and .u64 (af) 31);replace aU:=eq_true aU;replace aV:=eq_true aV;have aD:0<=((ad):Int):=z2;have aE:((ad):Int)<((ac.length:Int):Int):=z2;obtain⟨au,be,aF,aG,aZ,bf,aH⟩:=Kd.R_form ag.out yo_
   (first|cases aF|(injection aF with ea_ en_ ec_;(first|subst ea_|(injection ea_ with ea_;subst ea_));subst ec_;clear en_))
   have a1:=zz aG;have bg:=zz aH;clear aG aZ aH;obtain⟨a5,a6⟩:=Kd.R_celln 0 ag.out ((ad):Int) aD aE;replace aD:=eq_true aD;replace aE:=eq_true aE;have av:=Kd.R_putg ag.out ((ad):Int) (bt (⟨#[48,49,50,51,52,53,54,55,56,57,97,98,99,100,102,103,104,105,106,107,108,109,110,112,113,114,115,118,119,120,121,122]⟩:ByteArray) (Go.bits .and .u64 (af) 31));go_wp2_with(first|((with_reducible refine qR (t:=5) (p:=20) rfl ?_);refine ye 5 20 (wr.setCell ⟨au,((ad):Int).toNat,none⟩ (.int .u8 (bt (⟨#[48,49,50,51,52,53,54,55,56,57,97,98,99,100,102,103,104,105,106,107,108,109,110,112,113,114,115,118,119,120,121,122]⟩:ByteArray) (Go.bits .and .u64 (af) 31)))) ?_;intro aI hw;have hg:wr.grownBy aI (some au):=(by rw[hw];exact av.2);have hp_:Kd.R (Kd.int .u8) 5 aI w.heap.size (fun _=>True) (.slice (some ⟨au,0,none⟩) ac.length aO) ar:=(by rw[hw,aN.out];exact av.1);clear av;replace ag:=zz (hp_);replace HB:=zz ((by rw[hw];exact qJ (HB.out) a1.out:Below w.heap.size w aI));clear hg hw hp_))
   (try simp only[<-ab])
   go_roundg k1
   case measure=>exact yM1 aP
   case rel=>exact⟨(ar),(wrap64 (aa+1)),zr,H',⟨yM1 aP⟩,⟨by(try simp only[ab]);(with_reducible repeat(first|apply Kd.vE|apply Kd.vD|apply Kd.qZ));exact ag.out⟩,⟨zb⟩⟩
mutual
def impl_Sum.l0:Nat->Int->List Int->Int->Int->Option (Int)
 |0,_,_,_,_=>none
 |k+1,x3,x6,x7,x8=>if x8<x7 then(if 0<=x8 then(if x8<(x6.length:Int) then(impl_Sum.l0 k (IntKind.u64.wrap ((Go.bits .xor .u64 x3 (IntKind.u64.wrap (rd x6 x8)))*1099511628211)) x6 x7 (wrap64 (x8+1))) else(none)) else(none)) else(impl_Sum.l1 k x3 0)
def impl_Sum.l1:Nat->Int->Int->Option (Int)
 |0,_,_=>none
 |k+1,x3,aa=>if aa<3 then(impl_Sum.l1 k (IntKind.u64.wrap ((Go.bits .xor .u64 x3 (x3 / 536870912))*11400714819323198485)) (wrap64 (aa+1))) else(some (Go.bits .xor .u64 x3 (x3 / 4294967296)))
end
def impl_Sum.f(k:Nat)(l0:List Int):Option (Int):=impl_Sum.l0 k 14695981039346656037 l0 (l0.length:Int) 0
theorem impl_Sum.calls(k:Nat)(A0:Option Addr)(c0:Nat)(l0:List Int)(r:Int)(w:World)(ai:Kd.C (Kd.int .u8) w A0 l0.length l0)(aj:l0.length<=c0)(H:impl_Sum.f k l0=some r):
 Calls Tryz.prog 119 #[.slice A0 l0.length c0] w fun e w'=>e= .returned (.int .u64 r)/\vB w w':=by
 have ap:=zz ai;have aw:=zz aj;clear ai aj;unfold impl_Sum.f at H;have H':=zz H;clear H;go_enter Tryz.func119,Tryz.ntmps119;go_wp2;go_loopg[3,8] k (fun kq v3 v8 w'=>∃(ac:Int) (aa:Int),v3= .int .u64 ac/\v8= .int .i64 aa/\qB (impl_Sum.l0 kq ac l0 (l0.length:Int) aa=some r)/\qB (kq<=k)/\vB w w')
 case atStart=>exact⟨(14695981039346656037),(0),zr,zr,H',⟨Nat.le_refl _⟩,yD0⟩
 case round=>
  clear H';obtain⟨ac,aa,rfl,rfl,HA,ag,⟨m1,rfl⟩⟩:=hrel;cases gk with
  |zero=>exact absurd HA.out (by simp[impl_Sum.l0])
  |succ k1=>
   have H:=HA.out;clear HA;simp only[impl_Sum.l0] at H;refine yD H ?_ ?_<;>clear H<;>intro al H
   ·replace H:=yAD H;obtain⟨am,H⟩:=H;replace H:=yAD H;obtain⟨an,H⟩:=H;have H':=zz H;clear H;have ae:0<=(aa:Int):=z2;have af:aa<(l0.length:Int):=z2;obtain⟨au,ao,ah⟩:=Kd.at_int ap.out aa ae af;cases ao;replace ae:=eq_true ae;replace af:=eq_true af;go_wp2;go_roundg k1
    case measure=>exact yM1 ag
    case rel=>exact⟨(IntKind.u64.wrap ((Go.bits .xor .u64 ac (IntKind.u64.wrap (rd l0 aa)))*1099511628211)),(wrap64 (aa+1)),zr,zr,H',⟨yM1 ag⟩,yD0⟩
   have H':=zz H;clear H;go_wp2;go_loopg[3,18] k1 (fun kq v3 ar w'=>∃(ad:Int) (ab:Int),v3= .int .u64 ad/\ar= .int .i64 ab/\qB (impl_Sum.l1 kq ad ab=some r)/\qB (kq<=k1)/\vB w w')
   case atStart=>exact⟨(ac),(0),zr,zr,H',⟨Nat.le_refl _⟩,yD0⟩
   case round=>
    clear H';try clear al
    try clear am
    try clear an
    try clear ah
    try clear ae
    try clear af
    obtain⟨ad,ab,rfl,rfl,HA,ak,⟨m2,rfl⟩⟩:=hrel;cases gk with
    |zero=>exact absurd HA.out (by simp[impl_Sum.l1])
    |succ k2=>
     have H:=HA.out;clear HA;simp only[impl_Sum.l1] at H;refine yDn H ?_ ?_<;>clear H<;>intro av H
     ·obtain rfl:=zi H;exact yr
     have H':=zz H;clear H;go_wp2;go_roundg k2
     case measure=>exact yM2 ag ak
     case rel=>exact⟨(IntKind.u64.wrap ((Go.bits .xor .u64 ad (ad / 536870912))*11400714819323198485)),(wrap64 (ab+1)),zr,zr,H',⟨yM2 ag ak⟩,yD0⟩
def spec_l10Num.l0:Nat->List Int->Int->Option (List Int)
 |0,_,_=>none
 |k+1,x0,x1=>if x1>=128 then(if x0.length<140737488355328 then(spec_l10Num.l0 k (x0++[(wrap64 ((Int.tmod x1 128)+128)) % 256]) (wrap64 (Int.tdiv x1 128))) else(none)) else(if x0.length<140737488355328 then(some (x0++[(x1) % 256])) else(none))
def spec_l10Num.f(k:Nat)(l0:List Int)(a1:Int):Option (List Int):=spec_l10Num.l0 k l0 a1
theorem spec_l10Num.calls(k:Nat)(ab:Nat->Prop)(ae:Value)(l0:List Int)(a1:Int)(r:List Int)(w0 w:World)(hB:Below w0.heap.size w0 w)(au:Kd.R (Kd.int .u8) 5 w w0.heap.size ab ae l0)(H:spec_l10Num.f k l0 a1=some r):
 Calls Tryz.prog 130 #[ae,.int .i64 a1] w fun e w'=>∃am:Value,e= .returned (am)/\Kd.R (Kd.int .u8) 5 w' w0.heap.size (fun k_=>(ab k_\/w.heap.size<=k_)) am r/\Below w0.heap.size w0 w'/\Kept w w' (fun k_=>ab k_):=by
 have av:=zz (show Kd.R (Kd.int .u8) 5 w w0.heap.size (fun k_=>(ab k_\/w.heap.size<=k_)) ae l0 from Kd.qM au (fun k_ hk=>(.inl hk)));have HK:=zz (Kept.refl w (fun k_=>ab k_));have az:=zz hB.size;have HB:=zz hB;clear hB;unfold spec_l10Num.f at H;have H':=zz H;clear H;go_enter Tryz.func130,Tryz.ntmps130;go_wp2;go_loopg[0,1] k (fun kq v0 v1 w'=>∃(ac:List Int) (aa:Int),v1= .int .i64 aa/\qB (spec_l10Num.l0 kq ac aa=some r)/\qB (kq<=k)/\qB (Kd.R (Kd.int .u8) 5 w' w0.heap.size (fun k_=>(ab k_\/w.heap.size<=k_)) v0 ac)/\qB (Kept w w' (fun k_=>ab k_))/\qB (Below w0.heap.size w0 w'))
 case atStart=>exact⟨(l0),(a1),zr,H',⟨Nat.le_refl _⟩,⟨zR av.out⟩,⟨by repeat(first|(with_reducible first|exact HK.out|apply Kept.alloc|apply Kept.drewN|apply Kept.drew)|exact HK.out)⟩,⟨zb⟩⟩
 case round=>
  clear H';obtain⟨ac,aa,rfl,HA,an,ad,HK,HB⟩:=hrel;cases gk with
  |zero=>exact absurd HA.out (by simp[spec_l10Num.l0])
  |succ k1=>
   have H:=HA.out;clear HA;simp only[spec_l10Num.l0] at H;refine yE H ?_ ?_<;>clear H<;>intro aw H
   ·replace H:=yA H;obtain⟨c4,H⟩:=H;have ao:=zz c4;clear c4;obtain⟨ah,af⟩:∃y_:List Int,y_=(ac++[(wrap64 ((Int.tmod aa 128)+128)) % 256]):=⟨_,rfl⟩
    replace H:(spec_l10Num.l0 k1 ah (wrap64 (Int.tdiv aa 128)))=some r:=yN0 af H;have ai:=zz af;clear af;have H':=zz H;clear H;go_wp2_with(first|((with_reducible refine qP (b:= .append) (xs:= #[.tmp 7,.tmp 12]) rfl ?_);at_builtin;refine Kd.R_append (Kd.int .u8) (w0:=w0) w0.heap.size rfl (.tmp 7) (.tmp 12) 118 5 (.int .u8 0) 1 rfl Tryz.underlying118 info5 rfl yd_ yo_ u0 ac ((wrap64 ((Int.tmod aa 128)+128)) % 256) [.int .u8 ((wrap64 ((Int.tmod aa 128)+128)) % 256)] (fun k_=>(ab k_\/w.heap.size<=k_)) (fun _=>False) rfl rfl ?aP (fun _ hk=>hk.elim) ?aF ?aO ?aB ?aS ?aL ?_;(case aP=>exact rfl);(case aB=>exact zb);(case aF=>exact(fun k_ hk=>(.inr (Nat.le_trans yK1 hk))));(case aO=>exact(zR ad.out));(case aS=>exact(qE zb));(case aL=>have:=ao.out;omega);intro ax w5 ho hb hg hat;rw[<-ai.out] at ho;replace HB:=zz (hb);replace HK:=zz (Kept.of_grown (S:=(fun k_=>ab k_)) hg yK (fun k_ e_=>(ad.out.1 k_ e_)));have aj:=zz (ho);clear ad;clear ho hb hg hat))
    go_roundg k1
    case measure=>exact yM1 an
    case rel=>exact⟨(ah),(wrap64 (Int.tdiv aa 128)),zr,H',⟨yM1 an⟩,⟨zR aj.out⟩,⟨by repeat(first|(with_reducible first|exact HK.out|apply Kept.alloc|apply Kept.drewN|apply Kept.drew)|exact HK.out)⟩,⟨zb⟩⟩
   replace H:=yA H;obtain⟨c6,H⟩:=H;have ap:=zz c6;clear c6;obtain⟨ar,ag⟩:∃y_:List Int,y_=(ac++[(aa) % 256]):=⟨_,rfl⟩
   replace H:(some ar)=some r:=yN0 ag H;have ak:=zz ag;clear ag;obtain rfl:=zi H;go_wp2_with(first|((with_reducible refine qP (b:= .append) (xs:= #[.tmp 16,.tmp 19]) rfl ?_);at_builtin;refine Kd.R_append (Kd.int .u8) (w0:=w0) w0.heap.size rfl (.tmp 16) (.tmp 19) 118 5 (.int .u8 0) 1 rfl Tryz.underlying118 info5 rfl yd_ yo_ u0 ac ((aa) % 256) [.int .u8 ((aa) % 256)] (fun k_=>(ab k_\/w.heap.size<=k_)) (fun _=>False) rfl rfl ?aP (fun _ hk=>hk.elim) ?aF ?aO ?aB ?aS ?aL ?_;(case aP=>exact rfl);(case aB=>exact zb);(case aF=>exact(fun k_ hk=>(.inr (Nat.le_trans yK1 hk))));(case aO=>exact(zR ad.out));(case aS=>exact(qE zb));(case aL=>have:=ap.out;omega);intro ay w7 ho hb hg hat;rw[<-ak.out] at ho;replace HB:=zz (hb);replace HK:=zz (Kept.of_grown (S:=(fun k_=>ab k_)) hg yK (fun k_ e_=>(ad.out.1 k_ e_)));have al:=zz (ho);clear ad;clear ho hb hg hat))
   go_ret;exact⟨_,ze,zR al.out,zb,yK⟩
def impl_varint.l0:Nat->List Int->Int->Option (List Int)
 |0,_,_=>none
 |k+1,x0,x1=>if x1>127 then(if x0.length<140737488355328 then(impl_varint.l0 k (x0++[(Go.bits .or .i64 (Go.bits .and .i64 x1 127) 128) % 256]) (x1 / 128)) else(none)) else(if x0.length<140737488355328 then(some (x0++[(x1) % 256])) else(none))
def impl_varint.f(k:Nat)(l0:List Int)(a1:Int):Option (List Int):=impl_varint.l0 k l0 a1
theorem impl_varint.calls(k:Nat)(ab:Nat->Prop)(ae:Value)(l0:List Int)(a1:Int)(r:List Int)(w0 w:World)(hB:Below w0.heap.size w0 w)(au:Kd.R (Kd.int .u8) 5 w w0.heap.size ab ae l0)(H:impl_varint.f k l0 a1=some r):
 Calls Tryz.prog 132 #[ae,.int .i64 a1] w fun e w'=>∃am:Value,e= .returned (am)/\Kd.R (Kd.int .u8) 5 w' w0.heap.size (fun k_=>(ab k_\/w.heap.size<=k_)) am r/\Below w0.heap.size w0 w'/\Kept w w' (fun k_=>ab k_):=by
 have av:=zz (show Kd.R (Kd.int .u8) 5 w w0.heap.size (fun k_=>(ab k_\/w.heap.size<=k_)) ae l0 from Kd.qM au (fun k_ hk=>(.inl hk)));have HK:=zz (Kept.refl w (fun k_=>ab k_));have az:=zz hB.size;have HB:=zz hB;clear hB;unfold impl_varint.f at H;have H':=zz H;clear H;go_enter Tryz.func132,Tryz.ntmps132;go_wp2;go_loopg[0,1] k (fun kq v0 v1 w'=>∃(ac:List Int) (aa:Int),v1= .int .i64 aa/\qB (impl_varint.l0 kq ac aa=some r)/\qB (kq<=k)/\qB (Kd.R (Kd.int .u8) 5 w' w0.heap.size (fun k_=>(ab k_\/w.heap.size<=k_)) v0 ac)/\qB (Kept w w' (fun k_=>ab k_))/\qB (Below w0.heap.size w0 w'))
 case atStart=>exact⟨(l0),(a1),zr,H',⟨Nat.le_refl _⟩,⟨zR av.out⟩,⟨by repeat(first|(with_reducible first|exact HK.out|apply Kept.alloc|apply Kept.drewN|apply Kept.drew)|exact HK.out)⟩,⟨zb⟩⟩
 case round=>
  clear H';obtain⟨ac,aa,rfl,HA,an,ad,HK,HB⟩:=hrel;cases gk with
  |zero=>exact absurd HA.out (by simp[impl_varint.l0])
  |succ k1=>
   have H:=HA.out;clear HA;simp only[impl_varint.l0] at H;refine yG H ?_ ?_<;>clear H<;>intro aw H
   ·replace H:=yA H;obtain⟨c4,H⟩:=H;have ao:=zz c4;clear c4;obtain⟨ah,af⟩:∃y_:List Int,y_=(ac++[(Go.bits .or .i64 (Go.bits .and .i64 aa 127) 128) % 256]):=⟨_,rfl⟩
    replace H:(impl_varint.l0 k1 ah (aa / 128))=some r:=yN0 af H;have ai:=zz af;clear af;have H':=zz H;clear H;go_wp2_with(first|((with_reducible refine qP (b:= .append) (xs:= #[.tmp 7,.tmp 12]) rfl ?_);at_builtin;refine Kd.R_append (Kd.int .u8) (w0:=w0) w0.heap.size rfl (.tmp 7) (.tmp 12) 118 5 (.int .u8 0) 1 rfl Tryz.underlying118 info5 rfl yd_ yo_ u0 ac ((Go.bits .or .i64 (Go.bits .and .i64 aa 127) 128) % 256) [.int .u8 ((Go.bits .or .i64 (Go.bits .and .i64 aa 127) 128) % 256)] (fun k_=>(ab k_\/w.heap.size<=k_)) (fun _=>False) rfl rfl ?aP (fun _ hk=>hk.elim) ?aF ?aO ?aB ?aS ?aL ?_;(case aP=>exact rfl);(case aB=>exact zb);(case aF=>exact(fun k_ hk=>(.inr (Nat.le_trans yK1 hk))));(case aO=>exact(zR ad.out));(case aS=>exact(qE zb));(case aL=>have:=ao.out;omega);intro ax w5 ho hb hg hat;rw[<-ai.out] at ho;replace HB:=zz (hb);replace HK:=zz (Kept.of_grown (S:=(fun k_=>ab k_)) hg yK (fun k_ e_=>(ad.out.1 k_ e_)));have aj:=zz (ho);clear ad;clear ho hb hg hat))
    go_roundg k1
    case measure=>exact yM1 an
    case rel=>exact⟨(ah),(aa / 128),zr,H',⟨yM1 an⟩,⟨zR aj.out⟩,⟨by repeat(first|(with_reducible first|exact HK.out|apply Kept.alloc|apply Kept.drewN|apply Kept.drew)|exact HK.out)⟩,⟨zb⟩⟩
   replace H:=yA H;obtain⟨c6,H⟩:=H;have ap:=zz c6;clear c6;obtain⟨ar,ag⟩:∃y_:List Int,y_=(ac++[(aa) % 256]):=⟨_,rfl⟩
   replace H:(some ar)=some r:=yN0 ag H;have ak:=zz ag;clear ag;obtain rfl:=zi H;go_wp2_with(first|((with_reducible refine qP (b:= .append) (xs:= #[.tmp 16,.tmp 19]) rfl ?_);at_builtin;refine Kd.R_append (Kd.int .u8) (w0:=w0) w0.heap.size rfl (.tmp 16) (.tmp 19) 118 5 (.int .u8 0) 1 rfl Tryz.underlying118 info5 rfl yd_ yo_ u0 ac ((aa) % 256) [.int .u8 ((aa) % 256)] (fun k_=>(ab k_\/w.heap.size<=k_)) (fun _=>False) rfl rfl ?aP (fun _ hk=>hk.elim) ?aF ?aO ?aB ?aS ?aL ?_;(case aP=>exact rfl);(case aB=>exact zb);(case aF=>exact(fun k_ hk=>(.inr (Nat.le_trans yK1 hk))));(case aO=>exact(zR ad.out));(case aS=>exact(qE zb));(case aL=>have:=ap.out;omega);intro ay w7 ho hb hg hat;rw[<-ak.out] at ho;replace HB:=zz (hb);replace HK:=zz (Kept.of_grown (S:=(fun k_=>ab k_)) hg yK (fun k_ e_=>(ad.out.1 k_ e_)));have al:=zz (ho);clear ad;clear ho hb hg hat))
   go_ret;exact⟨_,ze,zR al.out,zb,yK⟩
def Tight(w:World)(g:Nat)(xs:List Int):Prop:=∃cs e fr,w.heap[g]?=some (.cells cs e fr)/\cs.toList=xs.map (fun x=>Value.int .u8 x)
def RT(e base:Nat)(w:World)(v:Value)(xs:List Int):Prop:=Kd.R (Kd.int .u8) e w base (fun _=>True) v xs\/∃g,v= .slice (some ⟨g,0,none⟩) xs.length xs.length/\Tight w g xs
theorem Tight.cell{w:World}{g:Nat}{xs:List Int}(h:Tight w g xs):∀j u,(xs.map (fun x=>Value.int .u8 x))[j]?=some u->w.cell? ((⟨g,0,none⟩:Addr).add j)=some u:=by
 obtain⟨cs,e,fr,h1,h2⟩:=h;intro j u hj;have ha:(⟨g,0,none⟩:Addr).add j=⟨g,j,none⟩:=by unfold Addr.add;split<;>simp_all
 rw[<-h2,Array.getElem?_toList] at hj;rw[ha];simp[World.cell?,h1,hj]
theorem Tight.old{w w':World}{g:Nat}{xs:List Int}(h:Tight w g xs)(hw:w'.heap[g]?=w.heap[g]?):Tight w' g xs:=by
 obtain⟨cs,e,fr,h1,h2⟩:=h;exact⟨cs,e,fr,hw.trans h1,h2⟩
theorem Tight.lt{w:World}{g:Nat}{xs:List Int}(h:Tight w g xs):g<w.heap.size:=by
 obtain⟨cs,e,fr,h1,h2⟩:=h;exact(Array.getElem?_eq_some_iff.1 h1).1
section
variable {P : Program} {ops : Array Oper} {rest : List Oper} {o : Oper} {a : Act} {Q : Exit -> Act -> World -> Prop}
theorem RT_append{w0 W:World}(base:Nat)(hgd:o.guard=none)(s x:Operand)(t e:TypeId)
 (ho:o.op= .call { callee:= .builtin .append,args:= #[s,x],argTypes:= #[t,t] })
 (ht:P.underlying t=some (.slice e)) (hinfo:(P.info? e).map (fun i=>(i.zero,i.size,i.bytes))=some (some (.int .u8 0),1,1))
 (v:Value) (xs:List Int) (p:Int) (hs:a.eval s=v) (hx:a.eval x= .slice (some ⟨W.heap.size,0,none⟩) 1 1)
 (HO:RT e base W v xs) (HB:Below base w0 W) (hbase:base<=W.heap.size) (hl:xs.length<140737488355328)
 (h:∀v1 w1,Kd.R (Kd.int .u8) e w1 base (fun _=>True) v1 (xs++[p])->Below base w0 w1->wpList P ops Q rest (a.put o.dst v1) w1):
 wpList P ops Q (o::rest) a (W.alloc (.cells #[.int .u8 p] e)):=by
 rcases HO with HO|⟨g,rfl,hT⟩
 ·exact Kd.R_append (Kd.int .u8) (w0:=w0) base hgd s x t e (.int .u8 0) 1 ho ht hinfo rfl yd_ yo_ v xs p [.int .u8 p] (fun _=>True) (fun _=>False) hs hx rfl (fun _ hk=>hk.elim) (fun _ _=>trivial) HO HB hbase yo_ (fun v1 w1 h1 h2 _ _=>h v1 w1 h1 h2)
 ·obtain⟨i0,hi,hzz⟩:=Option.map_eq_some_iff.1 hinfo;simp only[Prod.mk.injEq] at hzz;obtain⟨ab,aa,hz2⟩:=hzz;refine wpList_plain hgd fun K hK=>?_;have hT':Tight (W.alloc (.cells #[.int .u8 p] e)) g xs:=hT.old (Below.heap_alloc W _ g hT.lt);have hr:=run_append_grow (P:=P) (W.alloc (.cells #[.int .u8 p] e)) t o.type e i0 (.int .u8 0) ht hi ab ⟨g,0,none⟩ xs.length xs.length (xs.map (fun x=>Value.int .u8 x)) (by rw[aa];simp) hT'.cell ⟨W.heap.size,0,none⟩ 1 1 [.int .u8 p] (by rw[aa];rfl)
   (by simpa using World.news_of_block (cs:= #[Value.int .u8 p]) (t:=e) (fr:=(0,0)) (heap_alloc_new W (.cells #[.int .u8 p] e))) yo_ yo_ (by rw[hz2];exact growslice_fits yo_ yo_)
  unfold Oper.wp execOp;simp only[ho,resolve,invoke,builtin,Sem.run_bind,Sem.run_pure,Result.andThen_ok,List.map_toArray,List.map_cons,List.map_nil,hs,hx,hr];refine hK _ _ (h _ _ ?_ ?_)
  ·generalize ac:(W.alloc (.cells #[.int .u8 p] e))=W2;have hge:=grownCap_ge W2 (xs.length+1) xs.length e;have hle:=grownCap_le_maxLen W2 (xs.length+1) xs.length e (by simp only[maxLen];omega);have ad:base<=W2.heap.size:=by rw[<-ac];simp;omega
   refine Kd.R_of_own (enc:=Value.int .u8) ⟨by simp[encs],.inr ⟨W2.heap.size,_,_,by simp,ad,heap_alloc_new W2.drew _,by simpa using hge,hle,?_,?_⟩⟩ (fun _ _=>trivial)
   ·simp[size_zeroCells,Value.cells];omega
   ·simp[encs];have e1:∀Z:List Value,List.map (fun x=>Value.int IntKind.u8 x) xs++Value.int IntKind.u8 p::Z=(List.map (fun x=>Value.int IntKind.u8 x) xs++[Value.int IntKind.u8 p])++Z:=fun Z=>by simp
    rw[e1,List.take_left' (by simp)]
  ·exact((HB.alloc hbase _).drew).alloc (by simp;omega) _
theorem lar_event{W:World}(hgd:o.guard=none){N:Tmp}(_hd:o.dst=some N){cs:Array Value}{t:TypeId}
 (hrun:(execOp a.eval o).run P W= .ok (.value (.slice (some ⟨W.heap.size,0,none⟩) cs.size cs.size)) (W.alloc (.cells cs t (0,0))))
 (h:∀g,W.heap.size<=g->∀w1,w1.heap[g]?=some (.cells cs t (0,0))->Below W.heap.size W w1->wpList P ops Q rest (a.put o.dst (.slice (some ⟨g,0,none⟩) cs.size cs.size)) w1):wpList P ops Q (o::rest) a W:=
 Kd.event_run hgd hrun (h _ (Nat.le_refl _) _ (blk_new W _) (qS (Below.refl _ _) _))
theorem mark_event{W:World}(hgd:o.guard=none){t e te:TypeId}{x:Operand}(ho:o.op= .convert t t x)(ht:P.underlying t=some (.slice e))(he:P.underlying e=some (.int .u8)){g n c:Nat}(hx:a.eval x= .slice (some ⟨g,0,none⟩) n c){cs:Array Value}(hb:W.heap[g]?=some (.cells cs te (0,0)))
 (h:∀w1,w1.heap[g]?=some (.cells cs te (cs.size,cs.size+1))->Below g W w1->wpList P ops Q rest (a.put o.dst (.slice (some ⟨g,0,none⟩) n c)) w1):wpList P ops Q (o::rest) a W:=by
 have hr:(execOp a.eval o).run P W= .ok (.value (.slice (some ⟨g,0,none⟩) n c)) (W.freeze ⟨g,cs.size,none⟩ 1):=by
  unfold execOp;simp only[ho,hx,convert,Sem.run_bind,run_underlying ht,run_underlying he,Result.andThen_ok];simp[markStringish,World.shape?,hb]
 have hf:(W.freeze ⟨g,cs.size,none⟩ 1).heap=W.heap.modify g fun
  | .cells c elem (lo,hi)=> .cells c elem (if lo==hi then(cs.size,cs.size+1) else(min lo cs.size,max hi (cs.size+1)))
  |o=>o:=rfl
 refine Kd.event_run hgd hr (h _ ?_ ⟨rfl,rfl,rfl,?_,fun k hk=>?_⟩)
 ·rw[hf,Array.getElem?_modify,if_pos rfl,hb];rfl
 ·rw[hf];simp
 ·rw[hf,Array.getElem?_modify,if_neg yo_]
end
theorem spec_l10Num.lar(k:Nat)(u:Value)(l0:List Int)(a1:Int)(r:List Int)(w0 w:World)(hB:Below w0.heap.size w0 w)(ai:RT 5 w0.heap.size w u l0)(h:spec_l10Num.f k l0 a1=some r):
 Calls Tryz.prog 130 #[u,.int .i64 a1] w fun e w'=>∃aj:Value,e= .returned (aj)/\Kd.R (Kd.int .u8) 5 w' w0.heap.size (fun _=>True) aj r/\Below w0.heap.size w0 w':=by
 have ak:=qB.mk ai;have HB:=qB.mk hB;clear hB ai;have H:(spec_l10Num.l0 k l0 a1)=some r:=h;clear h;have H':=qB.mk H;clear H;go_enter Tryz.func130,Tryz.ntmps130;go_wp2;go_loopg[0,1] k (fun kq v0 v1 w'=>∃(ab:List Int) (aa:Int),v1= .int .i64 aa/\qB (spec_l10Num.l0 kq ab aa=some r)/\qB (kq<=k)/\qB (RT 5 w0.heap.size w' v0 ab)/\qB (Below w0.heap.size w0 w'))
 case atStart=>exact⟨l0,a1,by first|rfl|(simp;done),H',⟨Nat.le_refl _⟩,ak,HB⟩
 case round=>
  clear H' ak;obtain⟨ab,aa,rfl,HA,al,ad,HB⟩:=hrel;cases gk with
  |zero=>exact absurd HA.out (by simp[spec_l10Num.l0])
  |succ k1=>
   have H:=HA.out;clear HA;simp only[spec_l10Num.l0] at H;by_cases c3:aa>=128
   ·rw[if_pos c3] at H;have am:decide (128<=aa)=true:=decide_eq_true c3;clear c3;by_cases c4:ab.length<140737488355328
    ·rw[if_pos c4] at H;have an:=qB.mk c4;clear c4;obtain⟨y1,ac⟩:∃y_:List Int,y_=(ab++[(wrap64 ((Int.tmod aa 128)+128)) % 256]):=⟨_,rfl⟩
     rw[<-ac] at H;have ag:=qB.mk ac;clear ac;have H':=qB.mk H;clear H;go_wp2_with(first|((with_reducible refine qP (b:= .append) (xs:= #[.tmp 7,.tmp 12]) rfl ?_);at_builtin;refine RT_append (w0:=w0) w0.heap.size rfl (.tmp 7) (.tmp 12) 118 5 rfl Tryz.underlying118 info5 u0 ab ((wrap64 ((Int.tmod aa 128)+128)) % 256) rfl rfl ad.out HB.out (qE HB.out) an.out ?_;intro ap w5 ho hb;rw[<-ag.out] at ho;have ae:=qB.mk hb;have af:=qB.mk ho;clear HB ad;have HB:=ae;have ah:=af;clear ae af ho hb))
     go_roundg k1
     case measure=>have:=al.out;omega
     case rel=>exact⟨y1,wrap64 (Int.tdiv aa 128),by first|rfl|(simp;done)|(simp[*];done),H',⟨by have:=al.out;omega⟩,⟨.inl ah.out⟩,HB⟩
    ·rw[if_neg c4] at H;exact absurd H (by simp)
   ·rw[if_neg c3] at H;have am:decide (128<=aa)=false:=decide_eq_false c3;clear c3;by_cases c6:ab.length<140737488355328
    ·rw[if_pos c6] at H;have ao:=qB.mk c6;clear c6;obtain⟨y1,ac⟩:∃y_:List Int,y_=(ab++[(aa) % 256]):=⟨_,rfl⟩
     rw[<-ac] at H;have ag:=qB.mk ac;clear ac;obtain rfl:=Option.some.inj H;go_wp2_with(first|((with_reducible refine qP (b:= .append) (xs:= #[.tmp 16,.tmp 19]) rfl ?_);at_builtin;refine RT_append (w0:=w0) w0.heap.size rfl (.tmp 16) (.tmp 19) 118 5 rfl Tryz.underlying118 info5 u0 ab ((aa) % 256) rfl rfl ad.out HB.out (qE HB.out) ao.out ?_;intro ar w7 ho hb;rw[<-ag.out] at ho;have ae:=qB.mk hb;have af:=qB.mk ho;clear HB ad;have HB:=ae;have ah:=af;clear ae af ho hb))
     go_ret;exact⟨_,by first|rfl|(simp[*];done),ah.out,HB.out⟩
    ·rw[if_neg c6] at H;exact absurd H (by simp)
theorem impl_varint.lar(k:Nat)(u:Value)(l0:List Int)(a1:Int)(r:List Int)(w0 w:World)(hB:Below w0.heap.size w0 w)(ai:RT 5 w0.heap.size w u l0)(h:impl_varint.f k l0 a1=some r):
 Calls Tryz.prog 132 #[u,.int .i64 a1] w fun e w'=>∃aj:Value,e= .returned (aj)/\Kd.R (Kd.int .u8) 5 w' w0.heap.size (fun _=>True) aj r/\Below w0.heap.size w0 w':=by
 have ak:=qB.mk ai;have HB:=qB.mk hB;clear hB ai;have H:(impl_varint.l0 k l0 a1)=some r:=h;clear h;have H':=qB.mk H;clear H;go_enter Tryz.func132,Tryz.ntmps132;go_wp2;go_loopg[0,1] k (fun kq v0 v1 w'=>∃(ab:List Int) (aa:Int),v1= .int .i64 aa/\qB (impl_varint.l0 kq ab aa=some r)/\qB (kq<=k)/\qB (RT 5 w0.heap.size w' v0 ab)/\qB (Below w0.heap.size w0 w'))
 case atStart=>exact⟨l0,a1,by first|rfl|(simp;done),H',⟨Nat.le_refl _⟩,ak,HB⟩
 case round=>
  clear H' ak;obtain⟨ab,aa,rfl,HA,al,ad,HB⟩:=hrel;cases gk with
  |zero=>exact absurd HA.out (by simp[impl_varint.l0])
  |succ k1=>
   have H:=HA.out;clear HA;simp only[impl_varint.l0] at H;by_cases c3:aa>127
   ·rw[if_pos c3] at H;have am:decide (127<aa)=true:=decide_eq_true c3;clear c3;by_cases c4:ab.length<140737488355328
    ·rw[if_pos c4] at H;have an:=qB.mk c4;clear c4;obtain⟨y1,ac⟩:∃y_:List Int,y_=(ab++[(Go.bits .or .i64 (Go.bits .and .i64 aa 127) 128) % 256]):=⟨_,rfl⟩
     rw[<-ac] at H;have ag:=qB.mk ac;clear ac;have H':=qB.mk H;clear H;go_wp2_with(first|((with_reducible refine qP (b:= .append) (xs:= #[.tmp 7,.tmp 12]) rfl ?_);at_builtin;refine RT_append (w0:=w0) w0.heap.size rfl (.tmp 7) (.tmp 12) 118 5 rfl Tryz.underlying118 info5 u0 ab ((Go.bits .or .i64 (Go.bits .and .i64 aa 127) 128) % 256) rfl rfl ad.out HB.out (qE HB.out) an.out ?_;intro ap w5 ho hb;rw[<-ag.out] at ho;have ae:=qB.mk hb;have af:=qB.mk ho;clear HB ad;have HB:=ae;have ah:=af;clear ae af ho hb))
     go_roundg k1
     case measure=>have:=al.out;omega
     case rel=>exact⟨y1,aa / 128,by first|rfl|(simp;done)|(simp[*];done),H',⟨by have:=al.out;omega⟩,⟨.inl ah.out⟩,HB⟩
    ·rw[if_neg c4] at H;exact absurd H (by simp)
   ·rw[if_neg c3] at H;have am:decide (127<aa)=false:=decide_eq_false c3;clear c3;by_cases c6:ab.length<140737488355328
    ·rw[if_pos c6] at H;have ao:=qB.mk c6;clear c6;obtain⟨y1,ac⟩:∃y_:List Int,y_=(ab++[(aa) % 256]):=⟨_,rfl⟩
     rw[<-ac] at H;have ag:=qB.mk ac;clear ac;obtain rfl:=Option.some.inj H;go_wp2_with(first|((with_reducible refine qP (b:= .append) (xs:= #[.tmp 16,.tmp 19]) rfl ?_);at_builtin;refine RT_append (w0:=w0) w0.heap.size rfl (.tmp 16) (.tmp 19) 118 5 rfl Tryz.underlying118 info5 u0 ab ((aa) % 256) rfl rfl ad.out HB.out (qE HB.out) ao.out ?_;intro ar w7 ho hb;rw[<-ag.out] at ho;have ae:=qB.mk hb;have af:=qB.mk ho;clear HB ad;have HB:=ae;have ah:=af;clear ae af ho hb))
     go_ret;exact⟨_,by first|rfl|(simp[*];done),ah.out,HB.out⟩
    ·rw[if_neg c6] at H;exact absurd H (by simp)
def impl_PackTree.l0:Nat->List Int->List (S63)->Int->Int->Option (List Int)
 |0,_,_,_,_=>none
 |k+1,x3,ab,ac,aa=>if aa<ac then(if 0<=aa then(if aa<(ab.length:Int) then(if(qA ab aa).f3=true then(if x3.length<140737488355328 then((impl_varint.f k (x3++[(((qA ab aa).f1)+16) % 256]) (((qA ab aa).f0).size:Int)).bind fun ad=>(if ad.length+((qA ab aa).f0).size<140737488355328 then((impl_varint.f k (ad++bytesOf ((qA ab aa).f0)) (((qA ab aa).f2).size:Int)).bind fun ae=>(if ae.length+((qA ab aa).f2).size<140737488355328 then(impl_PackTree.l0 k (ae++bytesOf ((qA ab aa).f2)) ab ac (wrap64 (aa+1))) else(none))) else(none))) else(none)) else(if x3.length<140737488355328 then((impl_varint.f k (x3++[((qA ab aa).f1) % 256]) (((qA ab aa).f0).size:Int)).bind fun af=>(if af.length+((qA ab aa).f0).size<140737488355328 then((impl_varint.f k (af++bytesOf ((qA ab aa).f0)) (((qA ab aa).f2).size:Int)).bind fun ag=>(if ag.length+((qA ab aa).f2).size<140737488355328 then(impl_PackTree.l0 k (ag++bytesOf ((qA ab aa).f2)) ab ac (wrap64 (aa+1))) else(none))) else(none))) else(none))) else(none)) else(none)) else(some x3)
def impl_PackTree.f(k:Nat)(l0:List (S63)):Option (List Int):=(impl_TreeOk.f k l0).bind fun aa=>(if aa=true then((impl_varint.f k (([76,65,82,49]:List Int)) (l0.length:Int)).bind fun ab=>(impl_PackTree.l0 k ab l0 (l0.length:Int) 0)) else(some ([]:List Int)))
def impl_PackTree.T10:Bool×List (List Nat×List Nat):=(true,[([],[]),([],[]),([1],[1]),([0,2],[0,2]),([],[]),([4],[4]),([5],[5]),([3,6,3],[3,6]),([],[]),([8],[8]),([7,9,7],[7,9]),([10,10,0,1,2,3,4,5,6,7,8,9,10],[0,10])])
def impl_PackTree.B10:List Nat:=[0,0,2,7,0,16,48,127,0,256,1023,2047]
theorem impl_PackTree.tab10:rtab .any (opsOf Tryz.f120 10)=impl_PackTree.T10:=by kernel_rfl
theorem impl_PackTree.bits10:waitsOk impl_PackTree.T10.2 impl_PackTree.B10=true:=by kernel_rfl
def impl_PackTree.T11:Bool×List (List Nat×List Nat):=(true,[([],[]),([],[]),([1],[1]),([2],[2]),([0,3],[0,3]),([],[]),([5],[5]),([4,6,4],[4,6]),([7,7,0,1,2,3,4,5,6,7],[0,7])])
def impl_PackTree.B11:List Nat:=[0,0,2,6,15,0,32,127,255]
theorem impl_PackTree.tab11:rtab .any (opsOf Tryz.f120 11)=impl_PackTree.T11:=by kernel_rfl
theorem impl_PackTree.bits11:waitsOk impl_PackTree.T11.2 impl_PackTree.B11=true:=by kernel_rfl
theorem impl_PackTree.calls(k:Nat)(A0:Option Addr)(c0:Nat)(l0:List (S63))(r:List Int)(w:World)(bR:Kd.C k63 w A0 l0.length l0)(bS:l0.length<=c0)(hG_:GOK w)(H:impl_PackTree.f k l0=some r):
 Calls Tryz.prog 120 #[.slice A0 l0.length c0] w fun e w'=>∃bT:Value,e= .returned (bT)/\Kd.R (Kd.int .u8) 5 w' w.heap.size (fun _=>True) bT r/\Below w.heap.size w w':=by
 have cM:=Tryz.underlying63;have HG:=zz hG_;clear hG_;have be:=zz bR;have bU:=zz bS;clear bR bS;have HB:=yB w;unfold impl_PackTree.f at H;replace H:=zf H;obtain⟨b5,bV,H⟩:=H;try dsimp only at H
 have A2:=zz bV;clear bV;by_cases c3:b5=true
 case neg=>
  replace c3:=Bool.eq_false_iff.mpr c3;subst c3;rw[if_neg (show¬(false=true) by decide)] at H;obtain rfl:=zi H;go_enter Tryz.func120,Tryz.ntmps120;go_wp2_with(first|(refine zL 30 8 Tryz.func30 #[.slice A0 l0.length c0] ?_;(with_reducible refine(impl_TreeOk.calls k _ _ l0 false _ ?s1 ?s2 ?s3 A2.out).mono ?_);(case s1=>exact zd be.out);(case s2=>exact bU.out);(case s3=>exact zG);rintro e cQ ⟨rfl,hb⟩;refine⟨_,rfl,?_⟩;replace HB:=zz (zv zb hb);(try clear hb);(try clear hi)))
  go_ret;exact⟨_,ze,by first|exact Kd.R_nil _ _ _ _ _|exact Kd.N_nil _ _ _ _ _|exact Kd.V_nil _ _ _ _ _|exact Kd.Q_nil _ _ _ _ _|exact Kd.S_nil _ _ _ _ _,zb⟩
 subst c3;rw[if_pos rfl] at H;obtain⟨a1,aM⟩:∃y_:List Int,y_=(([76,65,82,49]:List Int)):=⟨_,rfl⟩
 replace H:((impl_varint.f k a1 (l0.length:Int)).bind fun a2=>(impl_PackTree.l0 k a2 l0 (l0.length:Int) 0))=some r:=yN0 aM H;have bA:=zz aM;clear aM;replace H:=zf H;obtain⟨a2,bW,H⟩:=H;try dsimp only at H
 have A4:=zz bW;clear bW;have H':=zz H;clear H;go_enter Tryz.func120,Tryz.ntmps120;go_wp2_with(first|(refine zL 30 8 Tryz.func30 #[.slice A0 l0.length c0] ?_;(with_reducible refine(impl_TreeOk.calls k _ _ l0 true _ ?s1 ?s2 ?s3 A2.out).mono ?_);(case s1=>exact zd be.out);(case s2=>exact bU.out);(case s3=>exact zG);rintro e w5 ⟨rfl,hb⟩;refine⟨_,rfl,?_⟩;replace HB:=zz (zv zb hb);(try clear hb);(try clear hi))|(refine zN 10 ?_;refine lar_event ?hg (N:=10) ?hd (cs:= #[.int .u8 76,.int .u8 65,.int .u8 82,.int .u8 49]) (t:=5) ?hr ?_;(case hd=>rfl);(case hg=>rfl);(case hr=>first|(go_simp;done)|(go_simp;rfl));intro gl hgl w6 hlb hb;have aj:=zz (zv zb hb);have b6:=zz (Nat.le_trans (qE zb) hgl);have bk:=zz hlb;clear HB hb hgl hlb;have HB:=aj;clear aj)|(refine zN 11 ?_;refine mark_event rfl rfl Tryz.underlying118 Tryz.underlying5 (g:=gl) rfl bk.out ?_;intro w7 hlc hb;have aj:=zz (HB.out.trans (hb.mono b6.out));have hT:=zz (show RT 5 w.heap.size w7 (.slice (some ⟨gl,0,none⟩) 4 4) a1 by rw[bA.out];exact .inr ⟨gl,rfl,_,_,_,hlc,rfl⟩);clear HB hb hlc bk;have HB:=aj;clear aj)|(refine zL 132 14 Tryz.func132 #[.slice (some ⟨gl,0,none⟩) 4 4,.int .i64 (l0.length:Int)] ?_;(with_reducible refine(impl_varint.lar k _ a1 _ _ w _ HB.out hT.out A4.out).mono ?_);rintro e w9 ⟨cN,rfl,ae,hb⟩;refine⟨_,rfl,?_⟩;have aw:=zz ae;have aj:=zz hb;clear HB;have bB:=aw;have HB:=aj;clear aw aj hb ae))
 go_loopg[3,17] k (fun kq v3 cA w'=>∃(af:List Int) (aa:Int),cA= .int .i64 aa/\qB (impl_PackTree.l0 kq af l0 (l0.length:Int) aa=some r)/\qB (kq<=k)/\qB (Kd.R (Kd.int .u8) 5 w' w.heap.size (fun _=>True) v3 af)/\qB (Below w.heap.size w w'))
 case atStart=>exact⟨(a2),(0),zr,H',⟨Nat.le_refl _⟩,⟨zR bB.out⟩,⟨zb⟩⟩
 case round=>
  clear H';try clear c3
  obtain⟨af,aa,rfl,HA,bf,ad,HB⟩:=hrel;cases gk with
  |zero=>exact absurd HA.out (by simp[impl_PackTree.l0])
  |succ k1=>
   have H:=HA.out;clear HA;simp only[impl_PackTree.l0] at H;refine yDn H ?_ ?_<;>clear H<;>intro cJ H
   ·obtain rfl:=zi H;go_wp2;go_ret;exact⟨_,ze,zR ad.out,zb⟩
   replace H:=yAD H;obtain⟨cK,H⟩:=H;replace H:=yAD H;obtain⟨cL,H⟩:=H;obtain⟨bn,aN⟩:∃b_:Bool,b_=((qA l0 aa).f3):=⟨_,rfl⟩
   replace H:(if bn=true then(if af.length<140737488355328 then((impl_varint.f k1 (af++[(((qA l0 aa).f1)+16) % 256]) (((qA l0 aa).f0).size:Int)).bind fun an=>(if an.length+((qA l0 aa).f0).size<140737488355328 then((impl_varint.f k1 (an++bytesOf ((qA l0 aa).f0)) (((qA l0 aa).f2).size:Int)).bind fun ah=>(if ah.length+((qA l0 aa).f2).size<140737488355328 then(impl_PackTree.l0 k1 (ah++bytesOf ((qA l0 aa).f2)) l0 (l0.length:Int) (wrap64 (aa+1))) else(none))) else(none))) else(none)) else(if af.length<140737488355328 then((impl_varint.f k1 (af++[((qA l0 aa).f1) % 256]) (((qA l0 aa).f0).size:Int)).bind fun ao=>(if ao.length+((qA l0 aa).f0).size<140737488355328 then((impl_varint.f k1 (ao++bytesOf ((qA l0 aa).f0)) (((qA l0 aa).f2).size:Int)).bind fun ai=>(if ai.length+((qA l0 aa).f2).size<140737488355328 then(impl_PackTree.l0 k1 (ai++bytesOf ((qA l0 aa).f2)) l0 (l0.length:Int) (wrap64 (aa+1))) else(none))) else(none))) else(none)))=some r:=by rw[<-aN] at H;exact H
   have aA:=zz aN;clear aN;by_cases bg:bn=true
   ·subst bg;rw[if_pos rfl] at H;replace H:=yA H;obtain⟨bX,H⟩:=H;have bC:=zz bX;clear bX;obtain⟨aE,aQ⟩:∃y_:List Int,y_=(af++[(((qA l0 aa).f1)+16) % 256]):=⟨_,rfl⟩
    replace H:((impl_varint.f k1 aE (((qA l0 aa).f0).size:Int)).bind fun an=>(if an.length+((qA l0 aa).f0).size<140737488355328 then((impl_varint.f k1 (an++bytesOf ((qA l0 aa).f0)) (((qA l0 aa).f2).size:Int)).bind fun ah=>(if ah.length+((qA l0 aa).f2).size<140737488355328 then(impl_PackTree.l0 k1 (ah++bytesOf ((qA l0 aa).f2)) l0 (l0.length:Int) (wrap64 (aa+1))) else(none))) else(none)))=some r:=yN0 aQ H;have bD:=zz aQ;clear aQ;replace H:=zf H;obtain⟨an,bo,H⟩:=H;try dsimp only at H
    have cB:=zz bo;clear bo;replace H:=yA H;obtain⟨bY,H⟩:=H;have bE:=zz bY;clear bY;obtain⟨ay,aR⟩:∃y_:List Int,y_=(an++bytesOf ((qA l0 aa).f0)):=⟨_,rfl⟩
    replace H:((impl_varint.f k1 ay (((qA l0 aa).f2).size:Int)).bind fun ah=>(if ah.length+((qA l0 aa).f2).size<140737488355328 then(impl_PackTree.l0 k1 (ah++bytesOf ((qA l0 aa).f2)) l0 (l0.length:Int) (wrap64 (aa+1))) else(none)))=some r:=yN0 aR H;have bF:=zz aR;clear aR;replace H:=zf H;obtain⟨ah,bq,H⟩:=H;try dsimp only at H
    have cC:=zz bq;clear bq;replace H:=yA H;obtain⟨bZ,H⟩:=H;have bG:=zz bZ;clear bZ;obtain⟨a3,aT⟩:∃y_:List Int,y_=(ah++bytesOf ((qA l0 aa).f2)):=⟨_,rfl⟩
    replace H:(impl_PackTree.l0 k1 a3 l0 (l0.length:Int) (wrap64 (aa+1)))=some r:=yN0 aT H;have bH:=zz aT;clear aT;have H':=zz H;clear H;have b7:=yt (0<=(aa:Int));have b8:=yt (aa<(l0.length:Int));obtain⟨bI,a4,ak,al,am,ag⟩:=vF be.out aa z2 z2
    (try rw[<-aA.out] at ag);(try rw[<-aA.out] at bj)
    cases a4;replace ak:=z3 HB.out ak;replace al:=z3 HB.out al;replace am:=z3 HB.out am;replace ag:=z3 HB.out ag;try go_wp2_with(first|(refine zX 5 63 #[.string (⟨#[]⟩:ByteArray),.int .i64 0,.string (⟨#[]⟩:ByteArray),.bool false] ?_;intro ac hg bh hbox hb;replace ad:=zz (Kd.vH (zR ad.out) hb);have ab:=zz (hbox);have ax:=zz ((zg:w.heap.size<=ac));replace HB:=zz (zv zb hb);clear hb hbox hg;obtain⟨ch,ci,cj,ck,cm,cn,co,cp⟩:=zc4 ab.out))
    have aw:qB (Kd.R (Kd.int .u8) 5 ((((bh.setCell ⟨ac,0,none⟩ (.string ((qA l0 aa).f0))).setCell ⟨ac,1,none⟩ (.int .i64 ((qA l0 aa).f1))).setCell ⟨ac,2,none⟩ (.string ((qA l0 aa).f2))).setCell ⟨ac,3,none⟩ (.bool true)) w.heap.size (fun _=>True) u3 af):=⟨yV (Kd.R_types ad.out ab.out yd_)⟩
    have aj:qB (((((bh.setCell ⟨ac,0,none⟩ (.string ((qA l0 aa).f0))).setCell ⟨ac,1,none⟩ (.int .i64 ((qA l0 aa).f1))).setCell ⟨ac,2,none⟩ (.string ((qA l0 aa).f2))).setCell ⟨ac,3,none⟩ (.bool true)).heap[ac]?=some (.cells #[.string ((qA l0 aa).f0),.int .i64 ((qA l0 aa).f1),.string ((qA l0 aa).f2),.bool true] 63 (0,0))):=⟨yP ab.out⟩
    have aG:qB (Below w.heap.size w ((((bh.setCell ⟨ac,0,none⟩ (.string ((qA l0 aa).f0))).setCell ⟨ac,1,none⟩ (.int .i64 ((qA l0 aa).f1))).setCell ⟨ac,2,none⟩ (.string ((qA l0 aa).f2))).setCell ⟨ac,3,none⟩ (.bool true))):=⟨zb⟩
    (try clear ad)
    (try clear ab)
    (try clear HB)
    generalize((((bh.setCell ⟨ac,0,none⟩ (.string ((qA l0 aa).f0))).setCell ⟨ac,1,none⟩ (.int .i64 ((qA l0 aa).f1))).setCell ⟨ac,2,none⟩ (.string ((qA l0 aa).f2))).setCell ⟨ac,3,none⟩ (.bool true))=cD at aw aj aG⊢;have ad:=aw;have ab:=aj;have HB:=aG;clear aw aj aG;replace ad:=zz (Kd.qZ ad.out);replace ab:=zz (blk_drew ab.out);replace HB:=zz (qK HB.out);refine start_ (n:=12) (S:=fun w'=>w'.cell? ⟨ac,0,none⟩=some (.string ((qA l0 aa).f0))/\w'.cell? ⟨ac,1,none⟩=some (.int .i64 ((qA l0 aa).f1))/\w'.cell? ⟨ac,2,none⟩=some (.string ((qA l0 aa).f2))/\w'.cell? ⟨ac,3,none⟩=some (.bool true)) (ds:=[]) (bp 0 12) zk rfl rfl (zy4 ab.out) (fun hHeld=>?_);refine with_tabW impl_PackTree.tab10 impl_PackTree.bits10 (fun HT_ HW_=>?_);generalize cD.drew=cR at ad ab HB hHeld⊢;refine zp 0 28 (bp 1 11) ?_;refine zp 1 29 (bp 2 10) ?_;refine zp 4 32 (bm 12 19) ?_;refine zp 8 36 (bm 12 275) ?_;refine zt 5 33 (bm 12 307) ?_;refine zp 6 34 (bm 12 371) ?_;refine zt 9 37 (bm 12 883) ?_;refine zo 2 30 (bm 12 887) fun K hK=>?_;refine value_ (w1:=?_) (v:=?_) (by rfl) rfl ?_ ?_;rotate_left 2
    ·go_simp;constructor
     ·rfl
     ·rfl
    refine hK.out _ _ ⟨(qV (blk_alloc ab.out _) 0).trans rfl,(qV (blk_alloc ab.out _) 1).trans rfl,(qV (blk_alloc ab.out _) 2).trans rfl,(qV (blk_alloc ab.out _) 3).trans rfl⟩ (fun hHeld=>?_);clear hK K;refine zn 30 ?_;refine zo 3 31 (bm 12 895) fun K hK=>?_;refine Kd.R_append_step (Kd.int .u8) (w0:=w) w.heap.size (by rfl) (.tmp 28) (.tmp 30) 118 5 (.int .u8 0) 1 rfl Tryz.underlying118 info5 rfl yd_ yo_ u3 af ((((qA l0 aa).f1)+16) % 256) [.int .u8 ((((qA l0 aa).f1)+16) % 256)] (fun _=>True) (fun _=>False) rfl rfl ?aP (fun _ hk=>hk.elim) ?aF ?aO ?aB ?aS ?aL ?_
    (case aP=>exact rfl)
    (case aB=>exact zb)
    (case aF=>exact(fun _ _=>trivial))
    (case aO=>exact(zR ad.out))
    (case aS=>exact(qE zb))
    (case aL=>have:=bC.out;omega)
    intro cO cS ho hb hg hat;rw[<-bD.out] at ho;replace ab:=zz (zK ab hg (Kd.R_ne ad.out ab.out yd_));replace HB:=zz (hb);have aC:=zz (ho);clear ad;clear ho hb hg hat;obtain⟨a5,a6,br⟩:=Kd.qW aC.out
    (first|subst br|(injection br with au aH av;have aI:=au.symm;have aJ:=av.symm;clear au aH av;subst aI;subst aJ))
    refine hK.out _ _ (zy4 ab.out) (fun hHeld=>?_);clear hK K;refine zn 31 ?_;refine zo 7 35 (bp 10 2) fun K hK=>?_;refine zh Tryz.func132 #[.slice a5 aE.length a6,.int .i64 (((qA l0 aa).f0).size:Int)] ?_;with_reducible refine(impl_varint.calls k1 (fun k_=>some k_=(.slice a5 aE.length a6:Value).ownBlock) (.slice a5 aE.length a6) aE (((qA l0 aa).f0).size:Int) an w _ ?s1 ?s2 cB.out).mono ?_
    (case s1=>repeat(first|(with_reducible first|exact HB.out|apply qS|apply qQ|apply qK|refine qJ ?_ ax.out)|exact HB.out))
    (case s2=>exact Kd.R_tight rfl aC.out)
    rintro e cT ⟨b9,rfl,ae,hb,hkp⟩;refine⟨_,rfl,?_⟩;replace ab:=zz (blk_kept (zB ab.out) hkp (fun hs_=>(fun e_=>(Kd.R_ne aC.out ab.out yd_) e_) hs_));have aU:=zz (Kd.qM (ok':=fun k_=>True) ae (fun k_ hk_=>trivial));replace HB:=zz (hb);clear aC
    (try clear hb)
    (try clear hkp)
    (try clear ae)
    refine hK.out _ _ (zy4 ab.out) (fun hHeld=>?_);clear hK K;refine zn 35 ?_;refine zo 10 38 (bp 11 1) fun K hK=>?_;refine print_append_str_step (w0:=w) w.heap.size (by rfl) (.tmp 35) _ 118 9 5 rfl Tryz.underlying118 Tryz.underlying9 info5 b9 an ((qA l0 aa).f0) rfl rfl ?aO ?aB ?aS ?aL ?_
    (case aB=>exact zb)
    (case aO=>exact(Kd.own_of_R (zR aU.out)))
    (case aS=>exact(qE zb))
    (case aL=>have:=bE.out;omega)
    intro ca b0 ae hb hg;have ho:=Kd.R_of_own (h1:=fun _=>rfl) (ok:=fun _=>True) ae (fun _ _=>trivial);clear ae;have hat:=True.intro;rw[<-bF.out] at ho;change Kd.R (Kd.int .u8) 5 b0 w.heap.size (fun _=>True) ca ay at ho;replace ab:=zz (zK ab hg (Kd.R_ne aU.out ab.out yd_));replace HB:=zz (hb);have ap:=zz (ho);clear aU;clear ho hb hg hat;refine hK.out _ _ (zy4 ab.out) (fun hHeld=>?_);clear hK K;refine zn 38 ?_;refine zp 11 3 (bp 12 0) ?_;refine done_ (done_of HT_.out zk) ?_;try go_wp2
    replace ap:=zz (Kd.qZ ap.out);replace ab:=zz (blk_drew ab.out);replace HB:=zz (qK HB.out);obtain⟨a7,a8,bs⟩:=Kd.qW ap.out
    (first|subst bs|(injection bs with au aH av;have aI:=au.symm;have aJ:=av.symm;clear au aH av;subst aI;subst aJ))
    refine start_ (n:=9) (S:=fun w'=>w'.cell? ⟨ac,0,none⟩=some (.string ((qA l0 aa).f0))/\w'.cell? ⟨ac,1,none⟩=some (.int .i64 ((qA l0 aa).f1))/\w'.cell? ⟨ac,2,none⟩=some (.string ((qA l0 aa).f2))/\w'.cell? ⟨ac,3,none⟩=some (.bool true)) (ds:=[]) (bp 0 9) zk rfl rfl (zy4 ab.out) (fun hHeld=>?_);refine with_tabW impl_PackTree.tab11 impl_PackTree.bits11 (fun HT_ HW_=>?_);generalize b0.drew=cU at ap ab HB hHeld⊢;refine zp 0 39 (bp 1 8) ?_;refine zp 1 40 (bp 2 7) ?_;refine zp 5 44 (bm 9 35) ?_;refine zt 2 41 (bm 9 39) ?_;refine zp 3 42 (bm 9 47) ?_;refine zt 6 45 (bm 9 111) ?_;refine zo 4 43 (bp 7 2) fun K hK=>?_;refine zh Tryz.func132 #[.slice a7 ay.length a8,.int .i64 (((qA l0 aa).f2).size:Int)] ?_;with_reducible refine(impl_varint.calls k1 (fun k_=>some k_=(.slice a7 ay.length a8:Value).ownBlock) (.slice a7 ay.length a8) ay (((qA l0 aa).f2).size:Int) ah w _ ?s1 ?s2 cC.out).mono ?_
    (case s1=>repeat(first|(with_reducible first|exact HB.out|apply qS|apply qQ|apply qK|refine qJ ?_ ax.out)|exact HB.out))
    (case s2=>exact Kd.R_tight rfl ap.out)
    rintro e cV ⟨cb,rfl,ae,hb,hkp⟩;refine⟨_,rfl,?_⟩;replace ab:=zz (blk_kept (zB ab.out) hkp (fun hs_=>(fun e_=>(Kd.R_ne ap.out ab.out yd_) e_) hs_));have aV:=zz (Kd.qM (ok':=fun k_=>True) ae (fun k_ hk_=>trivial));replace HB:=zz (hb);clear ap
    (try clear hb)
    (try clear hkp)
    (try clear ae)
    refine hK.out _ _ (zy4 ab.out) (fun hHeld=>?_);clear hK K;refine zn 43 ?_;refine zo 7 46 (bp 8 1) fun K hK=>?_;refine print_append_str_step (w0:=w) w.heap.size (by rfl) (.tmp 43) _ 118 9 5 rfl Tryz.underlying118 Tryz.underlying9 info5 cb ah ((qA l0 aa).f2) rfl rfl ?aO ?aB ?aS ?aL ?_
    (case aB=>exact zb)
    (case aO=>exact(Kd.own_of_R (zR aV.out)))
    (case aS=>exact(qE zb))
    (case aL=>have:=bG.out;omega)
    intro cc cE ae hb hg;have ho:=Kd.R_of_own (h1:=fun _=>rfl) (ok:=fun _=>True) ae (fun _ _=>trivial);clear ae;have hat:=True.intro;rw[<-bH.out] at ho;change Kd.R (Kd.int .u8) 5 cE w.heap.size (fun _=>True) cc a3 at ho;replace ab:=zz (zK ab hg (Kd.R_ne aV.out ab.out yd_));replace HB:=zz (hb);have bJ:=zz (ho);clear aV;clear ho hb hg hat;refine hK.out _ _ (zy4 ab.out) (fun hHeld=>?_);clear hK K;refine zn 46 ?_;refine zp 8 3 (bp 9 0) ?_;refine done_ (done_of HT_.out zk) ?_;try go_wp2
    go_roundg k1
    case measure=>exact yM1 bf
    case rel=>exact⟨(a3),(wrap64 (aa+1)),zr,H',⟨yM1 bf⟩,⟨zR bJ.out⟩,⟨zb⟩⟩
   replace bg:=Bool.eq_false_iff.mpr bg;subst bg;rw[if_neg (show¬(false=true) by decide)] at H;replace H:=yA H;obtain⟨b1,H⟩:=H;have bK:=zz b1;clear b1;obtain⟨aK,aW⟩:∃y_:List Int,y_=(af++[((qA l0 aa).f1) % 256]):=⟨_,rfl⟩
   replace H:((impl_varint.f k1 aK (((qA l0 aa).f0).size:Int)).bind fun ao=>(if ao.length+((qA l0 aa).f0).size<140737488355328 then((impl_varint.f k1 (ao++bytesOf ((qA l0 aa).f0)) (((qA l0 aa).f2).size:Int)).bind fun ai=>(if ai.length+((qA l0 aa).f2).size<140737488355328 then(impl_PackTree.l0 k1 (ai++bytesOf ((qA l0 aa).f2)) l0 (l0.length:Int) (wrap64 (aa+1))) else(none))) else(none)))=some r:=yN0 aW H;have bL:=zz aW;clear aW;replace H:=zf H;obtain⟨ao,bu,H⟩:=H;try dsimp only at H
   have cF:=zz bu;clear bu;replace H:=yA H;obtain⟨b2,H⟩:=H;have bM:=zz b2;clear b2;obtain⟨az,aX⟩:∃y_:List Int,y_=(ao++bytesOf ((qA l0 aa).f0)):=⟨_,rfl⟩
   replace H:((impl_varint.f k1 az (((qA l0 aa).f2).size:Int)).bind fun ai=>(if ai.length+((qA l0 aa).f2).size<140737488355328 then(impl_PackTree.l0 k1 (ai++bytesOf ((qA l0 aa).f2)) l0 (l0.length:Int) (wrap64 (aa+1))) else(none)))=some r:=yN0 aX H;have bN:=zz aX;clear aX;replace H:=zf H;obtain⟨ai,bv,H⟩:=H;try dsimp only at H
   have cG:=zz bv;clear bv;replace H:=yA H;obtain⟨b3,H⟩:=H;have bO:=zz b3;clear b3;obtain⟨a9,aY⟩:∃y_:List Int,y_=(ai++bytesOf ((qA l0 aa).f2)):=⟨_,rfl⟩
   replace H:(impl_PackTree.l0 k1 a9 l0 (l0.length:Int) (wrap64 (aa+1)))=some r:=yN0 aY H;have bP:=zz aY;clear aY;have H':=zz H;clear H;have b7:=yt (0<=(aa:Int));have b8:=yt (aa<(l0.length:Int));obtain⟨bI,a4,ak,al,am,ag⟩:=vF be.out aa z2 z2
   (try rw[<-aA.out] at ag);(try rw[<-aA.out] at bj)
   cases a4;replace ak:=z3 HB.out ak;replace al:=z3 HB.out al;replace am:=z3 HB.out am;replace ag:=z3 HB.out ag;try go_wp2_with(first|(refine zX 5 63 #[.string (⟨#[]⟩:ByteArray),.int .i64 0,.string (⟨#[]⟩:ByteArray),.bool false] ?_;intro ac hg bi hbox hb;replace ad:=zz (Kd.vH (zR ad.out) hb);have ab:=zz (hbox);have ax:=zz ((zg:w.heap.size<=ac));replace HB:=zz (zv zb hb);clear hb hbox hg;obtain⟨cq,cr,cu,cv,cw,cx,cy,cz⟩:=zc4 ab.out))
   have aw:qB (Kd.R (Kd.int .u8) 5 ((((bi.setCell ⟨ac,0,none⟩ (.string ((qA l0 aa).f0))).setCell ⟨ac,1,none⟩ (.int .i64 ((qA l0 aa).f1))).setCell ⟨ac,2,none⟩ (.string ((qA l0 aa).f2))).setCell ⟨ac,3,none⟩ (.bool false)) w.heap.size (fun _=>True) u3 af):=⟨yV (Kd.R_types ad.out ab.out yd_)⟩
   have aj:qB (((((bi.setCell ⟨ac,0,none⟩ (.string ((qA l0 aa).f0))).setCell ⟨ac,1,none⟩ (.int .i64 ((qA l0 aa).f1))).setCell ⟨ac,2,none⟩ (.string ((qA l0 aa).f2))).setCell ⟨ac,3,none⟩ (.bool false)).heap[ac]?=some (.cells #[.string ((qA l0 aa).f0),.int .i64 ((qA l0 aa).f1),.string ((qA l0 aa).f2),.bool false] 63 (0,0))):=⟨yP ab.out⟩
   have aG:qB (Below w.heap.size w ((((bi.setCell ⟨ac,0,none⟩ (.string ((qA l0 aa).f0))).setCell ⟨ac,1,none⟩ (.int .i64 ((qA l0 aa).f1))).setCell ⟨ac,2,none⟩ (.string ((qA l0 aa).f2))).setCell ⟨ac,3,none⟩ (.bool false))):=⟨zb⟩
   (try clear ad)
   (try clear ab)
   (try clear HB)
   generalize((((bi.setCell ⟨ac,0,none⟩ (.string ((qA l0 aa).f0))).setCell ⟨ac,1,none⟩ (.int .i64 ((qA l0 aa).f1))).setCell ⟨ac,2,none⟩ (.string ((qA l0 aa).f2))).setCell ⟨ac,3,none⟩ (.bool false))=cH at aw aj aG⊢;have ad:=aw;have ab:=aj;have HB:=aG;clear aw aj aG;replace ad:=zz (Kd.qZ ad.out);replace ab:=zz (blk_drew ab.out);replace HB:=zz (qK HB.out);refine start_ (n:=12) (S:=fun w'=>w'.cell? ⟨ac,0,none⟩=some (.string ((qA l0 aa).f0))/\w'.cell? ⟨ac,1,none⟩=some (.int .i64 ((qA l0 aa).f1))/\w'.cell? ⟨ac,2,none⟩=some (.string ((qA l0 aa).f2))/\w'.cell? ⟨ac,3,none⟩=some (.bool false)) (ds:=[]) (bp 0 12) zk rfl rfl (zy4 ab.out) (fun hHeld=>?_);refine with_tabW impl_PackTree.tab10 impl_PackTree.bits10 (fun HT_ HW_=>?_);generalize cH.drew=cW at ad ab HB hHeld⊢;refine zp 0 28 (bp 1 11) ?_;refine zp 1 29 (bp 2 10) ?_;refine zp 4 32 (bm 12 19) ?_;refine zp 8 36 (bm 12 275) ?_;refine zt 5 33 (bm 12 307) ?_;refine zp 6 34 (bm 12 371) ?_;refine zt 9 37 (bm 12 883) ?_;refine zo 2 30 (bm 12 887) fun K hK=>?_;refine value_ (w1:=?_) (v:=?_) (by rfl) rfl ?_ ?_;rotate_left 2
   ·go_simp;constructor
    ·rfl
    ·rfl
   refine hK.out _ _ ⟨(qV (blk_alloc ab.out _) 0).trans rfl,(qV (blk_alloc ab.out _) 1).trans rfl,(qV (blk_alloc ab.out _) 2).trans rfl,(qV (blk_alloc ab.out _) 3).trans rfl⟩ (fun hHeld=>?_);clear hK K;refine zn 30 ?_;refine zo 3 31 (bm 12 895) fun K hK=>?_;refine Kd.R_append_step (Kd.int .u8) (w0:=w) w.heap.size (by rfl) (.tmp 28) (.tmp 30) 118 5 (.int .u8 0) 1 rfl Tryz.underlying118 info5 rfl yd_ yo_ u3 af (((qA l0 aa).f1) % 256) [.int .u8 (((qA l0 aa).f1) % 256)] (fun _=>True) (fun _=>False) rfl rfl ?aP (fun _ hk=>hk.elim) ?aF ?aO ?aB ?aS ?aL ?_
   (case aP=>exact rfl)
   (case aB=>exact zb)
   (case aF=>exact(fun _ _=>trivial))
   (case aO=>exact(zR ad.out))
   (case aS=>exact(qE zb))
   (case aL=>have:=bK.out;omega)
   intro cP cX ho hb hg hat;rw[<-bL.out] at ho;replace ab:=zz (zK ab hg (Kd.R_ne ad.out ab.out yd_));replace HB:=zz (hb);have aD:=zz (ho);clear ad;clear ho hb hg hat;obtain⟨ba,bb,bw⟩:=Kd.qW aD.out
   (first|subst bw|(injection bw with au aH av;have aI:=au.symm;have aJ:=av.symm;clear au aH av;subst aI;subst aJ))
   refine hK.out _ _ (zy4 ab.out) (fun hHeld=>?_);clear hK K;refine zn 31 ?_;refine zo 7 35 (bp 10 2) fun K hK=>?_;refine zh Tryz.func132 #[.slice ba aK.length bb,.int .i64 (((qA l0 aa).f0).size:Int)] ?_;with_reducible refine(impl_varint.calls k1 (fun k_=>some k_=(.slice ba aK.length bb:Value).ownBlock) (.slice ba aK.length bb) aK (((qA l0 aa).f0).size:Int) ao w _ ?s1 ?s2 cF.out).mono ?_
   (case s1=>repeat(first|(with_reducible first|exact HB.out|apply qS|apply qQ|apply qK|refine qJ ?_ ax.out)|exact HB.out))
   (case s2=>exact Kd.R_tight rfl aD.out)
   rintro e cY ⟨cd,rfl,ae,hb,hkp⟩;refine⟨_,rfl,?_⟩;replace ab:=zz (blk_kept (zB ab.out) hkp (fun hs_=>(fun e_=>(Kd.R_ne aD.out ab.out yd_) e_) hs_));have aZ:=zz (Kd.qM (ok':=fun k_=>True) ae (fun k_ hk_=>trivial));replace HB:=zz (hb);clear aD
   (try clear hb)
   (try clear hkp)
   (try clear ae)
   refine hK.out _ _ (zy4 ab.out) (fun hHeld=>?_);clear hK K;refine zn 35 ?_;refine zo 10 38 (bp 11 1) fun K hK=>?_;refine print_append_str_step (w0:=w) w.heap.size (by rfl) (.tmp 35) _ 118 9 5 rfl Tryz.underlying118 Tryz.underlying9 info5 cd ao ((qA l0 aa).f0) rfl rfl ?aO ?aB ?aS ?aL ?_
   (case aB=>exact zb)
   (case aO=>exact(Kd.own_of_R (zR aZ.out)))
   (case aS=>exact(qE zb))
   (case aL=>have:=bM.out;omega)
   intro ce b4 ae hb hg;have ho:=Kd.R_of_own (h1:=fun _=>rfl) (ok:=fun _=>True) ae (fun _ _=>trivial);clear ae;have hat:=True.intro;rw[<-bN.out] at ho;change Kd.R (Kd.int .u8) 5 b4 w.heap.size (fun _=>True) ce az at ho;replace ab:=zz (zK ab hg (Kd.R_ne aZ.out ab.out yd_));replace HB:=zz (hb);have ar:=zz (ho);clear aZ;clear ho hb hg hat;refine hK.out _ _ (zy4 ab.out) (fun hHeld=>?_);clear hK K;refine zn 38 ?_;refine zp 11 3 (bp 12 0) ?_;refine done_ (done_of HT_.out zk) ?_;try go_wp2
   replace ar:=zz (Kd.qZ ar.out);replace ab:=zz (blk_drew ab.out);replace HB:=zz (qK HB.out);obtain⟨bc,bd,bz⟩:=Kd.qW ar.out
   (first|subst bz|(injection bz with au aH av;have aI:=au.symm;have aJ:=av.symm;clear au aH av;subst aI;subst aJ))
   refine start_ (n:=9) (S:=fun w'=>w'.cell? ⟨ac,0,none⟩=some (.string ((qA l0 aa).f0))/\w'.cell? ⟨ac,1,none⟩=some (.int .i64 ((qA l0 aa).f1))/\w'.cell? ⟨ac,2,none⟩=some (.string ((qA l0 aa).f2))/\w'.cell? ⟨ac,3,none⟩=some (.bool false)) (ds:=[]) (bp 0 9) zk rfl rfl (zy4 ab.out) (fun hHeld=>?_);refine with_tabW impl_PackTree.tab11 impl_PackTree.bits11 (fun HT_ HW_=>?_);generalize b4.drew=cZ at ar ab HB hHeld⊢;refine zp 0 39 (bp 1 8) ?_;refine zp 1 40 (bp 2 7) ?_;refine zp 5 44 (bm 9 35) ?_;refine zt 2 41 (bm 9 39) ?_;refine zp 3 42 (bm 9 47) ?_;refine zt 6 45 (bm 9 111) ?_;refine zo 4 43 (bp 7 2) fun K hK=>?_;refine zh Tryz.func132 #[.slice bc az.length bd,.int .i64 (((qA l0 aa).f2).size:Int)] ?_;with_reducible refine(impl_varint.calls k1 (fun k_=>some k_=(.slice bc az.length bd:Value).ownBlock) (.slice bc az.length bd) az (((qA l0 aa).f2).size:Int) ai w _ ?s1 ?s2 cG.out).mono ?_
   (case s1=>repeat(first|(with_reducible first|exact HB.out|apply qS|apply qQ|apply qK|refine qJ ?_ ax.out)|exact HB.out))
   (case s2=>exact Kd.R_tight rfl ar.out)
   rintro e c5 ⟨cf,rfl,ae,hb,hkp⟩;refine⟨_,rfl,?_⟩;replace ab:=zz (blk_kept (zB ab.out) hkp (fun hs_=>(fun e_=>(Kd.R_ne ar.out ab.out yd_) e_) hs_));have a0:=zz (Kd.qM (ok':=fun k_=>True) ae (fun k_ hk_=>trivial));replace HB:=zz (hb);clear ar
   (try clear hb)
   (try clear hkp)
   (try clear ae)
   refine hK.out _ _ (zy4 ab.out) (fun hHeld=>?_);clear hK K;refine zn 43 ?_;refine zo 7 46 (bp 8 1) fun K hK=>?_;refine print_append_str_step (w0:=w) w.heap.size (by rfl) (.tmp 43) _ 118 9 5 rfl Tryz.underlying118 Tryz.underlying9 info5 cf ai ((qA l0 aa).f2) rfl rfl ?aO ?aB ?aS ?aL ?_
   (case aB=>exact zb)
   (case aO=>exact(Kd.own_of_R (zR a0.out)))
   (case aS=>exact(qE zb))
   (case aL=>have:=bO.out;omega)
   intro cg cI ae hb hg;have ho:=Kd.R_of_own (h1:=fun _=>rfl) (ok:=fun _=>True) ae (fun _ _=>trivial);clear ae;have hat:=True.intro;rw[<-bP.out] at ho;change Kd.R (Kd.int .u8) 5 cI w.heap.size (fun _=>True) cg a9 at ho;replace ab:=zz (zK ab hg (Kd.R_ne a0.out ab.out yd_));replace HB:=zz (hb);have bQ:=zz (ho);clear a0;clear ho hb hg hat;refine hK.out _ _ (zy4 ab.out) (fun hHeld=>?_);clear hK K;refine zn 46 ?_;refine zp 8 3 (bp 9 0) ?_;refine done_ (done_of HT_.out zk) ?_;try go_wp2
   go_roundg k1
   case measure=>exact yM1 bf
   case rel=>exact⟨(a9),(wrap64 (aa+1)),zr,H',⟨yM1 bf⟩,⟨zR bQ.out⟩,⟨zb⟩⟩
def impl_TreeSum.f(k:Nat)(l0:List (S63)):Option (ByteArray):=(impl_TreeOk.f k l0).bind fun aa=>(if aa=true then((impl_PackTree.f k l0).bind fun ab=>((impl_Sum.f k ab).bind fun ac=>((impl_Word32.f k ac).bind fun ad=>(some ad)))) else(some (⟨#[]⟩:ByteArray)))
theorem impl_TreeSum.calls(k:Nat)(A0:Option Addr)(c0:Nat)(l0:List (S63))(r:ByteArray)(w:World)(ad:Kd.C k63 w A0 l0.length l0)(ae:l0.length<=c0)(hG_:GOK w)(H:impl_TreeSum.f k l0=some r):
 Calls Tryz.prog 105 #[.slice A0 l0.length c0] w fun e w'=>e= .returned (.string r)/\Below w.heap.size w w':=by
 have HG:=zz hG_;clear hG_;have aa:=zz ad;have ac:=zz ae;clear ad ae;have HB:=yB w;unfold impl_TreeSum.f at H;replace HB:=HB.out;have HW:=yB w;go_enter Tryz.func105,Tryz.ntmps105;replace H:=yf H;obtain⟨al,A2,H⟩:=H;refine yF H ?_ ?_<;>clear H<;>rintro rfl H
 ·go_wp2_with(fail)
  refine(impl_TreeOk.calls k _ _ _ _ _ (Kd.qD aa.out HB) ac.out (GOK.below HG.out (zv HW.out HB)) A2.out).mono ?_;rintro e ap ⟨rfl,hb⟩;replace HB:=zv HB hb;clear hb;obtain rfl:=zi H;exact yR
 go_wp2_with(fail)
 refine(impl_TreeOk.calls k _ _ _ _ _ (Kd.qD aa.out HB) ac.out (GOK.below HG.out (zv HW.out HB)) A2.out).mono ?_;rintro e w5 ⟨rfl,hb⟩;replace HB:=zv HB hb;clear hb;replace H:=yf H;obtain⟨am,A6,H⟩:=H;go_wp2_with(fail)
 refine(impl_PackTree.calls k _ _ _ _ _ (Kd.qD aa.out HB) ac.out (GOK.below HG.out (zv HW.out HB)) A6.out).mono ?_;rintro e w7 ⟨ah,rfl,ab,hb⟩;replace HB:=zv HB hb;clear hb;have hst:=HB;replace HW:=zz (zv HW.out hst);clear hst;replace HB:=Below.refl w7.heap.size w7;obtain⟨aj,ak,rfl,hl_,hC_⟩:=Kd.R_reads ab;have af:=zz hC_;have ag:=zz hl_;clear hl_ hC_ ab;replace H:=yf H;obtain⟨an,A9,H⟩:=H;go_wp2_with(fail)
 refine(impl_Sum.calls k _ _ _ _ _ (Kd.qD af.out HB) ag.out A9.out).mono ?_;rintro e ar ⟨rfl,hd⟩;replace HB:=zv HB hd.below;clear hd;replace H:=yf H;obtain⟨ao,ai,H⟩:=H;go_wp2_with(fail)
 refine(impl_Word32.calls k _ _ _ ai.out).mono ?_;rintro e au ⟨rfl,hb⟩;replace HB:=zv HB hb;clear hb;obtain rfl:=zi H;exact yR
def spec_Word32.l0:Nat->Int->List Int->Int->Option (ByteArray)
 |0,_,_,_=>none
 |k+1,x0,x3,x4=>if x4>=0 then(if 0<=(IntKind.u64.wrap (wrap64 (5*x4))) then(if 0<=(Go.bits .and .u64 (shr .u64 x0 (IntKind.u64.wrap (wrap64 (5*x4)))) 31) then(if(Go.bits .and .u64 (shr .u64 x0 (IntKind.u64.wrap (wrap64 (5*x4)))) 31)<32 then(if x3.length<140737488355328 then(spec_Word32.l0 k x0 (x3++[bt (⟨#[48,49,50,51,52,53,54,55,56,57,97,98,99,100,102,103,104,105,106,107,108,109,110,112,113,114,115,118,119,120,121,122]⟩:ByteArray) (Go.bits .and .u64 (shr .u64 x0 (IntKind.u64.wrap (wrap64 (5*x4)))) 31)]) (wrap64 (x4 - 1))) else(none)) else(none)) else(none)) else(none)) else(some (strOfNums x3))
def spec_Word32.f(k:Nat)(a0:Int):Option (ByteArray):=spec_Word32.l0 k a0 (([]:List Int)) 12
theorem spec_Word32.calls(k:Nat)(a0:Int)(r:ByteArray)(w:World)(H:spec_Word32.f k a0=some r):
 Calls Tryz.prog 113 #[.int .u64 a0] w fun e w'=>e= .returned (.string r)/\Below w.heap.size w w':=by
 have HB:=yB w;unfold spec_Word32.f at H;obtain⟨ak,ae⟩:∃y_:List Int,y_=(([]:List Int)):=⟨_,rfl⟩
 replace H:(spec_Word32.l0 k a0 ak 12)=some r:=yN0 ae H;have aj:=zz ae;clear ae;have H':=zz H;clear H;go_enter Tryz.func113,Tryz.ntmps113;go_wp2_with(first|(refine yL (Kd.int .u8) 5 5 ?_;intro aC w2 ah hb hg_ hnew_;clear hg_ hnew_;(first|rw[<-aj.out] at ah|(simp only[Int.reduceToNat] at ah;rw[<-aj.out] at ah));have an:=zz (Kd.qU ah (qE zb));replace HB:=zz (zv zb hb);clear hb ah))
 go_loopg[3,4] k (fun kq v3 v4 w'=>∃(aa:List Int) (ab:Int),v4= .int .i64 ab/\qB (spec_Word32.l0 kq a0 aa ab=some r)/\qB (kq<=k)/\qB (Kd.R (Kd.int .u8) 5 w' w.heap.size (fun _=>True) v3 aa)/\qB (Below w.heap.size w w'))
 case atStart=>exact⟨(ak),(12),zr,H',⟨Nat.le_refl _⟩,⟨zR an.out⟩,⟨zb⟩⟩
 case round=>
  clear H';obtain⟨aa,ab,rfl,HA,au,ai,HB⟩:=hrel;cases gk with
  |zero=>exact absurd HA.out (by simp[spec_Word32.l0])
  |succ k1=>
   have H:=HA.out;clear HA;simp only[spec_Word32.l0] at H;refine yEn H ?_ ?_<;>clear H<;>intro aD H
   ·obtain rfl:=zi H;have ay:=own_string (P:=Tryz.prog) Tryz.underlying118 Tryz.underlying5 Tryz.underlying9 (Kd.own_of_R ai.out);go_wp2;go_ret;exact⟨ze,zb⟩
   obtain⟨ad,al⟩:∃j_:Int,(IntKind.u64.wrap (wrap64 (5*ab)))=j_:=⟨_,rfl⟩
   replace H:(if 0<=(ad) then(if 0<=(Go.bits .and .u64 (shr .u64 a0 (ad)) 31) then(if(Go.bits .and .u64 (shr .u64 a0 (ad)) 31)<32 then(if aa.length<140737488355328 then(spec_Word32.l0 k1 a0 (aa++[bt (⟨#[48,49,50,51,52,53,54,55,56,57,97,98,99,100,102,103,104,105,106,107,108,109,110,112,113,114,115,118,119,120,121,122]⟩:ByteArray) (Go.bits .and .u64 (shr .u64 a0 (ad)) 31)]) (wrap64 (ab - 1))) else(none)) else(none)) else(none)) else(none))=some r:=by first|(rw[al] at H;exact H)|(simp only[al] at H⊢;exact H)
   replace H:=yA H;obtain⟨c6,H⟩:=H;have aE:=eq_true c6;have aG:=z1 c6;clear c6;obtain⟨ac,af⟩:∃j_:Int,(shr .u64 a0 (ad))=j_:=⟨_,rfl⟩
   replace H:(if 0<=(Go.bits .and .u64 (ac) 31) then(if(Go.bits .and .u64 (ac) 31)<32 then(if aa.length<140737488355328 then(spec_Word32.l0 k1 a0 (aa++[bt (⟨#[48,49,50,51,52,53,54,55,56,57,97,98,99,100,102,103,104,105,106,107,108,109,110,112,113,114,115,118,119,120,121,122]⟩:ByteArray) (Go.bits .and .u64 (ac) 31)]) (wrap64 (ab - 1))) else(none)) else(none)) else(none))=some r:=by first|(rw[af] at H;exact H)|(simp only[af] at H⊢;exact H)
   have az:(a0 / 2 ^ min (ad).toNat 64)=ac:=af;have aA:(ad)<=64->(a0 / 2 ^ (ad).toNat)=ac:=shr_small af;replace H:=yAD H;obtain⟨aH,H⟩:=H;replace H:=yAD H;obtain⟨aI,H⟩:=H;replace H:=yA H;obtain⟨av,H⟩:=H;have ao:=zz av;clear av;obtain⟨am,ag⟩:∃y_:List Int,y_=(aa++[bt (⟨#[48,49,50,51,52,53,54,55,56,57,97,98,99,100,102,103,104,105,106,107,108,109,110,112,113,114,115,118,119,120,121,122]⟩:ByteArray) (Go.bits .and .u64 (ac) 31)]):=⟨_,rfl⟩
   replace H:(spec_Word32.l0 k1 a0 am (wrap64 (ab - 1)))=some r:=yN0 ag H;have ap:=zz ag;clear ag;have H':=zz H;clear H;have aw:0<=((Go.bits .and .u64 (ac) 31):Int):=z2;have ax:(Go.bits .and .u64 (ac) 31)<(32:Int):=z2;have aJ:=bt_at (⟨#[48,49,50,51,52,53,54,55,56,57,97,98,99,100,102,103,104,105,106,107,108,109,110,112,113,114,115,118,119,120,121,122]⟩:ByteArray) (Go.bits .and .u64 (ac) 31);replace aw:=eq_true aw;replace ax:=eq_true ax;go_wp2_with(first|((with_reducible refine qP (b:= .append) (xs:= #[.tmp 10,.tmp 18]) rfl ?_);at_builtin;refine Kd.R_append (Kd.int .u8) (w0:=w) w.heap.size rfl (.tmp 10) (.tmp 18) 118 5 (.int .u8 0) 1 rfl Tryz.underlying118 info5 rfl yd_ yo_ u3 aa (bt (⟨#[48,49,50,51,52,53,54,55,56,57,97,98,99,100,102,103,104,105,106,107,108,109,110,112,113,114,115,118,119,120,121,122]⟩:ByteArray) (Go.bits .and .u64 (ac) 31)) [.int .u8 (bt (⟨#[48,49,50,51,52,53,54,55,56,57,97,98,99,100,102,103,104,105,106,107,108,109,110,112,113,114,115,118,119,120,121,122]⟩:ByteArray) (Go.bits .and .u64 (ac) 31))] (fun _=>True) (fun _=>False) rfl rfl ?aP (fun _ hk=>hk.elim) ?aF ?aO ?aB ?aS ?aL ?_;(case aP=>exact rfl);(case aB=>exact zb);(case aF=>exact(fun _ _=>trivial));(case aO=>exact(zR ai.out));(case aS=>exact(qE zb));(case aL=>have:=ao.out;omega);intro aK aM ho hb hg hat;rw[<-ap.out] at ho;replace HB:=zz (hb);have ar:=zz (ho);clear ai;clear ho hb hg hat))
   go_roundg k1
   case measure=>exact yM1 au
   case rel=>exact⟨(am),(wrap64 (ab - 1)),zr,H',⟨yM1 au⟩,⟨zR ar.out⟩,⟨zb⟩⟩
mutual
def spec_Sum.l0:Nat->List Int->Int->Int->Option (Int)
 |0,_,_,_=>none
 |k+1,x0,x3,x4=>if x4<(x0.length:Int) then(if 0<=x4 then(spec_Sum.l0 k x0 (IntKind.u64.wrap ((Go.bits .xor .u64 x3 (IntKind.u64.wrap (rd x0 x4)))*1099511628211)) (wrap64 (x4+1))) else(none)) else(spec_Sum.l1 k x3 0)
def spec_Sum.l1:Nat->Int->Int->Option (Int)
 |0,_,_=>none
 |k+1,x3,x5=>if x5<3 then(spec_Sum.l1 k (IntKind.u64.wrap ((Go.bits .xor .u64 x3 (x3 / 536870912))*11400714819323198485)) (wrap64 (x5+1))) else(some (Go.bits .xor .u64 x3 (x3 / 4294967296)))
end
def spec_Sum.f(k:Nat)(l0:List Int):Option (Int):=spec_Sum.l0 k l0 14695981039346656037 0
theorem spec_Sum.calls(k:Nat)(A0:Option Addr)(c0:Nat)(l0:List Int)(r:Int)(w:World)(ai:Kd.C (Kd.int .u8) w A0 l0.length l0)(aj:l0.length<=c0)(H:spec_Sum.f k l0=some r):
 Calls Tryz.prog 114 #[.slice A0 l0.length c0] w fun e w'=>e= .returned (.int .u64 r)/\vB w w':=by
 have ao:=zz ai;have au:=zz aj;clear ai aj;unfold spec_Sum.f at H;have H':=zz H;clear H;go_enter Tryz.func114,Tryz.ntmps114;go_wp2;go_loopg[3,4] k (fun kq v3 v4 w'=>∃(ab:Int) (aa:Int),v3= .int .u64 ab/\v4= .int .i64 aa/\qB (spec_Sum.l0 kq l0 ab aa=some r)/\qB (kq<=k)/\vB w w')
 case atStart=>exact⟨(14695981039346656037),(0),zr,zr,H',⟨Nat.le_refl _⟩,yD0⟩
 case round=>
  clear H';obtain⟨ab,aa,rfl,rfl,HA,ag,⟨m1,rfl⟩⟩:=hrel;cases gk with
  |zero=>exact absurd HA.out (by simp[spec_Sum.l0])
  |succ k1=>
   have H:=HA.out;clear HA;simp only[spec_Sum.l0] at H;refine yD H ?_ ?_<;>clear H<;>intro al H
   ·replace H:=yAD H;obtain⟨am,H⟩:=H;have H':=zz H;clear H;have ad:0<=(aa:Int):=z2;have ae:aa<(l0.length:Int):=z2;obtain⟨ap,an,ah⟩:=Kd.at_int ao.out aa ad ae;cases an;replace ad:=eq_true ad;replace ae:=eq_true ae;go_wp2;go_roundg k1
    case measure=>exact yM1 ag
    case rel=>exact⟨(IntKind.u64.wrap ((Go.bits .xor .u64 ab (IntKind.u64.wrap (rd l0 aa)))*1099511628211)),(wrap64 (aa+1)),zr,zr,H',⟨yM1 ag⟩,yD0⟩
   have H':=zz H;clear H;go_wp2;go_loopg[3,5] k1 (fun kq v3 v5 w'=>∃(ac:Int) (af:Int),v3= .int .u64 ac/\v5= .int .i64 af/\qB (spec_Sum.l1 kq ac af=some r)/\qB (kq<=k1)/\vB w w')
   case atStart=>exact⟨(ab),(0),zr,zr,H',⟨Nat.le_refl _⟩,yD0⟩
   case round=>
    clear H';try clear al
    try clear am
    try clear ah
    try clear ad
    try clear ae
    obtain⟨ac,af,rfl,rfl,HA,ak,⟨m2,rfl⟩⟩:=hrel;cases gk with
    |zero=>exact absurd HA.out (by simp[spec_Sum.l1])
    |succ k2=>
     have H:=HA.out;clear HA;simp only[spec_Sum.l1] at H;refine yDn H ?_ ?_<;>clear H<;>intro ar H
     ·obtain rfl:=zi H;exact yr
     have H':=zz H;clear H;go_wp2;go_roundg k2
     case measure=>exact yM2 ag ak
     case rel=>exact⟨(IntKind.u64.wrap ((Go.bits .xor .u64 ac (ac / 536870912))*11400714819323198485)),(wrap64 (af+1)),zr,zr,H',⟨yM2 ag ak⟩,yD0⟩
def bytesI(s:ByteArray):List Int:=s.data.toList.map (fun b=>((b.toNat:Nat):Int))
theorem bytesI_len(s:ByteArray):(bytesI s).length=s.size:=by rw[bytesI,List.length_map,Array.length_toList];rfl
theorem conv_reads(w:World)(s:ByteArray)(hs:s.size<140737488355328):ReadsRow (fun(x:Int) cs=>cs=[Value.int .u8 x]) 1 (Lib.bytesWorld w 5 s) (some ⟨w.heap.size,0,none⟩) s.size (bytesI s):=by
 refine Kd.C_of_reads (enc:=Value.int .u8) (d:=(0:Int)) (h1:=fun _=>rfl) ⟨bytesI_len s,by omega,fun _=>⟨_,rfl,fun j hj=>?_⟩⟩;have h1:j<s.data.toList.length:=by rw[Array.length_toList];exact hj
 have h2:=Lib.bytesWorld_cell w 5 s j hj;have h3:(bytesI s).getD j 0=((s.data.toList.getD j 0).toNat:Int):=by
  simp only[bytesI,List.getD_eq_getElem?_getD,List.getElem?_map,List.getElem?_eq_getElem h1];rfl
 rw[h3];have ha:(⟨w.heap.size,0,none⟩:Addr).add j=⟨w.heap.size,j,none⟩:=by unfold Addr.add;split<;>simp_all
 rw[ha];exact h2
def spec_l10Text.f(k:Nat)(l0:List Int)(a1:ByteArray):Option (List Int):=(spec_l10Num.f k l0 (a1.size:Int)).bind fun y=>if y.length+a1.size<140737488355328 then some (y++bytesI a1) else none
theorem spec_l10Text.calls(k:Nat)(ab:Nat->Prop)(aa:Value)(l0:List Int)(a1:ByteArray)(r:List Int)(w0 w:World)(hB:Below w0.heap.size w0 w)(af:Kd.R (Kd.int .u8) 5 w w0.heap.size ab aa l0)(h:spec_l10Text.f k l0 a1=some r):
 Calls Tryz.prog 131 #[aa,.string a1] w fun e w'=>∃ag:Value,e= .returned (ag)/\Kd.R (Kd.int .u8) 5 w' w0.heap.size (fun k_=>(ab k_\/w.heap.size<=k_)) ag r/\Below w0.heap.size w0 w'/\Kept w w' (fun k_=>ab k_):=by
 obtain⟨y,A1,h⟩:=Option.bind_eq_some_iff.mp h;split at h
 case isFalse=>exact absurd h (by simp)
 case isTrue ah=>
 have hs:=qB.mk ah;clear ah;obtain⟨z,hz⟩:∃z_,z_=y++bytesI a1:=⟨_,rfl⟩
 rw[<-hz] at h;obtain rfl:=Option.some.inj h;have Nz:=qB.mk hz;have A1:=qB.mk A1;have ai:=qB.mk af;have HB:=qB.mk hB;clear h hz hB af;go_enter Tryz.func131,Tryz.ntmps131;go_wp2_with(first|((with_reducible refine gate_callee (f:=130) rfl ?_);refine goesL_ (some 8) rfl rfl Tryz.func130 (by kernel_rfl) rfl #[aa,.int .i64 (a1.size:Int)] rfl (by(try simp only[List.map_toArray,List.map_cons,List.map_nil]);first|done|rfl) ?_;(with_reducible refine(spec_l10Num.calls k ab aa l0 _ y w0 _ HB.out ai.out A1.out).mono ?_);rintro e w1 ⟨v1,rfl,aj,ak,al⟩;refine⟨_,rfl,?_⟩;have hconv:=Lib.run_convert_string_bytes (P:=Tryz.prog) w1 9 118 5 a1 Tryz.underlying9 Tryz.underlying118 Tryz.underlying5;have ac:=qB.mk aj;have ad:=qB.mk ak;have am:=qB.mk al;clear aj ak al HB ai;have ae:=ac;have HB:=ad;have HK:=am;clear ac ad am)|((with_reducible refine qP (b:= .append) (xs:= #[.tmp 8,.tmp 10]) rfl ?_);at_builtin;refine Kd.R_append_rows (Kd.int .u8) (Rr:=fun(x:Int) cs=>cs=[Value.int .u8 x]) (w0:=w0) w0.heap.size rfl (.tmp 8) (.tmp 10) 118 5 (.int .u8 0) 1 rfl Tryz.underlying118 info5 rfl yd_ yo_ v1 y (bytesI a1) _ _ _ (fun k_=>(ab k_\/w.heap.size<=k_)) (fun _=>False) rfl rfl (Kd.vH ae.out (bytes_below (Below.refl _ _) (Nat.le_refl _) 5 a1)) (conv_reads _ a1 (by have:=hs.out;omega)) (fun _ _ h=>h) (fun _ h=>h.elim) ?aF ?aB ?aS ?aL ?_;(case aF=>exact fun k_ hk=> .inr (Nat.le_trans HK.out.1 (Nat.le_trans (bytes_below (Below.refl _ _) (Nat.le_refl _) 5 a1).size hk)));(case aB=>exact below_step HB.out (bytes_below (Below.refl _ _) (Nat.le_refl _) 5 a1));(case aS=>exact(qE (below_step HB.out (bytes_below (Below.refl _ _) (Nat.le_refl _) 5 a1))));(case aL=>have:=hs.out;omega);intro v2 w2 ho hb hg hat;rw[<-Nz.out] at ho;have an:=qB.mk hb;have ac:=qB.mk (Kept.of_grown (S:=(fun k_=>ab k_)) hg (Kept.below HK.out (bytes_below (Below.refl _ _) (Nat.le_refl _) 5 a1)) (fun k_ e_=>(ae.out.1 k_ e_)));have ad:=qB.mk ho;clear HB HK ae;have HB:=an;have HK:=ac;have ao:=ad;clear an ac ad;clear ho hb hg hat))
 go_ret;exact⟨_,by first|rfl|(simp[*];done),ao.out,HB.out,HK.out⟩
def spec_PackTree.l0:Nat->List (S63)->List Int->Int->Option (List Int)
 |0,_,_,_=>none
 |k+1,x0,x3,x4=>if x4<(x0.length:Int) then(if 0<=x4 then(if(qA x0 x4).f3=true then(if x3.length<140737488355328 then((spec_l10Text.f k (x3++[(wrap64 (((qA x0 x4).f1)+16)) % 256]) ((qA x0 x4).f0)).bind fun aa=>((spec_l10Text.f k aa ((qA x0 x4).f2)).bind fun ab=>(spec_PackTree.l0 k x0 ab (wrap64 (x4+1))))) else(none)) else(if x3.length<140737488355328 then((spec_l10Text.f k (x3++[((qA x0 x4).f1) % 256]) ((qA x0 x4).f0)).bind fun ac=>((spec_l10Text.f k ac ((qA x0 x4).f2)).bind fun ad=>(spec_PackTree.l0 k x0 ad (wrap64 (x4+1))))) else(none))) else(none)) else(some x3)
def spec_PackTree.f(k:Nat)(l0:List (S63)):Option (List Int):=(spec_TreeOk.f k l0).bind fun aa=>(if aa=true then((spec_l10Num.f k (([76,65,82,49]:List Int)) (l0.length:Int)).bind fun ab=>(spec_PackTree.l0 k l0 ab 0)) else(some (([]:List Int))))
def spec_PackTree.T11:Bool×List (List Nat×List Nat):=(true,[([],[]),([],[]),([],[]),([1,2],[1,2]),([3],[3]),([4],[4]),([0,5],[0,5]),([],[]),([],[]),([7,8],[7,8]),([9],[9]),([10],[10]),([6,11,6],[6,11]),([12,12,0,1,2,3,4,5,6,7,8,9,10,11,12],[0,12])])
def spec_PackTree.B11:List Nat:=[0,0,0,6,14,30,63,0,0,384,896,1920,4095,8191]
theorem spec_PackTree.tab11:rtab .any (opsOf Tryz.f115 11)=spec_PackTree.T11:=by kernel_rfl
theorem spec_PackTree.bits11:waitsOk spec_PackTree.T11.2 spec_PackTree.B11=true:=by kernel_rfl
theorem spec_PackTree.calls(k:Nat)(A0:Option Addr)(c0:Nat)(l0:List (S63))(r:List Int)(w:World)(cb:Kd.C k63 w A0 l0.length l0)(cc:l0.length<=c0)(H:spec_PackTree.f k l0=some r):
 Calls Tryz.prog 115 #[.slice A0 l0.length c0] w fun e w'=>∃cd:Value,e= .returned (cd)/\Kd.R (Kd.int .u8) 5 w' w.heap.size (fun _=>True) cd r/\Below w.heap.size w w':=by
 have aW:=zz cb;have ce:=zz cc;clear cb cc;have HB:=yB w;unfold spec_PackTree.f at H;replace H:=zf H;obtain⟨ck,cf,H⟩:=H;try dsimp only at H
 have A2:=zz cf;clear cf;by_cases c3:ck=true
 case neg=>
  replace c3:=Bool.eq_false_iff.mpr c3;subst c3;rw[if_neg (show¬(false=true) by decide)] at H;obtain⟨cm,bj⟩:∃y_:List Int,y_=(([]:List Int)):=⟨_,rfl⟩
  replace H:(some cm)=some r:=yN0 bj H;have bJ:=zz bj;clear bj;obtain rfl:=zi H;go_enter Tryz.func115,Tryz.ntmps115;go_wp2_with(first|(refine zL 53 7 Tryz.func53 #[.slice A0 l0.length c0] ?_;(with_reducible refine(spec_TreeOk.calls k _ _ l0 false _ ?s1 ?s2 A2.out).mono ?_);(case s1=>exact zd aW.out);(case s2=>exact ce.out);rintro e cW ⟨rfl,hb⟩;refine⟨_,rfl,?_⟩;replace HB:=zz (zv zb hb);(try clear hb);(try clear hi))|(refine yL (Kd.int .u8) 5 9 ?_;intro cG cX bc hb hg_ hnew_;clear hg_ hnew_;(first|rw[<-bJ.out] at bc|(simp only[Int.reduceToNat] at bc;rw[<-bJ.out] at bc));have bY:=zz (Kd.qU bc (qE zb));replace HB:=zz (zv zb hb);clear hb bc))
  go_ret;exact⟨_,ze,zR bY.out,zb⟩
 subst c3;rw[if_pos rfl] at H;obtain⟨bv,bk⟩:∃y_:List Int,y_=(([76,65,82,49]:List Int)):=⟨_,rfl⟩
 replace H:((spec_l10Num.f k bv (l0.length:Int)).bind fun bw=>(spec_PackTree.l0 k l0 bw 0))=some r:=yN0 bk H;have bZ:=zz bk;clear bk;replace H:=zf H;obtain⟨bw,cg,H⟩:=H;try dsimp only at H
 have A4:=zz cg;clear cg;have H':=zz H;clear H;go_enter Tryz.func115,Tryz.ntmps115;go_wp2_with(first|(refine zL 53 7 Tryz.func53 #[.slice A0 l0.length c0] ?_;(with_reducible refine(spec_TreeOk.calls k _ _ l0 true _ ?s1 ?s2 A2.out).mono ?_);(case s1=>exact zd aW.out);(case s2=>exact ce.out);rintro e w5 ⟨rfl,hb⟩;refine⟨_,rfl,?_⟩;replace HB:=zz (zv zb hb);(try clear hb);(try clear hi))|(refine zN 10 ?_;refine lar_event ?hg (N:=10) ?hd (cs:= #[.int .u8 76,.int .u8 65,.int .u8 82,.int .u8 49]) (t:=5) ?hr ?_;(case hd=>rfl);(case hg=>rfl);(case hr=>first|(go_simp;done)|(go_simp;rfl));intro gl hgl w6 hlb hb;have bb:=zz (zv zb hb);have cn:=zz (Nat.le_trans (qE zb) hgl);have bO:=zz hlb;clear HB hb hgl hlb;have HB:=bb;clear bb)|(refine zN 11 ?_;refine mark_event rfl rfl Tryz.underlying118 Tryz.underlying5 (g:=gl) rfl bO.out ?_;intro w7 hlc hb;have bb:=zz (HB.out.trans (hb.mono cn.out));have hT:=zz (show RT 5 w.heap.size w7 (.slice (some ⟨gl,0,none⟩) 4 4) bv by rw[bZ.out];exact .inr ⟨gl,rfl,_,_,_,hlc,rfl⟩);clear HB hb hlc bO;have HB:=bb;clear bb)|(refine zL 130 14 Tryz.func130 #[.slice (some ⟨gl,0,none⟩) 4 4,.int .i64 (l0.length:Int)] ?_;(with_reducible refine(spec_l10Num.lar k _ bv _ _ w _ HB.out hT.out A4.out).mono ?_);rintro e w9 ⟨cH,rfl,ag,hb⟩;refine⟨_,rfl,?_⟩;have ch:=zz ag;have bb:=zz hb;clear HB;have b0:=ch;have HB:=bb;clear ch bb hb ag))
 go_loopg[3,4] k (fun kq v3 v4 w'=>∃(af:List Int) (aa:Int),v4= .int .i64 aa/\qB (spec_PackTree.l0 kq l0 af aa=some r)/\qB (kq<=k)/\qB (Kd.R (Kd.int .u8) 5 w' w.heap.size (fun _=>True) v3 af)/\qB (Below w.heap.size w w'))
 case atStart=>exact⟨(bw),(0),zr,H',⟨Nat.le_refl _⟩,⟨zR b0.out⟩,⟨zb⟩⟩
 case round=>
  clear H';try clear c3
  obtain⟨af,aa,rfl,HA,bK,bd,HB⟩:=hrel;cases gk with
  |zero=>exact absurd HA.out (by simp[spec_PackTree.l0])
  |succ k1=>
   have H:=HA.out;clear HA;simp only[spec_PackTree.l0] at H;refine yDn H ?_ ?_<;>clear H<;>intro cE H
   ·obtain rfl:=zi H;go_wp2;go_ret;exact⟨_,ze,zR bd.out,zb⟩
   replace H:=yAD H;obtain⟨cF,H⟩:=H;obtain⟨bP,bn⟩:∃b_:Bool,b_=((qA l0 aa).f3):=⟨_,rfl⟩
   replace H:(if bP=true then(if af.length<140737488355328 then((spec_l10Text.f k1 (af++[(wrap64 (((qA l0 aa).f1)+16)) % 256]) ((qA l0 aa).f0)).bind fun au=>((spec_l10Text.f k1 au ((qA l0 aa).f2)).bind fun aX=>(spec_PackTree.l0 k1 l0 aX (wrap64 (aa+1))))) else(none)) else(if af.length<140737488355328 then((spec_l10Text.f k1 (af++[((qA l0 aa).f1) % 256]) ((qA l0 aa).f0)).bind fun av=>((spec_l10Text.f k1 av ((qA l0 aa).f2)).bind fun aY=>(spec_PackTree.l0 k1 l0 aY (wrap64 (aa+1))))) else(none)))=some r:=by rw[<-bn] at H;exact H
   have ac:=zz bn;clear bn;by_cases bL:bP=true
   ·subst bL;rw[if_pos rfl] at H;replace H:=yA H;obtain⟨ci,H⟩:=H;have b1:=zz ci;clear ci;obtain⟨be,bo⟩:∃y_:List Int,y_=(af++[(wrap64 (((qA l0 aa).f1)+16)) % 256]):=⟨_,rfl⟩
    replace H:((spec_l10Text.f k1 be ((qA l0 aa).f0)).bind fun au=>((spec_l10Text.f k1 au ((qA l0 aa).f2)).bind fun aX=>(spec_PackTree.l0 k1 l0 aX (wrap64 (aa+1)))))=some r:=yN0 bo H;have b2:=zz bo;clear bo;replace H:=zf H;obtain⟨au,bQ,H⟩:=H;try dsimp only at H
    have cy:=zz bQ;clear bQ;replace H:=zf H;obtain⟨aX,bR,H⟩:=H;try dsimp only at H
    have cz:=zz bR;clear bR;have H':=zz H;clear H;have co:=yt (0<=(aa:Int));have cp:=yt (aa<(l0.length:Int));obtain⟨ab,bz,ah,ai,aj,ad⟩:=vF aW.out aa z2 z2
    (try rw[<-ac.out] at ad);(try rw[<-ac.out] at bM)
    cases bz;replace ah:=z3 HB.out ah;replace ai:=z3 HB.out ai;replace aj:=z3 HB.out aj;replace ad:=z3 HB.out ad;have cq:=yt (0<=(aa:Int));have cr:=yt (aa<(l0.length:Int));obtain⟨bq,bA,ak,al,am,ae⟩:=vF aW.out aa z2 z2
    (try rw[<-ac.out] at ae);(try rw[<-ac.out] at bN)
    obtain rfl:ab=bq:=(by injection bA)
    replace ak:=z3 HB.out ak;replace al:=z3 HB.out al;replace am:=z3 HB.out am;replace ae:=z3 HB.out ae;try go_wp2_with(first|((with_reducible refine qP (b:= .append) (xs:= #[.tmp 33,.tmp 36]) rfl ?_);at_builtin;refine Kd.R_append (Kd.int .u8) (w0:=w) w.heap.size rfl (.tmp 33) (.tmp 36) 118 5 (.int .u8 0) 1 rfl Tryz.underlying118 info5 rfl yd_ yo_ u3 af ((wrap64 (((qA l0 aa).f1)+16)) % 256) [.int .u8 ((wrap64 (((qA l0 aa).f1)+16)) % 256)] (fun _=>True) (fun _=>False) rfl rfl ?aP (fun _ hk=>hk.elim) ?aF ?aO ?aB ?aS ?aL ?_;(case aP=>exact rfl);(case aB=>exact zb);(case aF=>exact(fun _ _=>trivial));(case aO=>exact(zR bd.out));(case aS=>exact(qE zb));(case aL=>have:=b1.out;omega);intro cI cA ho hb hg hat;rw[<-b2.out] at ho;replace HB:=zz (hb);have ay:=zz (ho);clear bd;clear ho hb hg hat))
    replace ay:=zz (Kd.qZ ay.out);replace HB:=zz (qK HB.out);have cJ:=yt (0<=(aa:Int));have cK:=yt (aa<(l0.length:Int));obtain⟨b3,cu,az,aA,aC,an⟩:=vF aW.out aa z2 z2;have aD:=an;have aZ:=aC;have a0:=aA;have a1:=az
    (try rw[<-ac.out] at an);(try rw[<-ac.out] at aD)
    obtain rfl:ab=b3:=(by injection cu)
    replace az:=z3 HB.out az;replace aA:=z3 HB.out aA;replace aC:=z3 HB.out aC;replace an:=z3 HB.out an;have cL:=yt (0<=(aa:Int));have cM:=yt (aa<(l0.length:Int));obtain⟨b4,cv,aE,aG,aH,ao⟩:=vF aW.out aa z2 z2;have aI:=ao;have a2:=aH;have a3:=aG;have a4:=aE
    (try rw[<-ac.out] at ao);(try rw[<-ac.out] at aI)
    obtain rfl:ab=b4:=(by injection cv)
    replace aE:=z3 HB.out aE;replace aG:=z3 HB.out aG;replace aH:=z3 HB.out aH;replace ao:=z3 HB.out ao;obtain⟨bB,bC,bS⟩:=Kd.qW ay.out
    (first|subst bS|(injection bS with aw bf ax;have bg:=aw.symm;have bh:=ax.symm;clear aw bf ax;subst bg;subst bh))
    refine start_ (n:=14) (S:=fun w'=>w'.cell? (ab.add ((aa).toNat*4))=some (.string ((qA l0 aa).f0))/\w'.cell? ⟨(ab.add ((aa).toNat*4)).block,(ab.add ((aa).toNat*4)).off+1,none⟩=some (.int .i64 ((qA l0 aa).f1))/\w'.cell? ⟨(ab.add ((aa).toNat*4)).block,(ab.add ((aa).toNat*4)).off+2,none⟩=some (.string ((qA l0 aa).f2))/\w'.cell? ⟨(ab.add ((aa).toNat*4)).block,(ab.add ((aa).toNat*4)).off+3,none⟩=some (.bool (true))/\w'.cell? (ab.add ((aa).toNat*4))=some (.string ((qA l0 aa).f0))/\w'.cell? ⟨(ab.add ((aa).toNat*4)).block,(ab.add ((aa).toNat*4)).off+1,none⟩=some (.int .i64 ((qA l0 aa).f1))/\w'.cell? ⟨(ab.add ((aa).toNat*4)).block,(ab.add ((aa).toNat*4)).off+2,none⟩=some (.string ((qA l0 aa).f2))/\w'.cell? ⟨(ab.add ((aa).toNat*4)).block,(ab.add ((aa).toNat*4)).off+3,none⟩=some (.bool (true))) (ds:=[]) (bp 0 14) zk rfl rfl ⟨(z3 HB.out a1),(z3 HB.out a0),(z3 HB.out aZ),(z3 HB.out aD),(z3 HB.out a4),(z3 HB.out a3),(z3 HB.out a2),(z3 HB.out aI)⟩ (fun hHeld=>?_);refine with_tabW spec_PackTree.tab11 spec_PackTree.bits11 (fun HT_ HW_=>?_);generalize cA.drew=cY at ay HB az aA aC an aE aG aH ao hHeld⊢;refine zp 0 38 (bp 1 13) ?_;refine zp 1 39 (bp 2 12) ?_;refine zp 2 40 (bp 3 11) ?_;refine zp 3 41 (bp 4 10) ?_;refine zp 4 42 (bp 5 9) ?_;refine zp 7 45 (bm 14 159) ?_;refine zp 8 46 (bm 14 415) ?_;refine zp 9 47 (bm 14 927) ?_;refine zp 10 48 (bm 14 1951) ?_;refine zt 5 43 (bm 14 1983) ?_;refine zt 11 49 (bm 14 4031) ?_;refine zo 6 44 (bp 12 2) fun K hK=>?_;refine zh Tryz.func131 #[.slice bB be.length bC,.string ((qA l0 aa).f0)] ?_;with_reducible refine(spec_l10Text.calls k1 (fun k_=>some k_=(.slice bB be.length bC:Value).ownBlock) (.slice bB be.length bC) be ((qA l0 aa).f0) au w _ ?s1 ?s2 cy.out).mono ?_
    (case s1=>repeat(first|(with_reducible first|exact HB.out|apply qS|apply qQ|apply qK)|exact HB.out))
    (case s2=>exact Kd.R_tight rfl ay.out)
    rintro e cZ ⟨cN,rfl,ag,hb,hkp⟩;refine⟨_,rfl,?_⟩;have br:=zz (Kd.qM (ok':=fun k_=>True) ag (fun k_ hk_=>trivial));replace HB:=zz (hb);clear ay
    (try clear hb)
    (try clear hkp)
    (try clear ag)
    obtain⟨bD,bE,bT⟩:=Kd.qW br.out
    (first|subst bT|(injection bT with aw bf ax;have bg:=aw.symm;have bh:=ax.symm;clear aw bf ax;subst bg;subst bh))
    refine hK.out _ _ ⟨(z3 HB.out a1),(z3 HB.out a0),(z3 HB.out aZ),(z3 HB.out aD),(z3 HB.out a4),(z3 HB.out a3),(z3 HB.out a2),(z3 HB.out aI)⟩ (fun hHeld=>?_);clear hK K;refine zn 44 ?_;refine zo 12 50 (bp 13 1) fun K hK=>?_;refine zh Tryz.func131 #[.slice bD au.length bE,.string ((qA l0 aa).f2)] ?_;with_reducible refine(spec_l10Text.calls k1 (fun k_=>some k_=(.slice bD au.length bE:Value).ownBlock) (.slice bD au.length bE) au ((qA l0 aa).f2) aX w _ ?s1 ?s2 cz.out).mono ?_
    (case s1=>repeat(first|(with_reducible first|exact HB.out|apply qS|apply qQ|apply qK)|exact HB.out))
    (case s2=>exact Kd.R_tight rfl br.out)
    rintro e c5 ⟨cO,rfl,ag,hb,hkp⟩;refine⟨_,rfl,?_⟩;have b5:=zz (Kd.qM (ok':=fun k_=>True) ag (fun k_ hk_=>trivial));replace HB:=zz (hb);clear br
    (try clear hb)
    (try clear hkp)
    (try clear ag)
    refine hK.out _ _ ⟨(z3 HB.out a1),(z3 HB.out a0),(z3 HB.out aZ),(z3 HB.out aD),(z3 HB.out a4),(z3 HB.out a3),(z3 HB.out a2),(z3 HB.out aI)⟩ (fun hHeld=>?_);clear hK K;refine zn 50 ?_;refine zp 13 3 (bp 14 0) ?_;refine done_ (done_of HT_.out zk) ?_;try go_wp2
    go_roundg k1
    case measure=>exact yM1 bK
    case rel=>exact⟨(aX),(wrap64 (aa+1)),zr,H',⟨yM1 bK⟩,⟨zR b5.out⟩,⟨zb⟩⟩
   replace bL:=Bool.eq_false_iff.mpr bL;subst bL;rw[if_neg (show¬(false=true) by decide)] at H;replace H:=yA H;obtain⟨cj,H⟩:=H;have b6:=zz cj;clear cj;obtain⟨bi,bs⟩:∃y_:List Int,y_=(af++[((qA l0 aa).f1) % 256]):=⟨_,rfl⟩
   replace H:((spec_l10Text.f k1 bi ((qA l0 aa).f0)).bind fun av=>((spec_l10Text.f k1 av ((qA l0 aa).f2)).bind fun aY=>(spec_PackTree.l0 k1 l0 aY (wrap64 (aa+1)))))=some r:=yN0 bs H;have b7:=zz bs;clear bs;replace H:=zf H;obtain⟨av,bU,H⟩:=H;try dsimp only at H
   have cB:=zz bU;clear bU;replace H:=zf H;obtain⟨aY,bV,H⟩:=H;try dsimp only at H
   have cC:=zz bV;clear bV;have H':=zz H;clear H;have co:=yt (0<=(aa:Int));have cp:=yt (aa<(l0.length:Int));obtain⟨ab,bz,ah,ai,aj,ad⟩:=vF aW.out aa z2 z2
   (try rw[<-ac.out] at ad);(try rw[<-ac.out] at bM)
   cases bz;replace ah:=z3 HB.out ah;replace ai:=z3 HB.out ai;replace aj:=z3 HB.out aj;replace ad:=z3 HB.out ad;have cq:=yt (0<=(aa:Int));have cr:=yt (aa<(l0.length:Int));obtain⟨bq,bA,ak,al,am,ae⟩:=vF aW.out aa z2 z2
   (try rw[<-ac.out] at ae);(try rw[<-ac.out] at bN)
   obtain rfl:ab=bq:=(by injection bA)
   replace ak:=z3 HB.out ak;replace al:=z3 HB.out al;replace am:=z3 HB.out am;replace ae:=z3 HB.out ae;try go_wp2_with(first|((with_reducible refine qP (b:= .append) (xs:= #[.tmp 33,.tmp 36]) rfl ?_);at_builtin;refine Kd.R_append (Kd.int .u8) (w0:=w) w.heap.size rfl (.tmp 33) (.tmp 36) 118 5 (.int .u8 0) 1 rfl Tryz.underlying118 info5 rfl yd_ yo_ u3 af (((qA l0 aa).f1) % 256) [.int .u8 (((qA l0 aa).f1) % 256)] (fun _=>True) (fun _=>False) rfl rfl ?aP (fun _ hk=>hk.elim) ?aF ?aO ?aB ?aS ?aL ?_;(case aP=>exact rfl);(case aB=>exact zb);(case aF=>exact(fun _ _=>trivial));(case aO=>exact(zR bd.out));(case aS=>exact(qE zb));(case aL=>have:=b6.out;omega);intro cP cD ho hb hg hat;rw[<-b7.out] at ho;replace HB:=zz (hb);have aJ:=zz (ho);clear bd;clear ho hb hg hat))
   replace aJ:=zz (Kd.qZ aJ.out);replace HB:=zz (qK HB.out);have cQ:=yt (0<=(aa:Int));have cR:=yt (aa<(l0.length:Int));obtain⟨b8,cw,aK,aM,aN,ap⟩:=vF aW.out aa z2 z2;have aQ:=ap;have a5:=aN;have a6:=aM;have a7:=aK
   (try rw[<-ac.out] at ap);(try rw[<-ac.out] at aQ)
   obtain rfl:ab=b8:=(by injection cw)
   replace aK:=z3 HB.out aK;replace aM:=z3 HB.out aM;replace aN:=z3 HB.out aN;replace ap:=z3 HB.out ap;have cS:=yt (0<=(aa:Int));have cT:=yt (aa<(l0.length:Int));obtain⟨b9,cx,aR,aT,aU,ar⟩:=vF aW.out aa z2 z2;have aV:=ar;have a8:=aU;have a9:=aT;have ba:=aR
   (try rw[<-ac.out] at ar);(try rw[<-ac.out] at aV)
   obtain rfl:ab=b9:=(by injection cx)
   replace aR:=z3 HB.out aR;replace aT:=z3 HB.out aT;replace aU:=z3 HB.out aU;replace ar:=z3 HB.out ar;obtain⟨bF,bG,bW⟩:=Kd.qW aJ.out
   (first|subst bW|(injection bW with aw bf ax;have bg:=aw.symm;have bh:=ax.symm;clear aw bf ax;subst bg;subst bh))
   refine start_ (n:=14) (S:=fun w'=>w'.cell? (ab.add ((aa).toNat*4))=some (.string ((qA l0 aa).f0))/\w'.cell? ⟨(ab.add ((aa).toNat*4)).block,(ab.add ((aa).toNat*4)).off+1,none⟩=some (.int .i64 ((qA l0 aa).f1))/\w'.cell? ⟨(ab.add ((aa).toNat*4)).block,(ab.add ((aa).toNat*4)).off+2,none⟩=some (.string ((qA l0 aa).f2))/\w'.cell? ⟨(ab.add ((aa).toNat*4)).block,(ab.add ((aa).toNat*4)).off+3,none⟩=some (.bool (false))/\w'.cell? (ab.add ((aa).toNat*4))=some (.string ((qA l0 aa).f0))/\w'.cell? ⟨(ab.add ((aa).toNat*4)).block,(ab.add ((aa).toNat*4)).off+1,none⟩=some (.int .i64 ((qA l0 aa).f1))/\w'.cell? ⟨(ab.add ((aa).toNat*4)).block,(ab.add ((aa).toNat*4)).off+2,none⟩=some (.string ((qA l0 aa).f2))/\w'.cell? ⟨(ab.add ((aa).toNat*4)).block,(ab.add ((aa).toNat*4)).off+3,none⟩=some (.bool (false))) (ds:=[]) (bp 0 14) zk rfl rfl ⟨(z3 HB.out a7),(z3 HB.out a6),(z3 HB.out a5),(z3 HB.out aQ),(z3 HB.out ba),(z3 HB.out a9),(z3 HB.out a8),(z3 HB.out aV)⟩ (fun hHeld=>?_);refine with_tabW spec_PackTree.tab11 spec_PackTree.bits11 (fun HT_ HW_=>?_);generalize cD.drew=c6 at aJ HB aK aM aN ap aR aT aU ar hHeld⊢;refine zp 0 38 (bp 1 13) ?_;refine zp 1 39 (bp 2 12) ?_;refine zp 2 40 (bp 3 11) ?_;refine zp 3 41 (bp 4 10) ?_;refine zp 4 42 (bp 5 9) ?_;refine zp 7 45 (bm 14 159) ?_;refine zp 8 46 (bm 14 415) ?_;refine zp 9 47 (bm 14 927) ?_;refine zp 10 48 (bm 14 1951) ?_;refine zt 5 43 (bm 14 1983) ?_;refine zt 11 49 (bm 14 4031) ?_;refine zo 6 44 (bp 12 2) fun K hK=>?_;refine zh Tryz.func131 #[.slice bF bi.length bG,.string ((qA l0 aa).f0)] ?_;with_reducible refine(spec_l10Text.calls k1 (fun k_=>some k_=(.slice bF bi.length bG:Value).ownBlock) (.slice bF bi.length bG) bi ((qA l0 aa).f0) av w _ ?s1 ?s2 cB.out).mono ?_
   (case s1=>repeat(first|(with_reducible first|exact HB.out|apply qS|apply qQ|apply qK)|exact HB.out))
   (case s2=>exact Kd.R_tight rfl aJ.out)
   rintro e c7 ⟨cU,rfl,ag,hb,hkp⟩;refine⟨_,rfl,?_⟩;have bu:=zz (Kd.qM (ok':=fun k_=>True) ag (fun k_ hk_=>trivial));replace HB:=zz (hb);clear aJ
   (try clear hb)
   (try clear hkp)
   (try clear ag)
   obtain⟨bH,bI,bX⟩:=Kd.qW bu.out
   (first|subst bX|(injection bX with aw bf ax;have bg:=aw.symm;have bh:=ax.symm;clear aw bf ax;subst bg;subst bh))
   refine hK.out _ _ ⟨(z3 HB.out a7),(z3 HB.out a6),(z3 HB.out a5),(z3 HB.out aQ),(z3 HB.out ba),(z3 HB.out a9),(z3 HB.out a8),(z3 HB.out aV)⟩ (fun hHeld=>?_);clear hK K;refine zn 44 ?_;refine zo 12 50 (bp 13 1) fun K hK=>?_;refine zh Tryz.func131 #[.slice bH av.length bI,.string ((qA l0 aa).f2)] ?_;with_reducible refine(spec_l10Text.calls k1 (fun k_=>some k_=(.slice bH av.length bI:Value).ownBlock) (.slice bH av.length bI) av ((qA l0 aa).f2) aY w _ ?s1 ?s2 cC.out).mono ?_
   (case s1=>repeat(first|(with_reducible first|exact HB.out|apply qS|apply qQ|apply qK)|exact HB.out))
   (case s2=>exact Kd.R_tight rfl bu.out)
   rintro e c8 ⟨cV,rfl,ag,hb,hkp⟩;refine⟨_,rfl,?_⟩;have ca:=zz (Kd.qM (ok':=fun k_=>True) ag (fun k_ hk_=>trivial));replace HB:=zz (hb);clear bu
   (try clear hb)
   (try clear hkp)
   (try clear ag)
   refine hK.out _ _ ⟨(z3 HB.out a7),(z3 HB.out a6),(z3 HB.out a5),(z3 HB.out aQ),(z3 HB.out ba),(z3 HB.out a9),(z3 HB.out a8),(z3 HB.out aV)⟩ (fun hHeld=>?_);clear hK K;refine zn 50 ?_;refine zp 13 3 (bp 14 0) ?_;refine done_ (done_of HT_.out zk) ?_;try go_wp2
   go_roundg k1
   case measure=>exact yM1 bK
   case rel=>exact⟨(aY),(wrap64 (aa+1)),zr,H',⟨yM1 bK⟩,⟨zR ca.out⟩,⟨zb⟩⟩
end Go.Proofs.YtgccknmddhbdgaaGreatDoor.Q
