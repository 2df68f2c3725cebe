import Derived.Test.YtcekmnclmldmmaaGreatDoorN06
set_option linter.unusedVariables false
set_option linter.unusedSimpArgs false
namespace Go.Proofs.YtcekmnclmldmmaaGreatDoor.Q
open Go.RowKit W1 W2 W3
attribute [local go_sem] max2_int min2_int max_two min_two max_three min_three max_four min_four
attribute [local go_sem high] bl_leq bl_gtr bl_geq
set_option maxHeartbeats 8000000
set_option maxRecDepth 100000
def impl_Word32.l0:Nat→Int→List Int→Int→Int→Option (ByteArray)
 |0,_,_,_,_=>none
 |k+1,x0,x3,x7,x8=>if x8<x7 then(if 0≤(wrap64 (5*x8)) then(if 0≤(Go.bits .and .u64 (shr .u64 x0 (wrap64 (5*x8))) 31) then(if(Go.bits .and .u64 (shr .u64 x0 (wrap64 (5*x8))) 31)<32 then(if 0≤(wrap64 (12 - x8)) then(if(wrap64 (12 - x8))<(x3.length:Int) then(impl_Word32.l0 k x0 (x3.set ((wrap64 (12 - x8)):Int).toNat (bt (⟨#[48,49,50,51,52,53,54,55,56,57,97,98,99,100,102,103,104,105,106,107,108,109,110,112,113,114,115,118,119,120,121,122]⟩:ByteArray) (Go.bits .and .u64 (shr .u64 x0 (wrap64 (5*x8))) 31))) x7 (wrap64 (x8+1))) else(none)) else(none)) else(none)) else(none)) else(none)) else(some (strOfNums x3))
def impl_Word32.f(k:Nat)(a0:Int):Option (ByteArray):=if 13≤281474976710656 then((some (List.replicate 13 0:List Int)).bind fun y562=>(impl_Word32.l0 k a0 y562 (y562.length:Int) 0)) else(none)
theorem impl_Word32.calls(k:Nat)(a0:Int)(r:ByteArray)(w:World)(h:impl_Word32.f k a0=some r):
 Calls Tryz.prog 145 #[.int .u64 a0] w fun e w'=>e= .returned (.string r)∧Below w.heap.size w w':=by
 have HB:=zz (Below.refl w.heap.size w)
 unfold impl_Word32.f at h
 have H:=h
 clear h
 by_cases c2:13≤281474976710656
 case neg=>exact zno H c2
 rw[if_pos c2] at H
 have c2b0:=eq_true c2
 have c2b1:=z1 c2
 clear c2
 obtain⟨y562,hy562⟩:∃y_:List Int,y_=(List.replicate 13 0):=⟨_,rfl⟩
 replace H:(impl_Word32.l0 k a0 y562 (y562.length:Int) 0)=some r:=by first|(rw[hy562];with_reducible exact H)|(have H2_:=(Option.bind_some _ _).symm.trans H;rw[hy562];with_reducible exact H2_)|(have H2_:=(Option.bind_some _ _).symm.trans H;with_reducible exact H2_)|with_reducible exact H|(rw[hy562];exact H)|exact H
 have Ny562:=zz hy562
 clear hy562
 have H':=zz H
 clear H
 go_enter Tryz.func145,Tryz.ntmps145
 go_wp2_with(first|(refine zN 5 ?_;refine Kd.R_make (Kd.int .u8) _ 5 rfl (N:=5) rfl 133 _ _ rfl 13 rfl rfl Tryz.underlying133 (.int .u8 0) 1 info5 rfl (by decide) (by omega) 0 (ok:=fun _=>True) (okp:=fun _=>True) rfl (fun _ hk=>hk) trivial (by omega) (by omega) (Below.refl _ _) (Nat.le_refl _) ?_;intro v563 w3 ho4 hb hg_ hnew_;clear hg_ hnew_;(first|rw[←Ny562.out] at ho4|(simp only[Int.reduceToNat] at ho4;rw[←Ny562.out] at ho4));have HO564:=zz (Kd.vH ho4 (qG zb));replace HB:=zz (zv zb hb);clear hb ho4;obtain⟨Ao5,co5,eo5⟩:=Kd.vG HO564.out;subst eo5))
 go_loopg[8] k (fun kq v8 w'=>∃(x3_1:List Int) (x8_1:Int),v8= .int .i64 x8_1∧qB (impl_Word32.l0 kq a0 x3_1 (y562.length:Int) x8_1=some r)∧qB (kq≤k)∧qB (Kd.R (Kd.int .u8) 5 w' w.heap.size (fun _=>True) (.slice Ao5 y562.length co5) x3_1)∧qB (Below w.heap.size w w'))
 case atStart=>exact⟨(y562),(0),zr,H',⟨Nat.le_refl _⟩,⟨by(with_reducible repeat(first|apply Kd.qU|apply Kd.qT|apply Kd.qX));exact HO564.out⟩,⟨zb⟩⟩
 case round=>
  clear H'
  try clear c1
  try clear c2
  try clear c2b0
  try clear c2b1
  try clear p2
  obtain⟨x3_1,x8_1,rfl,HA,HK1,HO_3,HB⟩:=hrel
  have hl3_1:=(Kd.qS HO_3.out).1
  rw[hl3_1] at HO_3
  (try simp only[hl3_1])
  cases gk with
  |zero=>exact absurd HA.out (by simp[impl_Word32.l0])
  |succ k1=>
   have H:=HA.out
   clear HA
   simp only[impl_Word32.l0] at H
   by_cases c6:x8_1<(y562.length:Int)
   case neg=>
    rw[if_neg c6] at H
    have c6b0:=z0 c6
    (try(have c6b0h0:=c6b0;rw[hl3_1] at c6b0h0))
    clear c6
    obtain rfl:=zi H
    have hcv19:=own_string (P:=Tryz.prog) Tryz.underlying133 Tryz.underlying5 Tryz.underlying9 (Kd.own_of_R HO_3.out)
    go_wp2
    go_ret
    exact⟨ze,zb⟩
   rw[if_pos c6] at H
   have c6b0:=z1 c6
   (try(have c6b0h0:=c6b0;rw[hl3_1] at c6b0h0))
   clear c6
   obtain⟨ji7,hji7⟩:∃j_:Int,(wrap64 (5*x8_1))=j_:=⟨_,rfl⟩
   replace H:(if 0≤(ji7) then(if 0≤(Go.bits .and .u64 (shr .u64 a0 (ji7)) 31) then(if(Go.bits .and .u64 (shr .u64 a0 (ji7)) 31)<32 then(if 0≤(wrap64 (12 - x8_1)) then(if(wrap64 (12 - x8_1))<(x3_1.length:Int) then(impl_Word32.l0 k1 a0 (x3_1.set ((wrap64 (12 - x8_1)):Int).toNat (bt (⟨#[48,49,50,51,52,53,54,55,56,57,97,98,99,100,102,103,104,105,106,107,108,109,110,112,113,114,115,118,119,120,121,122]⟩:ByteArray) (Go.bits .and .u64 (shr .u64 a0 (ji7)) 31))) (y562.length:Int) (wrap64 (x8_1+1))) else(none)) else(none)) else(none)) else(none)) else(none))=some r:=by first|(rw[hji7] at H;exact H)|(simp only[hji7] at H⊢;exact H)
   have hji7w:(IntKind.i64.wrap (5*x8_1))=ji7:=(i64_w _).trans hji7
   by_cases c8:0≤(ji7)
   case neg=>exact zno H c8
   rw[if_pos c8] at H
   have c8b0:=eq_true c8
   have c8b1:=z1 c8
   (try(have c8b1h0:=c8b1;rw[hl3_1] at c8b1h0))
   clear c8
   obtain⟨ji9,hji9⟩:∃j_:Int,(shr .u64 a0 (ji7))=j_:=⟨_,rfl⟩
   replace H:(if 0≤(Go.bits .and .u64 (ji9) 31) then(if(Go.bits .and .u64 (ji9) 31)<32 then(if 0≤(wrap64 (12 - x8_1)) then(if(wrap64 (12 - x8_1))<(x3_1.length:Int) then(impl_Word32.l0 k1 a0 (x3_1.set ((wrap64 (12 - x8_1)):Int).toNat (bt (⟨#[48,49,50,51,52,53,54,55,56,57,97,98,99,100,102,103,104,105,106,107,108,109,110,112,113,114,115,118,119,120,121,122]⟩:ByteArray) (Go.bits .and .u64 (ji9) 31))) (y562.length:Int) (wrap64 (x8_1+1))) else(none)) else(none)) else(none)) else(none))=some r:=by first|(rw[hji9] at H;exact H)|(simp only[hji9] at H⊢;exact H)
   have hji9_:(a0 / 2 ^ min (ji7).toNat 64)=ji9:=hji9
   have hji9z:(ji7)≤64→(a0 / 2 ^ (ji7).toNat)=ji9:=shr_small hji9
   by_cases c10:0≤(Go.bits .and .u64 (ji9) 31)
   case neg=>exact zno H c10
   rw[if_pos c10] at H
   have c10b0:=z1 c10
   (try(have c10b0h0:=c10b0;rw[hl3_1] at c10b0h0))
   clear c10
   by_cases c11:(Go.bits .and .u64 (ji9) 31)<32
   case neg=>exact zno H c11
   rw[if_pos c11] at H
   have c11b0:=z1 c11
   (try(have c11b0h0:=c11b0;rw[hl3_1] at c11b0h0))
   clear c11
   obtain⟨ji13,hji13⟩:∃j_:Int,(wrap64 (12 - x8_1))=j_:=⟨_,rfl⟩
   replace H:(if 0≤(ji13) then(if(ji13)<(x3_1.length:Int) then(impl_Word32.l0 k1 a0 (x3_1.set ((ji13):Int).toNat (bt (⟨#[48,49,50,51,52,53,54,55,56,57,97,98,99,100,102,103,104,105,106,107,108,109,110,112,113,114,115,118,119,120,121,122]⟩:ByteArray) (Go.bits .and .u64 (ji9) 31))) (y562.length:Int) (wrap64 (x8_1+1))) else(none)) else(none))=some r:=by first|(rw[hji13] at H;exact H)|(simp only[hji13] at H⊢;exact H)
   have hji13w:(IntKind.i64.wrap (12 - x8_1))=ji13:=(i64_w _).trans hji13
   by_cases c14:0≤(ji13)
   case neg=>exact zno H c14
   rw[if_pos c14] at H
   have c14b0:=z1 c14
   (try(have c14b0h0:=c14b0;rw[hl3_1] at c14b0h0))
   clear c14
   by_cases c15:(ji13)<(x3_1.length:Int)
   case neg=>exact zno H c15
   rw[if_pos c15] at H
   have c15b0:=z1 c15
   (try(have c15b0h0:=c15b0;rw[hl3_1] at c15b0h0))
   clear c15
   obtain⟨y565,hy565⟩:∃y_:List Int,y_=(x3_1.set ((ji13):Int).toNat (bt (⟨#[48,49,50,51,52,53,54,55,56,57,97,98,99,100,102,103,104,105,106,107,108,109,110,112,113,114,115,118,119,120,121,122]⟩:ByteArray) (Go.bits .and .u64 (ji9) 31))):=⟨_,rfl⟩
   replace H:(impl_Word32.l0 k1 a0 y565 (y562.length:Int) (wrap64 (x8_1+1)))=some r:=by first|(rw[hy565];with_reducible exact H)|(have H2_:=(Option.bind_some _ _).symm.trans H;rw[hy565];with_reducible exact H2_)|(have H2_:=(Option.bind_some _ _).symm.trans H;with_reducible exact H2_)|with_reducible exact H|(rw[hy565];exact H)|exact H
   have Ny565:=zz hy565
   clear hy565
   have H':=zz H
   clear H
   have p12:0≤((Go.bits .and .u64 (ji9) 31):Int):=z2
   have q12:(Go.bits .and .u64 (ji9) 31)<(32:Int):=z2
   have hx12:=bt_at (⟨#[48,49,50,51,52,53,54,55,56,57,97,98,99,100,102,103,104,105,106,107,108,109,110,112,113,114,115,118,119,120,121,122]⟩:ByteArray) (Go.bits .and .u64 (ji9) 31)
   replace p12:=eq_true p12
   replace q12:=eq_true q12
   have p16:0≤((ji13):Int):=z2
   have q16:((ji13):Int)<((x3_1.length:Int):Int):=z2
   obtain⟨go16,co16,eo16,gb16,gl16,cl16,HG16⟩:=Kd.R_form HO_3.out (by omega)
   (first|cases eo16|(injection eo16 with ea_ en_ ec_;(first|subst ea_|(injection ea_ with ea_;subst ea_));subst ec_;clear en_))
   have GB16:=zz gb16
   have GG16:=zz HG16
   clear gb16 gl16 HG16
   obtain⟨hx16_0,hf16_0⟩:=Kd.R_celln 0 HO_3.out ((ji13):Int) p16 q16
   replace p16:=eq_true p16
   replace q16:=eq_true q16
   have HP17:=Kd.R_putg HO_3.out ((ji13):Int) (bt (⟨#[48,49,50,51,52,53,54,55,56,57,97,98,99,100,102,103,104,105,106,107,108,109,110,112,113,114,115,118,119,120,121,122]⟩:ByteArray) (Go.bits .and .u64 (ji9) 31))
   go_wp2_with(first|((with_reducible refine qY (t:=5) (p:=20) rfl ?_);refine qV (t:=5) (p:=20) (v:=?vo_w18) (w1:=(wr.setCell ⟨go16,((ji13):Int).toNat,none⟩ (.int .u8 (bt (⟨#[48,49,50,51,52,53,54,55,56,57,97,98,99,100,102,103,104,105,106,107,108,109,110,112,113,114,115,118,119,120,121,122]⟩:ByteArray) (Go.bits .and .u64 (ji9) 31))))) ?hg ?ho ?hn ?hr ?_;(case ho=>rfl);(case hg=>rfl);(case hn=>rfl);(case hr=>first|(go_simp;done)|(go_simp;rfl));intro w18 hw;have hg:wr.grownBy w18 (some go16):=(by rw[hw];exact HP17.2);have hp_:Kd.R (Kd.int .u8) 5 w18 w.heap.size (fun _=>True) (.slice (some ⟨go16,0,none⟩) x3_1.length co5) y565:=(by rw[hw,Ny565.out];exact HP17.1);clear HP17;replace HO_3:=zz (hp_);replace HB:=zz ((by rw[hw];exact qM (HB.out) GB16.out:Below w.heap.size w w18));clear hg hw hp_))
   (try simp only[←hl3_1])
   go_roundg k1
   case measure=>have:=HK1.out;omega
   case rel=>exact⟨(y565),(wrap64 (x8_1+1)),zr,H',⟨by have:=HK1.out;omega⟩,⟨by(try simp only[hl3_1]);(with_reducible repeat(first|apply Kd.qU|apply Kd.qT|apply Kd.qX));exact HO_3.out⟩,⟨zb⟩⟩
mutual
def impl_Sum.l0:Nat→Int→List Int→Int→Int→Option (Int)
 |0,_,_,_,_=>none
 |k+1,x3,x6,x7,x8=>if x8<x7 then(if 0≤x8 then(if x8<(x6.length:Int) then(impl_Sum.l0 k (IntKind.u64.wrap ((Go.bits .xor .u64 x3 (IntKind.u64.wrap (rd x6 x8)))*1099511628211)) x6 x7 (wrap64 (x8+1))) else(none)) else(none)) else(impl_Sum.l1 k x3 0)
def impl_Sum.l1:Nat→Int→Int→Option (Int)
 |0,_,_=>none
 |k+1,x3,x18=>if x18<3 then(impl_Sum.l1 k (IntKind.u64.wrap ((Go.bits .xor .u64 x3 (x3 / 536870912))*11400714819323198485)) (wrap64 (x18+1))) else(some (Go.bits .xor .u64 x3 (x3 / 4294967296)))
end
def impl_Sum.f(k:Nat)(l0:List Int):Option (Int):=impl_Sum.l0 k 14695981039346656037 l0 (l0.length:Int) 0
theorem impl_Sum.calls(k:Nat)(A0:Option Addr)(c0:Nat)(l0:List Int)(r:Int)(w:World)(hr0:Kd.C (Kd.int .u8) w A0 l0.length l0)(hc0:l0.length≤c0)(h:impl_Sum.f k l0=some r):
 Calls Tryz.prog 146 #[.slice A0 l0.length c0] w fun e w'=>e= .returned (.int .u64 r)∧qE w w':=by
 have HR0:=zz hr0
 have HC0:=zz hc0
 clear hr0 hc0
 unfold impl_Sum.f at h
 have H:=h
 clear h
 have H':=zz H
 clear H
 go_enter Tryz.func146,Tryz.ntmps146
 go_wp2
 go_loopg[3,8] k (fun kq v3 v8 w'=>∃(x3_1:Int) (x8_1:Int),v3= .int .u64 x3_1∧v8= .int .i64 x8_1∧qB (impl_Sum.l0 kq x3_1 l0 (l0.length:Int) x8_1=some r)∧qB (kq≤k)∧qE w w')
 case atStart=>exact⟨(14695981039346656037),(0),zr,zr,H',⟨Nat.le_refl _⟩,by repeat(first|exact qE.refl _|apply qE.step)⟩
 case round=>
  clear H'
  try clear c1
  obtain⟨x3_1,x8_1,rfl,rfl,HA,HK1,⟨m1,rfl⟩⟩:=hrel
  cases gk with
  |zero=>exact absurd HA.out (by simp[impl_Sum.l0])
  |succ k1=>
   have H:=HA.out
   clear HA
   simp only[impl_Sum.l0] at H
   by_cases c2:x8_1<(l0.length:Int)
   ·rw[if_pos c2] at H
    have c2b0:=z1 c2
    clear c2
    by_cases c3:0≤x8_1
    case neg=>exact zno H c3
    rw[if_pos c3] at H
    have c3b0:=z1 c3
    clear c3
    by_cases c4:x8_1<(l0.length:Int)
    case neg=>exact zno H c4
    rw[if_pos c4] at H
    have c4b0:=z1 c4
    clear c4
    have H':=zz H
    clear H
    have p566:0≤(x8_1:Int):=z2
    have q566:x8_1<(l0.length:Int):=z2
    obtain⟨ad566,e566,hx566_0⟩:=Kd.at_int HR0.out x8_1 p566 q566
    cases e566
    replace p566:=eq_true p566
    replace q566:=eq_true q566
    go_wp2
    go_roundg k1
    case measure=>have:=HK1.out;omega
    case rel=>exact⟨(IntKind.u64.wrap ((Go.bits .xor .u64 x3_1 (IntKind.u64.wrap (rd l0 x8_1)))*1099511628211)),(wrap64 (x8_1+1)),zr,zr,H',⟨by have:=HK1.out;omega⟩,by repeat(first|exact qE.refl _|apply qE.step)⟩
   rw[if_neg c2] at H
   have c2b0:=z0 c2
   clear c2
   have H':=zz H
   clear H
   go_wp2
   go_loopg[3,18] k1 (fun kq v3 v18 w'=>∃(x3_2:Int) (x18_2:Int),v3= .int .u64 x3_2∧v18= .int .i64 x18_2∧qB (impl_Sum.l1 kq x3_2 x18_2=some r)∧qB (kq≤k1)∧qE w w')
   case atStart=>exact⟨(x3_1),(0),zr,zr,H',⟨Nat.le_refl _⟩,by repeat(first|exact qE.refl _|apply qE.step)⟩
   case round=>
    clear H'
    try clear c1
    try clear c2
    try clear c2b0
    try clear p2
    try clear c3
    try clear c3b0
    try clear c4
    try clear c4b0
    try clear hx566_0
    try clear p566
    try clear q566
    obtain⟨x3_2,x18_2,rfl,rfl,HA,HK2,⟨m2,rfl⟩⟩:=hrel
    cases gk with
    |zero=>exact absurd HA.out (by simp[impl_Sum.l1])
    |succ k2=>
     have H:=HA.out
     clear HA
     simp only[impl_Sum.l1] at H
     by_cases c5:x18_2<3
     case neg=>
      rw[if_neg c5] at H
      have c5b0:=z0 c5
      clear c5
      obtain rfl:=zi H
      go_wp2
      go_ret
      exact⟨zr,by repeat(first|exact qE.refl _|apply qE.step)⟩
     rw[if_pos c5] at H
     have c5b0:=z1 c5
     clear c5
     have H':=zz H
     clear H
     go_wp2
     go_roundg k2
     case measure=>have:=HK1.out;have:=HK2.out;omega
     case rel=>exact⟨(IntKind.u64.wrap ((Go.bits .xor .u64 x3_2 (x3_2 / 536870912))*11400714819323198485)),(wrap64 (x18_2+1)),zr,zr,H',⟨by have:=HK1.out;have:=HK2.out;omega⟩,by repeat(first|exact qE.refl _|apply qE.step)⟩
def spec_l10Num.l0:Nat→List Int→Int→Option (List Int)
 |0,_,_=>none
 |k+1,x0,x1=>if x1≥128 then(if x0.length<140737488355328 then(spec_l10Num.l0 k (x0++[(wrap64 ((Int.tmod x1 128)+128)) % 256]) (wrap64 (Int.tdiv x1 128))) else(none)) else(if x0.length<140737488355328 then(some (x0++[(x1) % 256])) else(none))
def spec_l10Num.f(k:Nat)(l0:List Int)(a1:Int):Option (List Int):=spec_l10Num.l0 k l0 a1
theorem spec_l10Num.calls(k:Nat)(P0_:Nat→Prop)(u9000_:Value)(l0:List Int)(a1:Int)(r:List Int)(w0 w:World)(hB:Below w0.heap.size w0 w)(ho0:Kd.R (Kd.int .u8) 5 w w0.heap.size P0_ u9000_ l0)(h:spec_l10Num.f k l0 a1=some r):
 Calls Tryz.prog 158 #[u9000_,.int .i64 a1] w fun e w'=>∃v0_:Value,e= .returned (v0_)∧Kd.R (Kd.int .u8) 5 w' w0.heap.size (fun k_=>(P0_ k_∨w.heap.size≤k_)) v0_ r∧Below w0.heap.size w0 w'∧Kept w w' (fun k_=>P0_ k_):=by
 have HO0:=zz (show Kd.R (Kd.int .u8) 5 w w0.heap.size (fun k_=>(P0_ k_∨w.heap.size≤k_)) u9000_ l0 from Kd.vF ho0 (fun k_ hk=>(.inl hk)))
 have HK:=zz (Kept.refl w (fun k_=>P0_ k_))
 have HW0:=zz hB.size
 have HB:=zz hB
 clear hB
 unfold spec_l10Num.f at h
 have H:=h
 clear h
 have H':=zz H
 clear H
 go_enter Tryz.func158,Tryz.ntmps158
 go_wp2
 go_loopg[0,1] k (fun kq v0 v1 w'=>∃(x0_1:List Int) (x1_1:Int),v1= .int .i64 x1_1∧qB (spec_l10Num.l0 kq x0_1 x1_1=some r)∧qB (kq≤k)∧qB (Kd.R (Kd.int .u8) 5 w' w0.heap.size (fun k_=>(P0_ k_∨w.heap.size≤k_)) v0 x0_1)∧qB (Kept w w' (fun k_=>P0_ k_))∧qB (Below w0.heap.size w0 w'))
 case atStart=>exact⟨(l0),(a1),zr,H',⟨Nat.le_refl _⟩,⟨by(with_reducible repeat(first|apply Kd.qU|apply Kd.qT|apply Kd.qX));exact HO0.out⟩,⟨by repeat(first|(with_reducible first|exact HK.out|apply Kept.alloc|apply Kept.drewN|apply Kept.drew)|exact HK.out)⟩,⟨zb⟩⟩
 case round=>
  clear H'
  try clear c1
  try clear p2
  obtain⟨x0_1,x1_1,rfl,HA,HK1,HO_0,HK,HB⟩:=hrel
  cases gk with
  |zero=>exact absurd HA.out (by simp[spec_l10Num.l0])
  |succ k1=>
   have H:=HA.out
   clear HA
   simp only[spec_l10Num.l0] at H
   by_cases c3:x1_1≥128
   ·rw[if_pos c3] at H
    have c3b0:=zge c3
    clear c3
    by_cases c4:x0_1.length<140737488355328
    case neg=>exact zno H c4
    rw[if_pos c4] at H
    have LMc4:=zz c4
    clear c4
    obtain⟨y325,hy325⟩:∃y_:List Int,y_=(x0_1++[(wrap64 ((Int.tmod x1_1 128)+128)) % 256]):=⟨_,rfl⟩
    replace H:(spec_l10Num.l0 k1 y325 (wrap64 (Int.tdiv x1_1 128)))=some r:=by first|(rw[hy325];with_reducible exact H)|(have H2_:=(Option.bind_some _ _).symm.trans H;rw[hy325];with_reducible exact H2_)|(have H2_:=(Option.bind_some _ _).symm.trans H;with_reducible exact H2_)|with_reducible exact H|(rw[hy325];exact H)|exact H
    have Ny325:=zz hy325
    clear hy325
    have H':=zz H
    clear H
    go_wp2_with(first|((with_reducible refine vJ (b:= .append) (xs:= #[.tmp 7,.tmp 12]) rfl ?_);at_builtin;refine Kd.R_append (Kd.int .u8) (w0:=w0) w0.heap.size rfl (.tmp 7) (.tmp 12) 133 5 (.int .u8 0) 1 rfl Tryz.underlying133 info5 rfl (by decide) (by omega) u0 x0_1 ((wrap64 ((Int.tmod x1_1 128)+128)) % 256) [.int .u8 ((wrap64 ((Int.tmod x1_1 128)+128)) % 256)] (fun k_=>(P0_ k_∨w.heap.size≤k_)) (fun _=>False) rfl rfl ?aP (fun _ hk=>hk.elim) ?aF ?aO ?aB ?aS ?aL ?_;(case aP=>exact rfl);(case aB=>exact zb);(case aF=>exact(fun k_ hk=>(.inr (Nat.le_trans (by first|exact HK.out.1|exact(show Kept w _ (fun k_=>P0_ k_) from by repeat(first|(with_reducible first|exact HK.out|apply Kept.alloc|apply Kept.drewN|apply Kept.drew)|exact HK.out)).1) hk))));(case aO=>exact(zR HO_0.out));(case aS=>exact(qG zb));(case aL=>have:=LMc4.out;omega);intro v326 w5 ho hb hg hat;rw[←Ny325.out] at ho;replace HB:=zz (hb);replace HK:=zz (Kept.of_grown (S:=(fun k_=>P0_ k_)) hg (by repeat(first|(with_reducible first|exact HK.out|apply Kept.alloc|apply Kept.drewN|apply Kept.drew)|exact HK.out)) (fun k_ e_=>(HO_0.out.1 k_ e_)));have HO327:=zz (ho);clear HO_0;clear ho hb hg hat))
    go_roundg k1
    case measure=>have:=HK1.out;omega
    case rel=>exact⟨(y325),(wrap64 (Int.tdiv x1_1 128)),zr,H',⟨by have:=HK1.out;omega⟩,⟨by(with_reducible repeat(first|apply Kd.qU|apply Kd.qT|apply Kd.qX));exact HO327.out⟩,⟨by repeat(first|(with_reducible first|exact HK.out|apply Kept.alloc|apply Kept.drewN|apply Kept.drew)|exact HK.out)⟩,⟨zb⟩⟩
   rw[if_neg c3] at H
   have c3b0:=zgen c3
   clear c3
   by_cases c6:x0_1.length<140737488355328
   case neg=>exact zno H c6
   rw[if_pos c6] at H
   have LMc6:=zz c6
   clear c6
   obtain⟨y328,hy328⟩:∃y_:List Int,y_=(x0_1++[(x1_1) % 256]):=⟨_,rfl⟩
   replace H:(some y328)=some r:=by first|(rw[hy328];with_reducible exact H)|(have H2_:=(Option.bind_some _ _).symm.trans H;rw[hy328];with_reducible exact H2_)|(have H2_:=(Option.bind_some _ _).symm.trans H;with_reducible exact H2_)|with_reducible exact H|(rw[hy328];exact H)|exact H
   have Ny328:=zz hy328
   clear hy328
   obtain rfl:=zi H
   go_wp2_with(first|((with_reducible refine vJ (b:= .append) (xs:= #[.tmp 16,.tmp 19]) rfl ?_);at_builtin;refine Kd.R_append (Kd.int .u8) (w0:=w0) w0.heap.size rfl (.tmp 16) (.tmp 19) 133 5 (.int .u8 0) 1 rfl Tryz.underlying133 info5 rfl (by decide) (by omega) u0 x0_1 ((x1_1) % 256) [.int .u8 ((x1_1) % 256)] (fun k_=>(P0_ k_∨w.heap.size≤k_)) (fun _=>False) rfl rfl ?aP (fun _ hk=>hk.elim) ?aF ?aO ?aB ?aS ?aL ?_;(case aP=>exact rfl);(case aB=>exact zb);(case aF=>exact(fun k_ hk=>(.inr (Nat.le_trans (by first|exact HK.out.1|exact(show Kept w _ (fun k_=>P0_ k_) from by repeat(first|(with_reducible first|exact HK.out|apply Kept.alloc|apply Kept.drewN|apply Kept.drew)|exact HK.out)).1) hk))));(case aO=>exact(zR HO_0.out));(case aS=>exact(qG zb));(case aL=>have:=LMc6.out;omega);intro v329 w7 ho hb hg hat;rw[←Ny328.out] at ho;replace HB:=zz (hb);replace HK:=zz (Kept.of_grown (S:=(fun k_=>P0_ k_)) hg (by repeat(first|(with_reducible first|exact HK.out|apply Kept.alloc|apply Kept.drewN|apply Kept.drew)|exact HK.out)) (fun k_ e_=>(HO_0.out.1 k_ e_)));have HO330:=zz (ho);clear HO_0;clear ho hb hg hat))
   go_ret
   exact⟨_,ze,by(with_reducible repeat(first|apply Kd.qU|apply Kd.qT|apply Kd.qX));exact HO330.out,zb,by repeat(first|(with_reducible first|exact HK.out|apply Kept.alloc|apply Kept.drewN|apply Kept.drew)|exact HK.out)⟩
def impl_varint.l0:Nat→List Int→Int→Option (List Int)
 |0,_,_=>none
 |k+1,x0,x1=>if x1>127 then(if x0.length<140737488355328 then(impl_varint.l0 k (x0++[(Go.bits .or .i64 (Go.bits .and .i64 x1 127) 128) % 256]) (x1 / 128)) else(none)) else(if x0.length<140737488355328 then(some (x0++[(x1) % 256])) else(none))
def impl_varint.f(k:Nat)(l0:List Int)(a1:Int):Option (List Int):=impl_varint.l0 k l0 a1
theorem impl_varint.calls(k:Nat)(P0_:Nat→Prop)(u9000_:Value)(l0:List Int)(a1:Int)(r:List Int)(w0 w:World)(hB:Below w0.heap.size w0 w)(ho0:Kd.R (Kd.int .u8) 5 w w0.heap.size P0_ u9000_ l0)(h:impl_varint.f k l0 a1=some r):
 Calls Tryz.prog 160 #[u9000_,.int .i64 a1] w fun e w'=>∃v0_:Value,e= .returned (v0_)∧Kd.R (Kd.int .u8) 5 w' w0.heap.size (fun k_=>(P0_ k_∨w.heap.size≤k_)) v0_ r∧Below w0.heap.size w0 w'∧Kept w w' (fun k_=>P0_ k_):=by
 have HO0:=zz (show Kd.R (Kd.int .u8) 5 w w0.heap.size (fun k_=>(P0_ k_∨w.heap.size≤k_)) u9000_ l0 from Kd.vF ho0 (fun k_ hk=>(.inl hk)))
 have HK:=zz (Kept.refl w (fun k_=>P0_ k_))
 have HW0:=zz hB.size
 have HB:=zz hB
 clear hB
 unfold impl_varint.f at h
 have H:=h
 clear h
 have H':=zz H
 clear H
 go_enter Tryz.func160,Tryz.ntmps160
 go_wp2
 go_loopg[0,1] k (fun kq v0 v1 w'=>∃(x0_1:List Int) (x1_1:Int),v1= .int .i64 x1_1∧qB (impl_varint.l0 kq x0_1 x1_1=some r)∧qB (kq≤k)∧qB (Kd.R (Kd.int .u8) 5 w' w0.heap.size (fun k_=>(P0_ k_∨w.heap.size≤k_)) v0 x0_1)∧qB (Kept w w' (fun k_=>P0_ k_))∧qB (Below w0.heap.size w0 w'))
 case atStart=>exact⟨(l0),(a1),zr,H',⟨Nat.le_refl _⟩,⟨by(with_reducible repeat(first|apply Kd.qU|apply Kd.qT|apply Kd.qX));exact HO0.out⟩,⟨by repeat(first|(with_reducible first|exact HK.out|apply Kept.alloc|apply Kept.drewN|apply Kept.drew)|exact HK.out)⟩,⟨zb⟩⟩
 case round=>
  clear H'
  try clear c1
  try clear p2
  obtain⟨x0_1,x1_1,rfl,HA,HK1,HO_0,HK,HB⟩:=hrel
  cases gk with
  |zero=>exact absurd HA.out (by simp[impl_varint.l0])
  |succ k1=>
   have H:=HA.out
   clear HA
   simp only[impl_varint.l0] at H
   by_cases c3:x1_1>127
   ·rw[if_pos c3] at H
    have c3b0:=zgt c3
    clear c3
    by_cases c4:x0_1.length<140737488355328
    case neg=>exact zno H c4
    rw[if_pos c4] at H
    have LMc4:=zz c4
    clear c4
    obtain⟨y567,hy567⟩:∃y_:List Int,y_=(x0_1++[(Go.bits .or .i64 (Go.bits .and .i64 x1_1 127) 128) % 256]):=⟨_,rfl⟩
    replace H:(impl_varint.l0 k1 y567 (x1_1 / 128))=some r:=by first|(rw[hy567];with_reducible exact H)|(have H2_:=(Option.bind_some _ _).symm.trans H;rw[hy567];with_reducible exact H2_)|(have H2_:=(Option.bind_some _ _).symm.trans H;with_reducible exact H2_)|with_reducible exact H|(rw[hy567];exact H)|exact H
    have Ny567:=zz hy567
    clear hy567
    have H':=zz H
    clear H
    go_wp2_with(first|((with_reducible refine vJ (b:= .append) (xs:= #[.tmp 7,.tmp 12]) rfl ?_);at_builtin;refine Kd.R_append (Kd.int .u8) (w0:=w0) w0.heap.size rfl (.tmp 7) (.tmp 12) 133 5 (.int .u8 0) 1 rfl Tryz.underlying133 info5 rfl (by decide) (by omega) u0 x0_1 ((Go.bits .or .i64 (Go.bits .and .i64 x1_1 127) 128) % 256) [.int .u8 ((Go.bits .or .i64 (Go.bits .and .i64 x1_1 127) 128) % 256)] (fun k_=>(P0_ k_∨w.heap.size≤k_)) (fun _=>False) rfl rfl ?aP (fun _ hk=>hk.elim) ?aF ?aO ?aB ?aS ?aL ?_;(case aP=>exact rfl);(case aB=>exact zb);(case aF=>exact(fun k_ hk=>(.inr (Nat.le_trans (by first|exact HK.out.1|exact(show Kept w _ (fun k_=>P0_ k_) from by repeat(first|(with_reducible first|exact HK.out|apply Kept.alloc|apply Kept.drewN|apply Kept.drew)|exact HK.out)).1) hk))));(case aO=>exact(zR HO_0.out));(case aS=>exact(qG zb));(case aL=>have:=LMc4.out;omega);intro v568 w5 ho hb hg hat;rw[←Ny567.out] at ho;replace HB:=zz (hb);replace HK:=zz (Kept.of_grown (S:=(fun k_=>P0_ k_)) hg (by repeat(first|(with_reducible first|exact HK.out|apply Kept.alloc|apply Kept.drewN|apply Kept.drew)|exact HK.out)) (fun k_ e_=>(HO_0.out.1 k_ e_)));have HO569:=zz (ho);clear HO_0;clear ho hb hg hat))
    go_roundg k1
    case measure=>have:=HK1.out;omega
    case rel=>exact⟨(y567),(x1_1 / 128),zr,H',⟨by have:=HK1.out;omega⟩,⟨by(with_reducible repeat(first|apply Kd.qU|apply Kd.qT|apply Kd.qX));exact HO569.out⟩,⟨by repeat(first|(with_reducible first|exact HK.out|apply Kept.alloc|apply Kept.drewN|apply Kept.drew)|exact HK.out)⟩,⟨zb⟩⟩
   rw[if_neg c3] at H
   have c3b0:=zgtn c3
   clear c3
   by_cases c6:x0_1.length<140737488355328
   case neg=>exact zno H c6
   rw[if_pos c6] at H
   have LMc6:=zz c6
   clear c6
   obtain⟨y570,hy570⟩:∃y_:List Int,y_=(x0_1++[(x1_1) % 256]):=⟨_,rfl⟩
   replace H:(some y570)=some r:=by first|(rw[hy570];with_reducible exact H)|(have H2_:=(Option.bind_some _ _).symm.trans H;rw[hy570];with_reducible exact H2_)|(have H2_:=(Option.bind_some _ _).symm.trans H;with_reducible exact H2_)|with_reducible exact H|(rw[hy570];exact H)|exact H
   have Ny570:=zz hy570
   clear hy570
   obtain rfl:=zi H
   go_wp2_with(first|((with_reducible refine vJ (b:= .append) (xs:= #[.tmp 16,.tmp 19]) rfl ?_);at_builtin;refine Kd.R_append (Kd.int .u8) (w0:=w0) w0.heap.size rfl (.tmp 16) (.tmp 19) 133 5 (.int .u8 0) 1 rfl Tryz.underlying133 info5 rfl (by decide) (by omega) u0 x0_1 ((x1_1) % 256) [.int .u8 ((x1_1) % 256)] (fun k_=>(P0_ k_∨w.heap.size≤k_)) (fun _=>False) rfl rfl ?aP (fun _ hk=>hk.elim) ?aF ?aO ?aB ?aS ?aL ?_;(case aP=>exact rfl);(case aB=>exact zb);(case aF=>exact(fun k_ hk=>(.inr (Nat.le_trans (by first|exact HK.out.1|exact(show Kept w _ (fun k_=>P0_ k_) from by repeat(first|(with_reducible first|exact HK.out|apply Kept.alloc|apply Kept.drewN|apply Kept.drew)|exact HK.out)).1) hk))));(case aO=>exact(zR HO_0.out));(case aS=>exact(qG zb));(case aL=>have:=LMc6.out;omega);intro v571 w7 ho hb hg hat;rw[←Ny570.out] at ho;replace HB:=zz (hb);replace HK:=zz (Kept.of_grown (S:=(fun k_=>P0_ k_)) hg (by repeat(first|(with_reducible first|exact HK.out|apply Kept.alloc|apply Kept.drewN|apply Kept.drew)|exact HK.out)) (fun k_ e_=>(HO_0.out.1 k_ e_)));have HO572:=zz (ho);clear HO_0;clear ho hb hg hat))
   go_ret
   exact⟨_,ze,by(with_reducible repeat(first|apply Kd.qU|apply Kd.qT|apply Kd.qX));exact HO572.out,zb,by repeat(first|(with_reducible first|exact HK.out|apply Kept.alloc|apply Kept.drewN|apply Kept.drew)|exact HK.out)⟩
def Tight(w:World)(g:Nat)(xs:List Int):Prop:=∃cs e fr,w.heap[g]?=some (.cells cs e fr)∧cs.toList=xs.map (fun x=>Value.int .u8 x)
def RT(e base:Nat)(w:World)(v:Value)(xs:List Int):Prop:=Kd.R (Kd.int .u8) e w base (fun _=>True) v xs∨∃g,v= .slice (some ⟨g,0,none⟩) xs.length xs.length∧Tight w g xs
theorem Tight.cell{w:World}{g:Nat}{xs:List Int}(h:Tight w g xs):∀j u,(xs.map (fun x=>Value.int .u8 x))[j]?=some u→w.cell? ((⟨g,0,none⟩:Addr).add j)=some u:=by
 obtain⟨cs,e,fr,h1,h2⟩:=h
 intro j u hj
 have ha:(⟨g,0,none⟩:Addr).add j=⟨g,j,none⟩:=by unfold Addr.add;split<;>simp_all
 rw[←h2,Array.getElem?_toList] at hj
 rw[ha]
 simp[World.cell?,h1,hj]
theorem Tight.old{w w':World}{g:Nat}{xs:List Int}(h:Tight w g xs)(hw:w'.heap[g]?=w.heap[g]?):Tight w' g xs:=by
 obtain⟨cs,e,fr,h1,h2⟩:=h
 exact⟨cs,e,fr,hw.trans h1,h2⟩
theorem Tight.lt{w:World}{g:Nat}{xs:List Int}(h:Tight w g xs):g<w.heap.size:=by
 obtain⟨cs,e,fr,h1,h2⟩:=h
 exact(Array.getElem?_eq_some_iff.1 h1).1
section
variable {P : Program} {ops : Array Oper} {rest : List Oper} {o : Oper} {a : Act} {Q : Exit → Act → World → Prop}
theorem RT_append{w0 W:World}(base:Nat)(hgd:o.guard=none)(s x:Operand)(t e:TypeId)
 (ho:o.op= .call { callee:= .builtin .append,args:= #[s,x],argTypes:= #[t,t] })
 (ht:P.underlying t=some (.slice e)) (hinfo:(P.info? e).map (fun i=>(i.zero,i.size,i.bytes))=some (some (.int .u8 0),1,1))
 (v:Value) (xs:List Int) (p:Int) (hs:a.eval s=v) (hx:a.eval x= .slice (some ⟨W.heap.size,0,none⟩) 1 1)
 (HO:RT e base W v xs) (HB:Below base w0 W) (hbase:base≤W.heap.size) (hl:xs.length<140737488355328)
 (h:∀v1 w1,Kd.R (Kd.int .u8) e w1 base (fun _=>True) v1 (xs++[p])→Below base w0 w1→wpList P ops Q rest (a.put o.dst v1) w1):
 wpList P ops Q (o::rest) a (W.alloc (.cells #[.int .u8 p] e)):=by
 rcases HO with HO|⟨g,rfl,hT⟩
 ·exact Kd.R_append (Kd.int .u8) (w0:=w0) base hgd s x t e (.int .u8 0) 1 ho ht hinfo rfl (by decide) (by omega) v xs p [.int .u8 p] (fun _=>True) (fun _=>False) hs hx rfl (fun _ hk=>hk.elim) (fun _ _=>trivial) HO HB hbase (by omega) (fun v1 w1 h1 h2 _ _=>h v1 w1 h1 h2)
 ·obtain⟨i0,hi,hzz⟩:=Option.map_eq_some_iff.1 hinfo
  simp only[Prod.mk.injEq] at hzz
  obtain⟨hz0,hz1,hz2⟩:=hzz
  refine wpList_plain hgd fun K hK=>?_
  have hT':Tight (W.alloc (.cells #[.int .u8 p] e)) g xs:=hT.old (Below.heap_alloc W _ g hT.lt)
  have hr:=run_append_grow (P:=P) (W.alloc (.cells #[.int .u8 p] e)) t o.type e i0 (.int .u8 0) ht hi hz0 ⟨g,0,none⟩ xs.length xs.length (xs.map (fun x=>Value.int .u8 x)) (by rw[hz1];simp) hT'.cell ⟨W.heap.size,0,none⟩ 1 1 [.int .u8 p] (by rw[hz1];rfl)
   (by simpa using World.news_of_block (cs:= #[Value.int .u8 p]) (t:=e) (fr:=(0,0)) (heap_alloc_new W (.cells #[.int .u8 p] e))) (by omega) (by omega) (by rw[hz2];exact growslice_fits (by omega) (by omega))
  unfold Oper.wp execOp
  simp only[ho,resolve,invoke,builtin,Sem.run_bind,Sem.run_pure,Result.andThen_ok,List.map_toArray,List.map_cons,List.map_nil,hs,hx,hr]
  refine hK _ _ (h _ _ ?_ ?_)
  ·generalize hW2:(W.alloc (.cells #[.int .u8 p] e))=W2
   have hge:=grownCap_ge W2 (xs.length+1) xs.length e
   have hle:=grownCap_le_maxLen W2 (xs.length+1) xs.length e (by simp only[maxLen];omega)
   have hb2:base≤W2.heap.size:=by rw[←hW2];simp;omega
   refine Kd.R_of_own (enc:=Value.int .u8) ⟨by simp[encs],.inr ⟨W2.heap.size,_,_,by simp,hb2,heap_alloc_new W2.drew _,by simpa using hge,hle,?_,?_⟩⟩ (fun _ _=>trivial)
   ·simp[size_zeroCells,Value.cells];omega
   ·simp[encs]
    have e1:∀Z:List Value,List.map (fun x=>Value.int IntKind.u8 x) xs++Value.int IntKind.u8 p::Z=(List.map (fun x=>Value.int IntKind.u8 x) xs++[Value.int IntKind.u8 p])++Z:=fun Z=>by simp
    rw[e1,List.take_left' (by simp)]
  ·exact((HB.alloc hbase _).drew).alloc (by simp;omega) _
theorem lar_event{W:World}(hgd:o.guard=none){N:Tmp}(_hd:o.dst=some N){cs:Array Value}{t:TypeId}
 (hrun:(execOp a.eval o).run P W= .ok (.value (.slice (some ⟨W.heap.size,0,none⟩) cs.size cs.size)) (W.alloc (.cells cs t (0,0))))
 (h:∀g,W.heap.size≤g→∀w1,w1.heap[g]?=some (.cells cs t (0,0))→Below W.heap.size W w1→wpList P ops Q rest (a.put o.dst (.slice (some ⟨g,0,none⟩) cs.size cs.size)) w1):wpList P ops Q (o::rest) a W:=
 Kd.event_run hgd hrun (h _ (Nat.le_refl _) _ (blk_new W _) (vA (Below.refl _ _) _))
theorem mark_event{W:World}(hgd:o.guard=none){t e te:TypeId}{x:Operand}(ho:o.op= .convert t t x)(ht:P.underlying t=some (.slice e))(he:P.underlying e=some (.int .u8)){g n c:Nat}(hx:a.eval x= .slice (some ⟨g,0,none⟩) n c){cs:Array Value}(hb:W.heap[g]?=some (.cells cs te (0,0)))
 (h:∀w1,w1.heap[g]?=some (.cells cs te (cs.size,cs.size+1))→Below g W w1→wpList P ops Q rest (a.put o.dst (.slice (some ⟨g,0,none⟩) n c)) w1):wpList P ops Q (o::rest) a W:=by
 have hr:(execOp a.eval o).run P W= .ok (.value (.slice (some ⟨g,0,none⟩) n c)) (W.freeze ⟨g,cs.size,none⟩ 1):=by
  unfold execOp
  simp only[ho,hx,convert,Sem.run_bind,run_underlying ht,run_underlying he,Result.andThen_ok]
  simp[markStringish,World.shape?,hb]
 have hf:(W.freeze ⟨g,cs.size,none⟩ 1).heap=W.heap.modify g fun
  | .cells c elem (lo,hi)=> .cells c elem (if lo==hi then(cs.size,cs.size+1) else(min lo cs.size,max hi (cs.size+1)))
  |o=>o:=rfl
 refine Kd.event_run hgd hr (h _ ?_ ⟨rfl,rfl,rfl,?_,fun k hk=>?_⟩)
 ·rw[hf,Array.getElem?_modify,if_pos rfl,hb];rfl
 ·rw[hf];simp
 ·rw[hf,Array.getElem?_modify,if_neg (by omega)]
end
theorem spec_l10Num.lar(k:Nat)(u:Value)(l0:List Int)(a1:Int)(r:List Int)(w0 w:World)(hB:Below w0.heap.size w0 w)(ho0:RT 5 w0.heap.size w u l0)(h:spec_l10Num.f k l0 a1=some r):
 Calls Tryz.prog 158 #[u,.int .i64 a1] w fun e w'=>∃v0_:Value,e= .returned (v0_)∧Kd.R (Kd.int .u8) 5 w' w0.heap.size (fun _=>True) v0_ r∧Below w0.heap.size w0 w':=by
 have HO0:=qB.mk ho0
 have HB:=qB.mk hB
 clear hB ho0
 have H:(spec_l10Num.l0 k l0 a1)=some r:=h
 clear h
 have H':=qB.mk H
 clear H
 go_enter Tryz.func158,Tryz.ntmps158
 go_wp2
 go_loopg[0,1] k (fun kq v0 v1 w'=>∃(x0_1:List Int) (x1_1:Int),v1= .int .i64 x1_1∧qB (spec_l10Num.l0 kq x0_1 x1_1=some r)∧qB (kq≤k)∧qB (RT 5 w0.heap.size w' v0 x0_1)∧qB (Below w0.heap.size w0 w'))
 case atStart=>exact⟨l0,a1,by first|rfl|(simp;done),H',⟨Nat.le_refl _⟩,HO0,HB⟩
 case round=>
  clear H' HO0
  obtain⟨x0_1,x1_1,rfl,HA,HK1,HO_0,HB⟩:=hrel
  cases gk with
  |zero=>exact absurd HA.out (by simp[spec_l10Num.l0])
  |succ k1=>
   have H:=HA.out
   clear HA
   simp only[spec_l10Num.l0] at H
   by_cases c3:x1_1≥128
   ·rw[if_pos c3] at H
    have c3b0:decide (128≤x1_1)=true:=decide_eq_true c3
    clear c3
    by_cases c4:x0_1.length<140737488355328
    ·rw[if_pos c4] at H
     have LMc4:=qB.mk c4
     clear c4
     obtain⟨y1,hy1⟩:∃y_:List Int,y_=(x0_1++[(wrap64 ((Int.tmod x1_1 128)+128)) % 256]):=⟨_,rfl⟩
     rw[←hy1] at H
     have Ny1:=qB.mk hy1
     clear hy1
     have H':=qB.mk H
     clear H
     go_wp2_with(first|((with_reducible refine vJ (b:= .append) (xs:= #[.tmp 7,.tmp 12]) rfl ?_);at_builtin;refine RT_append (w0:=w0) w0.heap.size rfl (.tmp 7) (.tmp 12) 133 5 rfl Tryz.underlying133 info5 u0 x0_1 ((wrap64 ((Int.tmod x1_1 128)+128)) % 256) rfl rfl HO_0.out HB.out (qG HB.out) LMc4.out ?_;intro v177 w5 ho hb;rw[←Ny1.out] at ho;have n0_:=qB.mk hb;have n2_:=qB.mk ho;clear HB HO_0;have HB:=n0_;have HO1:=n2_;clear n0_ n2_ ho hb))
     go_roundg k1
     case measure=>have:=HK1.out;omega
     case rel=>exact⟨y1,wrap64 (Int.tdiv x1_1 128),by first|rfl|(simp;done)|(simp[*];done),H',⟨by have:=HK1.out;omega⟩,⟨.inl HO1.out⟩,HB⟩
    ·rw[if_neg c4] at H
     exact absurd H (by simp)
   ·rw[if_neg c3] at H
    have c3b0:decide (128≤x1_1)=false:=decide_eq_false c3
    clear c3
    by_cases c6:x0_1.length<140737488355328
    ·rw[if_pos c6] at H
     have LMc6:=qB.mk c6
     clear c6
     obtain⟨y1,hy1⟩:∃y_:List Int,y_=(x0_1++[(x1_1) % 256]):=⟨_,rfl⟩
     rw[←hy1] at H
     have Ny1:=qB.mk hy1
     clear hy1
     obtain rfl:=Option.some.inj H
     go_wp2_with(first|((with_reducible refine vJ (b:= .append) (xs:= #[.tmp 16,.tmp 19]) rfl ?_);at_builtin;refine RT_append (w0:=w0) w0.heap.size rfl (.tmp 16) (.tmp 19) 133 5 rfl Tryz.underlying133 info5 u0 x0_1 ((x1_1) % 256) rfl rfl HO_0.out HB.out (qG HB.out) LMc6.out ?_;intro v180 w7 ho hb;rw[←Ny1.out] at ho;have n0_:=qB.mk hb;have n2_:=qB.mk ho;clear HB HO_0;have HB:=n0_;have HO1:=n2_;clear n0_ n2_ ho hb))
     go_ret
     exact⟨_,by first|rfl|(simp[*];done),HO1.out,HB.out⟩
    ·rw[if_neg c6] at H
     exact absurd H (by simp)
theorem impl_varint.lar(k:Nat)(u:Value)(l0:List Int)(a1:Int)(r:List Int)(w0 w:World)(hB:Below w0.heap.size w0 w)(ho0:RT 5 w0.heap.size w u l0)(h:impl_varint.f k l0 a1=some r):
 Calls Tryz.prog 160 #[u,.int .i64 a1] w fun e w'=>∃v0_:Value,e= .returned (v0_)∧Kd.R (Kd.int .u8) 5 w' w0.heap.size (fun _=>True) v0_ r∧Below w0.heap.size w0 w':=by
 have HO0:=qB.mk ho0
 have HB:=qB.mk hB
 clear hB ho0
 have H:(impl_varint.l0 k l0 a1)=some r:=h
 clear h
 have H':=qB.mk H
 clear H
 go_enter Tryz.func160,Tryz.ntmps160
 go_wp2
 go_loopg[0,1] k (fun kq v0 v1 w'=>∃(x0_1:List Int) (x1_1:Int),v1= .int .i64 x1_1∧qB (impl_varint.l0 kq x0_1 x1_1=some r)∧qB (kq≤k)∧qB (RT 5 w0.heap.size w' v0 x0_1)∧qB (Below w0.heap.size w0 w'))
 case atStart=>exact⟨l0,a1,by first|rfl|(simp;done),H',⟨Nat.le_refl _⟩,HO0,HB⟩
 case round=>
  clear H' HO0
  obtain⟨x0_1,x1_1,rfl,HA,HK1,HO_0,HB⟩:=hrel
  cases gk with
  |zero=>exact absurd HA.out (by simp[impl_varint.l0])
  |succ k1=>
   have H:=HA.out
   clear HA
   simp only[impl_varint.l0] at H
   by_cases c3:x1_1>127
   ·rw[if_pos c3] at H
    have c3b0:decide (127<x1_1)=true:=decide_eq_true c3
    clear c3
    by_cases c4:x0_1.length<140737488355328
    ·rw[if_pos c4] at H
     have LMc4:=qB.mk c4
     clear c4
     obtain⟨y1,hy1⟩:∃y_:List Int,y_=(x0_1++[(Go.bits .or .i64 (Go.bits .and .i64 x1_1 127) 128) % 256]):=⟨_,rfl⟩
     rw[←hy1] at H
     have Ny1:=qB.mk hy1
     clear hy1
     have H':=qB.mk H
     clear H
     go_wp2_with(first|((with_reducible refine vJ (b:= .append) (xs:= #[.tmp 7,.tmp 12]) rfl ?_);at_builtin;refine RT_append (w0:=w0) w0.heap.size rfl (.tmp 7) (.tmp 12) 133 5 rfl Tryz.underlying133 info5 u0 x0_1 ((Go.bits .or .i64 (Go.bits .and .i64 x1_1 127) 128) % 256) rfl rfl HO_0.out HB.out (qG HB.out) LMc4.out ?_;intro v177 w5 ho hb;rw[←Ny1.out] at ho;have n0_:=qB.mk hb;have n2_:=qB.mk ho;clear HB HO_0;have HB:=n0_;have HO1:=n2_;clear n0_ n2_ ho hb))
     go_roundg k1
     case measure=>have:=HK1.out;omega
     case rel=>exact⟨y1,x1_1 / 128,by first|rfl|(simp;done)|(simp[*];done),H',⟨by have:=HK1.out;omega⟩,⟨.inl HO1.out⟩,HB⟩
    ·rw[if_neg c4] at H
     exact absurd H (by simp)
   ·rw[if_neg c3] at H
    have c3b0:decide (127<x1_1)=false:=decide_eq_false c3
    clear c3
    by_cases c6:x0_1.length<140737488355328
    ·rw[if_pos c6] at H
     have LMc6:=qB.mk c6
     clear c6
     obtain⟨y1,hy1⟩:∃y_:List Int,y_=(x0_1++[(x1_1) % 256]):=⟨_,rfl⟩
     rw[←hy1] at H
     have Ny1:=qB.mk hy1
     clear hy1
     obtain rfl:=Option.some.inj H
     go_wp2_with(first|((with_reducible refine vJ (b:= .append) (xs:= #[.tmp 16,.tmp 19]) rfl ?_);at_builtin;refine RT_append (w0:=w0) w0.heap.size rfl (.tmp 16) (.tmp 19) 133 5 rfl Tryz.underlying133 info5 u0 x0_1 ((x1_1) % 256) rfl rfl HO_0.out HB.out (qG HB.out) LMc6.out ?_;intro v180 w7 ho hb;rw[←Ny1.out] at ho;have n0_:=qB.mk hb;have n2_:=qB.mk ho;clear HB HO_0;have HB:=n0_;have HO1:=n2_;clear n0_ n2_ ho hb))
     go_ret
     exact⟨_,by first|rfl|(simp[*];done),HO1.out,HB.out⟩
    ·rw[if_neg c6] at H
     exact absurd H (by simp)
def impl_PackTree.l0:Nat→List Int→List (S96)→Int→Int→Option (List Int)
 |0,_,_,_,_=>none
 |k+1,x3,x15,x16,x17=>if x17<x16 then(if 0≤x17 then(if x17<(x15.length:Int) then(if(qA x15 x17).f3=true then(if x3.length<140737488355328 then((impl_varint.f k (x3++[(((qA x15 x17).f1)+16) % 256]) (((qA x15 x17).f0).size:Int)).bind fun t585=>(if t585.length+((qA x15 x17).f0).size<140737488355328 then((impl_varint.f k (t585++bytesOf ((qA x15 x17).f0)) (((qA x15 x17).f2).size:Int)).bind fun t591=>(if t591.length+((qA x15 x17).f2).size<140737488355328 then(impl_PackTree.l0 k (t591++bytesOf ((qA x15 x17).f2)) x15 x16 (wrap64 (x17+1))) else(none))) else(none))) else(none)) else(if x3.length<140737488355328 then((impl_varint.f k (x3++[((qA x15 x17).f1) % 256]) (((qA x15 x17).f0).size:Int)).bind fun t600=>(if t600.length+((qA x15 x17).f0).size<140737488355328 then((impl_varint.f k (t600++bytesOf ((qA x15 x17).f0)) (((qA x15 x17).f2).size:Int)).bind fun t606=>(if t606.length+((qA x15 x17).f2).size<140737488355328 then(impl_PackTree.l0 k (t606++bytesOf ((qA x15 x17).f2)) x15 x16 (wrap64 (x17+1))) else(none))) else(none))) else(none))) else(none)) else(none)) else(some x3)
def impl_PackTree.f(k:Nat)(l0:List (S96)):Option (List Int):=(impl_TreeOk.f k l0).bind fun t573=>(if t573=true then((impl_varint.f k (([76,65,82,49]:List Int)) (l0.length:Int)).bind fun t577=>(impl_PackTree.l0 k t577 l0 (l0.length:Int) 0)) else(some ([]:List Int)))
def impl_PackTree.T10:Bool×List (List Nat×List Nat):=(true,[([],[]),([],[]),([1],[1]),([0,2],[0,2]),([],[]),([4],[4]),([5],[5]),([3,6,3],[3,6]),([],[]),([8],[8]),([7,9,7],[7,9]),([10,10,0,1,2,3,4,5,6,7,8,9,10],[0,10])])
def impl_PackTree.B10:List Nat:=[0,0,2,7,0,16,48,127,0,256,1023,2047]
theorem impl_PackTree.tab10:rtab .any (opsOf Tryz.f147 10)=impl_PackTree.T10:=by kernel_rfl
theorem impl_PackTree.bits10:waitsOk impl_PackTree.T10.2 impl_PackTree.B10=true:=by kernel_rfl
def impl_PackTree.T11:Bool×List (List Nat×List Nat):=(true,[([],[]),([],[]),([1],[1]),([2],[2]),([0,3],[0,3]),([],[]),([5],[5]),([4,6,4],[4,6]),([7,7,0,1,2,3,4,5,6,7],[0,7])])
def impl_PackTree.B11:List Nat:=[0,0,2,6,15,0,32,127,255]
theorem impl_PackTree.tab11:rtab .any (opsOf Tryz.f147 11)=impl_PackTree.T11:=by kernel_rfl
theorem impl_PackTree.bits11:waitsOk impl_PackTree.T11.2 impl_PackTree.B11=true:=by kernel_rfl
theorem impl_PackTree.calls(k:Nat)(A0:Option Addr)(c0:Nat)(l0:List (S96))(r:List Int)(w:World)(hr0:Kd.C k96 w A0 l0.length l0)(hc0:l0.length≤c0)(hG_:GOK w)(h:impl_PackTree.f k l0=some r):
 Calls Tryz.prog 147 #[.slice A0 l0.length c0] w fun e w'=>∃v0_:Value,e= .returned (v0_)∧Kd.R (Kd.int .u8) 5 w' w.heap.size (fun _=>True) v0_ r∧Below w.heap.size w w':=by
 have hu96:=Tryz.underlying96
 have HG:=zz hG_
 clear hG_
 have HR0:=zz hr0
 have HC0:=zz hc0
 clear hr0 hc0
 have HB:=zz (Below.refl w.heap.size w)
 unfold impl_PackTree.f at h
 have H:=h
 clear h
 replace H:=zf H
 obtain⟨t573,A20,H⟩:=H
 try dsimp only at H
 have A2:=zz A20
 clear A20
 by_cases c3:t573=true
 case neg=>
  replace c3:=Bool.eq_false_iff.mpr c3
  subst c3
  rw[if_neg (show¬(false=true) by decide)] at H
  obtain rfl:=zi H
  go_enter Tryz.func147,Tryz.ntmps147
  go_wp2_with(first|(refine zL 66 8 Tryz.func66 #[.slice A0 l0.length c0] ?_;(with_reducible refine(impl_TreeOk.calls k _ _ l0 false _ ?s1 ?s2 ?s3 A2.out).mono ?_);(case s1=>exact zd HR0.out);(case s2=>exact HC0.out);(case s3=>exact zG);rintro e w49 ⟨rfl,hb⟩;refine⟨_,rfl,?_⟩;replace HB:=zz (zv zb hb);(try clear hb);(try clear hb2);(try clear hk);(try clear hi)))
  go_ret
  exact⟨_,ze,by first|exact Kd.R_nil _ _ _ _ _|exact Kd.N_nil _ _ _ _ _|exact Kd.V_nil _ _ _ _ _|exact Kd.Q_nil _ _ _ _ _|exact Kd.S_nil _ _ _ _ _,zb⟩
 subst c3
 rw[if_pos rfl] at H
 obtain⟨y574,hy574⟩:∃y_:List Int,y_=(([76,65,82,49]:List Int)):=⟨_,rfl⟩
 replace H:((impl_varint.f k y574 (l0.length:Int)).bind fun t577=>(impl_PackTree.l0 k t577 l0 (l0.length:Int) 0))=some r:=by first|(rw[hy574];with_reducible exact H)|(have H2_:=(Option.bind_some _ _).symm.trans H;rw[hy574];with_reducible exact H2_)|(have H2_:=(Option.bind_some _ _).symm.trans H;with_reducible exact H2_)|with_reducible exact H|(rw[hy574];exact H)|exact H
 have Ny574:=zz hy574
 clear hy574
 replace H:=zf H
 obtain⟨t577,A40,H⟩:=H
 try dsimp only at H
 have A4:=zz A40
 clear A40
 have H':=zz H
 clear H
 go_enter Tryz.func147,Tryz.ntmps147
 go_wp2_with(first|(refine zL 66 8 Tryz.func66 #[.slice A0 l0.length c0] ?_;(with_reducible refine(impl_TreeOk.calls k _ _ l0 true _ ?s1 ?s2 ?s3 A2.out).mono ?_);(case s1=>exact zd HR0.out);(case s2=>exact HC0.out);(case s3=>exact zG);rintro e w5 ⟨rfl,hb⟩;refine⟨_,rfl,?_⟩;replace HB:=zz (zv zb hb);(try clear hb);(try clear hb2);(try clear hk);(try clear hi))|(refine zN 10 ?_;refine lar_event ?hg (N:=10) ?hd (cs:= #[.int .u8 76,.int .u8 65,.int .u8 82,.int .u8 49]) (t:=5) ?hr ?_;(case hd=>rfl);(case hg=>rfl);(case hr=>first|(go_simp;done)|(go_simp;rfl));intro gl hgl w6 hlb hb;have n1_:=zz (zv zb hb);have hgl2:=zz (Nat.le_trans (qG zb) hgl);have hlb2:=zz hlb;clear HB hb hgl hlb;have HB:=n1_;clear n1_)|(refine zN 11 ?_;refine mark_event rfl rfl Tryz.underlying133 Tryz.underlying5 (g:=gl) rfl hlb2.out ?_;intro w7 hlc hb;have n1_:=zz (HB.out.trans (hb.mono hgl2.out));have hT:=zz (show RT 5 w.heap.size w7 (.slice (some ⟨gl,0,none⟩) 4 4) y574 by rw[Ny574.out];exact .inr ⟨gl,rfl,_,_,_,hlc,rfl⟩);clear HB hb hlc hlb2;have HB:=n1_;clear n1_)|(refine zL 160 14 Tryz.func160 #[.slice (some ⟨gl,0,none⟩) 4 4,.int .i64 (l0.length:Int)] ?_;(with_reducible refine(impl_varint.lar k _ y574 _ _ w _ HB.out hT.out A4.out).mono ?_);rintro e w9 ⟨v190,rfl,ho0,hb⟩;refine⟨_,rfl,?_⟩;have n0_:=zz ho0;have n1_:=zz hb;clear HB;have HO579:=n0_;have HB:=n1_;clear n0_ n1_ hb ho0))
 go_loopg[3,17] k (fun kq v3 v17 w'=>∃(x3_1:List Int) (x17_1:Int),v17= .int .i64 x17_1∧qB (impl_PackTree.l0 kq x3_1 l0 (l0.length:Int) x17_1=some r)∧qB (kq≤k)∧qB (Kd.R (Kd.int .u8) 5 w' w.heap.size (fun _=>True) v3 x3_1)∧qB (Below w.heap.size w w'))
 case atStart=>exact⟨(t577),(0),zr,H',⟨Nat.le_refl _⟩,⟨by(with_reducible repeat(first|apply Kd.qU|apply Kd.qT|apply Kd.qX));exact HO579.out⟩,⟨zb⟩⟩
 case round=>
  clear H'
  try clear c1
  try clear p2
  try clear c3
  try clear c6
  obtain⟨x3_1,x17_1,rfl,HA,HK1,HO_3,HB⟩:=hrel
  cases gk with
  |zero=>exact absurd HA.out (by simp[impl_PackTree.l0])
  |succ k1=>
   have H:=HA.out
   clear HA
   simp only[impl_PackTree.l0] at H
   by_cases c10:x17_1<(l0.length:Int)
   case neg=>
    rw[if_neg c10] at H
    have c10b0:=z0 c10
    clear c10
    obtain rfl:=zi H
    go_wp2
    go_ret
    exact⟨_,ze,by(with_reducible repeat(first|apply Kd.qU|apply Kd.qT|apply Kd.qX));exact HO_3.out,zb⟩
   rw[if_pos c10] at H
   have c10b0:=z1 c10
   clear c10
   by_cases c11:0≤x17_1
   case neg=>exact zno H c11
   rw[if_pos c11] at H
   have c11b0:=z1 c11
   clear c11
   by_cases c12:x17_1<(l0.length:Int)
   case neg=>exact zno H c12
   rw[if_pos c12] at H
   have c12b0:=z1 c12
   clear c12
   obtain⟨bq13,hbq13⟩:∃b_:Bool,b_=((qA l0 x17_1).f3):=⟨_,rfl⟩
   replace H:(if bq13=true then(if x3_1.length<140737488355328 then((impl_varint.f k1 (x3_1++[(((qA l0 x17_1).f1)+16) % 256]) (((qA l0 x17_1).f0).size:Int)).bind fun t585=>(if t585.length+((qA l0 x17_1).f0).size<140737488355328 then((impl_varint.f k1 (t585++bytesOf ((qA l0 x17_1).f0)) (((qA l0 x17_1).f2).size:Int)).bind fun t591=>(if t591.length+((qA l0 x17_1).f2).size<140737488355328 then(impl_PackTree.l0 k1 (t591++bytesOf ((qA l0 x17_1).f2)) l0 (l0.length:Int) (wrap64 (x17_1+1))) else(none))) else(none))) else(none)) else(if x3_1.length<140737488355328 then((impl_varint.f k1 (x3_1++[((qA l0 x17_1).f1) % 256]) (((qA l0 x17_1).f0).size:Int)).bind fun t600=>(if t600.length+((qA l0 x17_1).f0).size<140737488355328 then((impl_varint.f k1 (t600++bytesOf ((qA l0 x17_1).f0)) (((qA l0 x17_1).f2).size:Int)).bind fun t606=>(if t606.length+((qA l0 x17_1).f2).size<140737488355328 then(impl_PackTree.l0 k1 (t606++bytesOf ((qA l0 x17_1).f2)) l0 (l0.length:Int) (wrap64 (x17_1+1))) else(none))) else(none))) else(none)))=some r:=by rw[←hbq13] at H;exact H
   have Nbq13:=zz hbq13
   clear hbq13
   by_cases c14:bq13=true
   ·subst c14
    rw[if_pos rfl] at H
    by_cases c15:x3_1.length<140737488355328
    case neg=>exact zno H c15
    rw[if_pos c15] at H
    have LMc15:=zz c15
    clear c15
    obtain⟨y582,hy582⟩:∃y_:List Int,y_=(x3_1++[(((qA l0 x17_1).f1)+16) % 256]):=⟨_,rfl⟩
    replace H:((impl_varint.f k1 y582 (((qA l0 x17_1).f0).size:Int)).bind fun t585=>(if t585.length+((qA l0 x17_1).f0).size<140737488355328 then((impl_varint.f k1 (t585++bytesOf ((qA l0 x17_1).f0)) (((qA l0 x17_1).f2).size:Int)).bind fun t591=>(if t591.length+((qA l0 x17_1).f2).size<140737488355328 then(impl_PackTree.l0 k1 (t591++bytesOf ((qA l0 x17_1).f2)) l0 (l0.length:Int) (wrap64 (x17_1+1))) else(none))) else(none)))=some r:=by first|(rw[hy582];with_reducible exact H)|(have H2_:=(Option.bind_some _ _).symm.trans H;rw[hy582];with_reducible exact H2_)|(have H2_:=(Option.bind_some _ _).symm.trans H;with_reducible exact H2_)|with_reducible exact H|(rw[hy582];exact H)|exact H
    have Ny582:=zz hy582
    clear hy582
    replace H:=zf H
    obtain⟨t585,A160,H⟩:=H
    try dsimp only at H
    have A16:=zz A160
    clear A160
    by_cases c17:t585.length+((qA l0 x17_1).f0).size<140737488355328
    case neg=>exact zno H c17
    rw[if_pos c17] at H
    have LMc17:=zz c17
    clear c17
    obtain⟨y588,hy588⟩:∃y_:List Int,y_=(t585++bytesOf ((qA l0 x17_1).f0)):=⟨_,rfl⟩
    replace H:((impl_varint.f k1 y588 (((qA l0 x17_1).f2).size:Int)).bind fun t591=>(if t591.length+((qA l0 x17_1).f2).size<140737488355328 then(impl_PackTree.l0 k1 (t591++bytesOf ((qA l0 x17_1).f2)) l0 (l0.length:Int) (wrap64 (x17_1+1))) else(none)))=some r:=by first|(rw[hy588];with_reducible exact H)|(have H2_:=(Option.bind_some _ _).symm.trans H;rw[hy588];with_reducible exact H2_)|(have H2_:=(Option.bind_some _ _).symm.trans H;with_reducible exact H2_)|with_reducible exact H|(rw[hy588];exact H)|exact H
    have Ny588:=zz hy588
    clear hy588
    replace H:=zf H
    obtain⟨t591,A180,H⟩:=H
    try dsimp only at H
    have A18:=zz A180
    clear A180
    by_cases c19:t591.length+((qA l0 x17_1).f2).size<140737488355328
    case neg=>exact zno H c19
    rw[if_pos c19] at H
    have LMc19:=zz c19
    clear c19
    obtain⟨y594,hy594⟩:∃y_:List Int,y_=(t591++bytesOf ((qA l0 x17_1).f2)):=⟨_,rfl⟩
    replace H:(impl_PackTree.l0 k1 y594 l0 (l0.length:Int) (wrap64 (x17_1+1)))=some r:=by first|(rw[hy594];with_reducible exact H)|(have H2_:=(Option.bind_some _ _).symm.trans H;rw[hy594];with_reducible exact H2_)|(have H2_:=(Option.bind_some _ _).symm.trans H;with_reducible exact H2_)|with_reducible exact H|(rw[hy594];exact H)|exact H
    have Ny594:=zz hy594
    clear hy594
    have H':=zz H
    clear H
    have p580:0≤(x17_1:Int):=z2
    have q580:x17_1<(l0.length:Int):=z2
    obtain⟨ad580,e580,hx580_0,hx580_1,hx580_2,hx580_3⟩:=at_T96 HR0.out x17_1 p580 q580
    (try rw[←Nbq13.out] at hx580_3);(try rw[←Nbq13.out] at hw580_3)
    cases e580
    replace hx580_0:=z3 HB.out hx580_0
    replace hx580_1:=z3 HB.out hx580_1
    replace hx580_2:=z3 HB.out hx580_2
    replace hx580_3:=z3 HB.out hx580_3
    replace p580:=eq_true p580
    replace q580:=eq_true q580
    try go_wp2_with(first|(refine zX 5 96 #[.string (⟨#[]⟩:ByteArray),.int .i64 0,.string (⟨#[]⟩:ByteArray),.bool false] ?_;intro gb581 hg w20 hbox hb;replace HO_3:=zz (Kd.R_below (zR HO_3.out) hb);have BK581:=zz (hbox);have GW581:=zz ((zg:w.heap.size≤gb581));have GE581:=zz ((zg:w.heap.size≤gb581));replace HB:=zz (zv zb hb);clear hb hbox hg;obtain⟨hcz21_0,hcz21_1,hcz21_2,hcz21_3,hfz21_0,hfz21_1,hfz21_2,hfz21_3⟩:=zc4 BK581.out))
    have n0_:qB (Kd.R (Kd.int .u8) 5 ((((w20.setCell ⟨gb581,0,none⟩ (.string ((qA l0 x17_1).f0))).setCell ⟨gb581,1,none⟩ (.int .i64 ((qA l0 x17_1).f1))).setCell ⟨gb581,2,none⟩ (.string ((qA l0 x17_1).f2))).setCell ⟨gb581,3,none⟩ (.bool true)) w.heap.size (fun _=>True) u3 x3_1):=⟨by(with_reducible repeat(first|apply Kd.qU|apply Kd.qT|apply Kd.qX));exact Kd.vF (Kd.R_far (p:=⟨gb581,3,none⟩) (Kd.R_far (p:=⟨gb581,2,none⟩) (Kd.R_far (p:=⟨gb581,1,none⟩) (Kd.R_far (p:=⟨gb581,0,none⟩) (Kd.R_types HO_3.out BK581.out (by decide)) (fun _ hk=>hk.2) (.string ((qA l0 x17_1).f0))) (fun _ hk=>hk.2) (.int .i64 ((qA l0 x17_1).f1))) (fun _ hk=>hk.2) (.string ((qA l0 x17_1).f2))) (fun _ hk=>hk.2) (.bool true)) (fun _ hk=>trivial)⟩
    have n1_:qB (((((w20.setCell ⟨gb581,0,none⟩ (.string ((qA l0 x17_1).f0))).setCell ⟨gb581,1,none⟩ (.int .i64 ((qA l0 x17_1).f1))).setCell ⟨gb581,2,none⟩ (.string ((qA l0 x17_1).f2))).setCell ⟨gb581,3,none⟩ (.bool true)).heap[gb581]?=some (.cells #[.string ((qA l0 x17_1).f0),.int .i64 ((qA l0 x17_1).f1),.string ((qA l0 x17_1).f2),.bool true] 96 (0,0))):=⟨by(with_reducible repeat(first|refine qJ ?_ _|refine qK ?_|refine qF ?_ _));refine qP (cs:= #[.string ((qA l0 x17_1).f0),.int .i64 ((qA l0 x17_1).f1),.string ((qA l0 x17_1).f2),.bool false]) ?_ 3 _ rfl;(with_reducible repeat(first|refine qJ ?_ _|refine qK ?_|refine qF ?_ _));refine qP (cs:= #[.string ((qA l0 x17_1).f0),.int .i64 ((qA l0 x17_1).f1),.string (⟨#[]⟩:ByteArray),.bool false]) ?_ 2 _ rfl;(with_reducible repeat(first|refine qJ ?_ _|refine qK ?_|refine qF ?_ _));refine qP (cs:= #[.string ((qA l0 x17_1).f0),.int .i64 0,.string (⟨#[]⟩:ByteArray),.bool false]) ?_ 1 _ rfl;(with_reducible repeat(first|refine qJ ?_ _|refine qK ?_|refine qF ?_ _));refine qP (cs:= #[.string (⟨#[]⟩:ByteArray),.int .i64 0,.string (⟨#[]⟩:ByteArray),.bool false]) ?_ 0 _ rfl;(with_reducible repeat(first|refine qJ ?_ _|refine qK ?_|refine qF ?_ _));exact BK581.out⟩
    have n2_:qB (Below w.heap.size w ((((w20.setCell ⟨gb581,0,none⟩ (.string ((qA l0 x17_1).f0))).setCell ⟨gb581,1,none⟩ (.int .i64 ((qA l0 x17_1).f1))).setCell ⟨gb581,2,none⟩ (.string ((qA l0 x17_1).f2))).setCell ⟨gb581,3,none⟩ (.bool true))):=⟨zb⟩
    (try clear HO_3)
    (try clear BK581)
    (try clear HB)
    generalize((((w20.setCell ⟨gb581,0,none⟩ (.string ((qA l0 x17_1).f0))).setCell ⟨gb581,1,none⟩ (.int .i64 ((qA l0 x17_1).f1))).setCell ⟨gb581,2,none⟩ (.string ((qA l0 x17_1).f2))).setCell ⟨gb581,3,none⟩ (.bool true))=w22 at n0_ n1_ n2_⊢
    have HO_3:=n0_
    have BK581:=n1_
    have HB:=n2_
    clear n0_ n1_ n2_
    replace HO_3:=zz (Kd.qX HO_3.out)
    replace BK581:=zz (qK BK581.out)
    replace HB:=zz (qQ HB.out)
    refine start_ (n:=12) (S:=fun w'=>w'.cell? ⟨gb581,0,none⟩=some (.string ((qA l0 x17_1).f0))∧w'.cell? ⟨gb581,1,none⟩=some (.int .i64 ((qA l0 x17_1).f1))∧w'.cell? ⟨gb581,2,none⟩=some (.string ((qA l0 x17_1).f2))∧w'.cell? ⟨gb581,3,none⟩=some (.bool true)) (ds:=[]) (bp 0 12) zk rfl rfl (zy4 BK581.out) (fun hHeld=>?_);refine with_tabW impl_PackTree.tab10 impl_PackTree.bits10 (fun HT_ HW_=>?_)
    generalize w22.drew=w23 at HO_3 BK581 HB hHeld⊢
    refine zp 0 28 (bp 1 11) ?_
    refine zp 1 29 (bp 2 10) ?_
    refine zp 4 32 (bm 12 19) ?_
    refine zp 8 36 (bm 12 275) ?_
    refine zt 5 33 (bm 12 307) ?_
    refine zp 6 34 (bm 12 371) ?_
    refine zt 9 37 (bm 12 883) ?_
    refine zo 2 30 (bm 12 887) fun K hK=>?_
    refine value_ (w1:=?_) (v:=?_) (by rfl) rfl ?_ ?_
    rotate_left 2
    ·go_simp
     constructor
     ·rfl
     ·rfl
    refine hK.out _ _ ⟨(qW (qF BK581.out _) 0).trans rfl,(qW (qF BK581.out _) 1).trans rfl,(qW (qF BK581.out _) 2).trans rfl,(qW (qF BK581.out _) 3).trans rfl⟩ (fun hHeld=>?_)
    clear hK K
    refine zn 30 ?_
    refine zo 3 31 (bm 12 895) fun K hK=>?_
    refine Kd.R_append_step (Kd.int .u8) (w0:=w) w.heap.size (by rfl) (.tmp 28) (.tmp 30) 133 5 (.int .u8 0) 1 rfl Tryz.underlying133 info5 rfl (by decide) (by omega) u3 x3_1 ((((qA l0 x17_1).f1)+16) % 256) [.int .u8 ((((qA l0 x17_1).f1)+16) % 256)] (fun _=>True) (fun _=>False) rfl rfl ?aP (fun _ hk=>hk.elim) ?aF ?aO ?aB ?aS ?aL ?_
    (case aP=>exact rfl)
    (case aB=>exact zb)
    (case aF=>exact(fun _ _=>trivial))
    (case aO=>exact(zR HO_3.out))
    (case aS=>exact(qG zb))
    (case aL=>have:=LMc15.out;omega)
    intro v583 w24 ho hb hg hat
    rw[←Ny582.out] at ho
    replace BK581:=zz (zK BK581 hg (Kd.R_ne HO_3.out BK581.out (by decide)))
    replace HB:=zz (hb)
    have HO584:=zz (ho)
    clear HO_3
    clear ho hb hg hat
    obtain⟨Ao25,co25,eo25⟩:=Kd.vG HO584.out
    (first|subst eo25|(injection eo25 with f1_ f2_ f3_;have f4_:=f1_.symm;have f5_:=f3_.symm;clear f1_ f2_ f3_;subst f4_;subst f5_))
    refine hK.out _ _ (zy4 BK581.out) (fun hHeld=>?_)
    clear hK K
    refine zn 31 ?_
    refine zo 7 35 (bp 10 2) fun K hK=>?_
    refine zh Tryz.func160 #[.slice Ao25 y582.length co25,.int .i64 (((qA l0 x17_1).f0).size:Int)] ?_
    with_reducible refine(impl_varint.calls k1 (fun k_=>some k_=(.slice Ao25 y582.length co25:Value).ownBlock) (.slice Ao25 y582.length co25) y582 (((qA l0 x17_1).f0).size:Int) t585 w _ ?s1 ?s2 A16.out).mono ?_
    (case s1=>repeat(first|(with_reducible first|exact HB.out|apply vA|apply qZ|apply qQ|refine qM ?_ GE581.out)|exact HB.out))
    (case s2=>exact Kd.R_tight rfl HO584.out)
    rintro e w26 ⟨v586,rfl,ho0,hb,hkp⟩
    refine⟨_,rfl,?_⟩
    replace BK581:=zz (blk_kept (zB BK581.out) hkp (fun hs_=>(fun e_=>(Kd.R_ne HO584.out BK581.out (by decide)) e_) hs_))
    have HO587:=zz (Kd.vF (ok':=fun k_=>True) ho0 (fun k_ hk_=>trivial))
    replace HB:=zz (hb)
    clear HO584
    (try clear hb)
    (try clear hkp)
    (try clear ho0)
    refine hK.out _ _ (zy4 BK581.out) (fun hHeld=>?_)
    clear hK K
    refine zn 35 ?_
    refine zo 10 38 (bp 11 1) fun K hK=>?_
    refine print_append_str_step (w0:=w) w.heap.size (by rfl) (.tmp 35) _ 133 9 5 rfl Tryz.underlying133 Tryz.underlying9 info5 v586 t585 ((qA l0 x17_1).f0) rfl rfl ?aO ?aB ?aS ?aL ?_
    (case aB=>exact zb)
    (case aO=>exact(Kd.own_of_R (zR HO587.out)))
    (case aS=>exact(qG zb))
    (case aL=>have:=LMc17.out;omega)
    intro v589 w27 ho0 hb hg
    have ho:=Kd.R_of_own (h1:=fun _=>rfl) (ok:=fun _=>True) ho0 (fun _ _=>trivial)
    clear ho0
    have hat:=True.intro
    rw[←Ny588.out] at ho
    change Kd.R (Kd.int .u8) 5 w27 w.heap.size (fun _=>True) v589 y588 at ho
    replace BK581:=zz (zK BK581 hg (Kd.R_ne HO587.out BK581.out (by decide)))
    replace HB:=zz (hb)
    have HO590:=zz (ho)
    clear HO587
    clear ho hb hg hat
    refine hK.out _ _ (zy4 BK581.out) (fun hHeld=>?_)
    clear hK K
    refine zn 38 ?_
    refine zp 11 3 (bp 12 0) ?_
    refine done_ (done_of HT_.out zk) ?_
    try go_wp2
    replace HO590:=zz (Kd.qX HO590.out)
    replace BK581:=zz (qK BK581.out)
    replace HB:=zz (qQ HB.out)
    obtain⟨Ao29,co29,eo29⟩:=Kd.vG HO590.out
    (first|subst eo29|(injection eo29 with f1_ f2_ f3_;have f4_:=f1_.symm;have f5_:=f3_.symm;clear f1_ f2_ f3_;subst f4_;subst f5_))
    refine start_ (n:=9) (S:=fun w'=>w'.cell? ⟨gb581,0,none⟩=some (.string ((qA l0 x17_1).f0))∧w'.cell? ⟨gb581,1,none⟩=some (.int .i64 ((qA l0 x17_1).f1))∧w'.cell? ⟨gb581,2,none⟩=some (.string ((qA l0 x17_1).f2))∧w'.cell? ⟨gb581,3,none⟩=some (.bool true)) (ds:=[]) (bp 0 9) zk rfl rfl (zy4 BK581.out) (fun hHeld=>?_);refine with_tabW impl_PackTree.tab11 impl_PackTree.bits11 (fun HT_ HW_=>?_)
    generalize w27.drew=w28 at HO590 BK581 HB hHeld⊢
    refine zp 0 39 (bp 1 8) ?_
    refine zp 1 40 (bp 2 7) ?_
    refine zp 5 44 (bm 9 35) ?_
    refine zt 2 41 (bm 9 39) ?_
    refine zp 3 42 (bm 9 47) ?_
    refine zt 6 45 (bm 9 111) ?_
    refine zo 4 43 (bp 7 2) fun K hK=>?_
    refine zh Tryz.func160 #[.slice Ao29 y588.length co29,.int .i64 (((qA l0 x17_1).f2).size:Int)] ?_
    with_reducible refine(impl_varint.calls k1 (fun k_=>some k_=(.slice Ao29 y588.length co29:Value).ownBlock) (.slice Ao29 y588.length co29) y588 (((qA l0 x17_1).f2).size:Int) t591 w _ ?s1 ?s2 A18.out).mono ?_
    (case s1=>repeat(first|(with_reducible first|exact HB.out|apply vA|apply qZ|apply qQ|refine qM ?_ GE581.out)|exact HB.out))
    (case s2=>exact Kd.R_tight rfl HO590.out)
    rintro e w30 ⟨v592,rfl,ho0,hb,hkp⟩
    refine⟨_,rfl,?_⟩
    replace BK581:=zz (blk_kept (zB BK581.out) hkp (fun hs_=>(fun e_=>(Kd.R_ne HO590.out BK581.out (by decide)) e_) hs_))
    have HO593:=zz (Kd.vF (ok':=fun k_=>True) ho0 (fun k_ hk_=>trivial))
    replace HB:=zz (hb)
    clear HO590
    (try clear hb)
    (try clear hkp)
    (try clear ho0)
    refine hK.out _ _ (zy4 BK581.out) (fun hHeld=>?_)
    clear hK K
    refine zn 43 ?_
    refine zo 7 46 (bp 8 1) fun K hK=>?_
    refine print_append_str_step (w0:=w) w.heap.size (by rfl) (.tmp 43) _ 133 9 5 rfl Tryz.underlying133 Tryz.underlying9 info5 v592 t591 ((qA l0 x17_1).f2) rfl rfl ?aO ?aB ?aS ?aL ?_
    (case aB=>exact zb)
    (case aO=>exact(Kd.own_of_R (zR HO593.out)))
    (case aS=>exact(qG zb))
    (case aL=>have:=LMc19.out;omega)
    intro v595 w31 ho0 hb hg
    have ho:=Kd.R_of_own (h1:=fun _=>rfl) (ok:=fun _=>True) ho0 (fun _ _=>trivial)
    clear ho0
    have hat:=True.intro
    rw[←Ny594.out] at ho
    change Kd.R (Kd.int .u8) 5 w31 w.heap.size (fun _=>True) v595 y594 at ho
    replace BK581:=zz (zK BK581 hg (Kd.R_ne HO593.out BK581.out (by decide)))
    replace HB:=zz (hb)
    have HO596:=zz (ho)
    clear HO593
    clear ho hb hg hat
    refine hK.out _ _ (zy4 BK581.out) (fun hHeld=>?_)
    clear hK K
    refine zn 46 ?_
    refine zp 8 3 (bp 9 0) ?_
    refine done_ (done_of HT_.out zk) ?_
    try go_wp2
    go_roundg k1
    case measure=>have:=HK1.out;omega
    case rel=>exact⟨(y594),(wrap64 (x17_1+1)),zr,H',⟨by have:=HK1.out;omega⟩,⟨by(with_reducible repeat(first|apply Kd.qU|apply Kd.qT|apply Kd.qX));exact HO596.out⟩,⟨zb⟩⟩
   replace c14:=Bool.eq_false_iff.mpr c14
   subst c14
   rw[if_neg (show¬(false=true) by decide)] at H
   by_cases c32:x3_1.length<140737488355328
   case neg=>exact zno H c32
   rw[if_pos c32] at H
   have LMc32:=zz c32
   clear c32
   obtain⟨y597,hy597⟩:∃y_:List Int,y_=(x3_1++[((qA l0 x17_1).f1) % 256]):=⟨_,rfl⟩
   replace H:((impl_varint.f k1 y597 (((qA l0 x17_1).f0).size:Int)).bind fun t600=>(if t600.length+((qA l0 x17_1).f0).size<140737488355328 then((impl_varint.f k1 (t600++bytesOf ((qA l0 x17_1).f0)) (((qA l0 x17_1).f2).size:Int)).bind fun t606=>(if t606.length+((qA l0 x17_1).f2).size<140737488355328 then(impl_PackTree.l0 k1 (t606++bytesOf ((qA l0 x17_1).f2)) l0 (l0.length:Int) (wrap64 (x17_1+1))) else(none))) else(none)))=some r:=by first|(rw[hy597];with_reducible exact H)|(have H2_:=(Option.bind_some _ _).symm.trans H;rw[hy597];with_reducible exact H2_)|(have H2_:=(Option.bind_some _ _).symm.trans H;with_reducible exact H2_)|with_reducible exact H|(rw[hy597];exact H)|exact H
   have Ny597:=zz hy597
   clear hy597
   replace H:=zf H
   obtain⟨t600,A330,H⟩:=H
   try dsimp only at H
   have A33:=zz A330
   clear A330
   by_cases c34:t600.length+((qA l0 x17_1).f0).size<140737488355328
   case neg=>exact zno H c34
   rw[if_pos c34] at H
   have LMc34:=zz c34
   clear c34
   obtain⟨y603,hy603⟩:∃y_:List Int,y_=(t600++bytesOf ((qA l0 x17_1).f0)):=⟨_,rfl⟩
   replace H:((impl_varint.f k1 y603 (((qA l0 x17_1).f2).size:Int)).bind fun t606=>(if t606.length+((qA l0 x17_1).f2).size<140737488355328 then(impl_PackTree.l0 k1 (t606++bytesOf ((qA l0 x17_1).f2)) l0 (l0.length:Int) (wrap64 (x17_1+1))) else(none)))=some r:=by first|(rw[hy603];with_reducible exact H)|(have H2_:=(Option.bind_some _ _).symm.trans H;rw[hy603];with_reducible exact H2_)|(have H2_:=(Option.bind_some _ _).symm.trans H;with_reducible exact H2_)|with_reducible exact H|(rw[hy603];exact H)|exact H
   have Ny603:=zz hy603
   clear hy603
   replace H:=zf H
   obtain⟨t606,A350,H⟩:=H
   try dsimp only at H
   have A35:=zz A350
   clear A350
   by_cases c36:t606.length+((qA l0 x17_1).f2).size<140737488355328
   case neg=>exact zno H c36
   rw[if_pos c36] at H
   have LMc36:=zz c36
   clear c36
   obtain⟨y609,hy609⟩:∃y_:List Int,y_=(t606++bytesOf ((qA l0 x17_1).f2)):=⟨_,rfl⟩
   replace H:(impl_PackTree.l0 k1 y609 l0 (l0.length:Int) (wrap64 (x17_1+1)))=some r:=by first|(rw[hy609];with_reducible exact H)|(have H2_:=(Option.bind_some _ _).symm.trans H;rw[hy609];with_reducible exact H2_)|(have H2_:=(Option.bind_some _ _).symm.trans H;with_reducible exact H2_)|with_reducible exact H|(rw[hy609];exact H)|exact H
   have Ny609:=zz hy609
   clear hy609
   have H':=zz H
   clear H
   have p580:0≤(x17_1:Int):=z2
   have q580:x17_1<(l0.length:Int):=z2
   obtain⟨ad580,e580,hx580_0,hx580_1,hx580_2,hx580_3⟩:=at_T96 HR0.out x17_1 p580 q580
   (try rw[←Nbq13.out] at hx580_3);(try rw[←Nbq13.out] at hw580_3)
   cases e580
   replace hx580_0:=z3 HB.out hx580_0
   replace hx580_1:=z3 HB.out hx580_1
   replace hx580_2:=z3 HB.out hx580_2
   replace hx580_3:=z3 HB.out hx580_3
   replace p580:=eq_true p580
   replace q580:=eq_true q580
   try go_wp2_with(first|(refine zX 5 96 #[.string (⟨#[]⟩:ByteArray),.int .i64 0,.string (⟨#[]⟩:ByteArray),.bool false] ?_;intro gb581 hg w37 hbox hb;replace HO_3:=zz (Kd.R_below (zR HO_3.out) hb);have BK581:=zz (hbox);have GW581:=zz ((zg:w.heap.size≤gb581));have GE581:=zz ((zg:w.heap.size≤gb581));replace HB:=zz (zv zb hb);clear hb hbox hg;obtain⟨hcz38_0,hcz38_1,hcz38_2,hcz38_3,hfz38_0,hfz38_1,hfz38_2,hfz38_3⟩:=zc4 BK581.out))
   have n0_:qB (Kd.R (Kd.int .u8) 5 ((((w37.setCell ⟨gb581,0,none⟩ (.string ((qA l0 x17_1).f0))).setCell ⟨gb581,1,none⟩ (.int .i64 ((qA l0 x17_1).f1))).setCell ⟨gb581,2,none⟩ (.string ((qA l0 x17_1).f2))).setCell ⟨gb581,3,none⟩ (.bool false)) w.heap.size (fun _=>True) u3 x3_1):=⟨by(with_reducible repeat(first|apply Kd.qU|apply Kd.qT|apply Kd.qX));exact Kd.vF (Kd.R_far (p:=⟨gb581,3,none⟩) (Kd.R_far (p:=⟨gb581,2,none⟩) (Kd.R_far (p:=⟨gb581,1,none⟩) (Kd.R_far (p:=⟨gb581,0,none⟩) (Kd.R_types HO_3.out BK581.out (by decide)) (fun _ hk=>hk.2) (.string ((qA l0 x17_1).f0))) (fun _ hk=>hk.2) (.int .i64 ((qA l0 x17_1).f1))) (fun _ hk=>hk.2) (.string ((qA l0 x17_1).f2))) (fun _ hk=>hk.2) (.bool false)) (fun _ hk=>trivial)⟩
   have n1_:qB (((((w37.setCell ⟨gb581,0,none⟩ (.string ((qA l0 x17_1).f0))).setCell ⟨gb581,1,none⟩ (.int .i64 ((qA l0 x17_1).f1))).setCell ⟨gb581,2,none⟩ (.string ((qA l0 x17_1).f2))).setCell ⟨gb581,3,none⟩ (.bool false)).heap[gb581]?=some (.cells #[.string ((qA l0 x17_1).f0),.int .i64 ((qA l0 x17_1).f1),.string ((qA l0 x17_1).f2),.bool false] 96 (0,0))):=⟨by(with_reducible repeat(first|refine qJ ?_ _|refine qK ?_|refine qF ?_ _));refine qP (cs:= #[.string ((qA l0 x17_1).f0),.int .i64 ((qA l0 x17_1).f1),.string ((qA l0 x17_1).f2),.bool false]) ?_ 3 _ rfl;(with_reducible repeat(first|refine qJ ?_ _|refine qK ?_|refine qF ?_ _));refine qP (cs:= #[.string ((qA l0 x17_1).f0),.int .i64 ((qA l0 x17_1).f1),.string (⟨#[]⟩:ByteArray),.bool false]) ?_ 2 _ rfl;(with_reducible repeat(first|refine qJ ?_ _|refine qK ?_|refine qF ?_ _));refine qP (cs:= #[.string ((qA l0 x17_1).f0),.int .i64 0,.string (⟨#[]⟩:ByteArray),.bool false]) ?_ 1 _ rfl;(with_reducible repeat(first|refine qJ ?_ _|refine qK ?_|refine qF ?_ _));refine qP (cs:= #[.string (⟨#[]⟩:ByteArray),.int .i64 0,.string (⟨#[]⟩:ByteArray),.bool false]) ?_ 0 _ rfl;(with_reducible repeat(first|refine qJ ?_ _|refine qK ?_|refine qF ?_ _));exact BK581.out⟩
   have n2_:qB (Below w.heap.size w ((((w37.setCell ⟨gb581,0,none⟩ (.string ((qA l0 x17_1).f0))).setCell ⟨gb581,1,none⟩ (.int .i64 ((qA l0 x17_1).f1))).setCell ⟨gb581,2,none⟩ (.string ((qA l0 x17_1).f2))).setCell ⟨gb581,3,none⟩ (.bool false))):=⟨zb⟩
   (try clear HO_3)
   (try clear BK581)
   (try clear HB)
   generalize((((w37.setCell ⟨gb581,0,none⟩ (.string ((qA l0 x17_1).f0))).setCell ⟨gb581,1,none⟩ (.int .i64 ((qA l0 x17_1).f1))).setCell ⟨gb581,2,none⟩ (.string ((qA l0 x17_1).f2))).setCell ⟨gb581,3,none⟩ (.bool false))=w39 at n0_ n1_ n2_⊢
   have HO_3:=n0_
   have BK581:=n1_
   have HB:=n2_
   clear n0_ n1_ n2_
   replace HO_3:=zz (Kd.qX HO_3.out)
   replace BK581:=zz (qK BK581.out)
   replace HB:=zz (qQ HB.out)
   refine start_ (n:=12) (S:=fun w'=>w'.cell? ⟨gb581,0,none⟩=some (.string ((qA l0 x17_1).f0))∧w'.cell? ⟨gb581,1,none⟩=some (.int .i64 ((qA l0 x17_1).f1))∧w'.cell? ⟨gb581,2,none⟩=some (.string ((qA l0 x17_1).f2))∧w'.cell? ⟨gb581,3,none⟩=some (.bool false)) (ds:=[]) (bp 0 12) zk rfl rfl (zy4 BK581.out) (fun hHeld=>?_);refine with_tabW impl_PackTree.tab10 impl_PackTree.bits10 (fun HT_ HW_=>?_)
   generalize w39.drew=w40 at HO_3 BK581 HB hHeld⊢
   refine zp 0 28 (bp 1 11) ?_
   refine zp 1 29 (bp 2 10) ?_
   refine zp 4 32 (bm 12 19) ?_
   refine zp 8 36 (bm 12 275) ?_
   refine zt 5 33 (bm 12 307) ?_
   refine zp 6 34 (bm 12 371) ?_
   refine zt 9 37 (bm 12 883) ?_
   refine zo 2 30 (bm 12 887) fun K hK=>?_
   refine value_ (w1:=?_) (v:=?_) (by rfl) rfl ?_ ?_
   rotate_left 2
   ·go_simp
    constructor
    ·rfl
    ·rfl
   refine hK.out _ _ ⟨(qW (qF BK581.out _) 0).trans rfl,(qW (qF BK581.out _) 1).trans rfl,(qW (qF BK581.out _) 2).trans rfl,(qW (qF BK581.out _) 3).trans rfl⟩ (fun hHeld=>?_)
   clear hK K
   refine zn 30 ?_
   refine zo 3 31 (bm 12 895) fun K hK=>?_
   refine Kd.R_append_step (Kd.int .u8) (w0:=w) w.heap.size (by rfl) (.tmp 28) (.tmp 30) 133 5 (.int .u8 0) 1 rfl Tryz.underlying133 info5 rfl (by decide) (by omega) u3 x3_1 (((qA l0 x17_1).f1) % 256) [.int .u8 (((qA l0 x17_1).f1) % 256)] (fun _=>True) (fun _=>False) rfl rfl ?aP (fun _ hk=>hk.elim) ?aF ?aO ?aB ?aS ?aL ?_
   (case aP=>exact rfl)
   (case aB=>exact zb)
   (case aF=>exact(fun _ _=>trivial))
   (case aO=>exact(zR HO_3.out))
   (case aS=>exact(qG zb))
   (case aL=>have:=LMc32.out;omega)
   intro v598 w41 ho hb hg hat
   rw[←Ny597.out] at ho
   replace BK581:=zz (zK BK581 hg (Kd.R_ne HO_3.out BK581.out (by decide)))
   replace HB:=zz (hb)
   have HO599:=zz (ho)
   clear HO_3
   clear ho hb hg hat
   obtain⟨Ao42,co42,eo42⟩:=Kd.vG HO599.out
   (first|subst eo42|(injection eo42 with f1_ f2_ f3_;have f4_:=f1_.symm;have f5_:=f3_.symm;clear f1_ f2_ f3_;subst f4_;subst f5_))
   refine hK.out _ _ (zy4 BK581.out) (fun hHeld=>?_)
   clear hK K
   refine zn 31 ?_
   refine zo 7 35 (bp 10 2) fun K hK=>?_
   refine zh Tryz.func160 #[.slice Ao42 y597.length co42,.int .i64 (((qA l0 x17_1).f0).size:Int)] ?_
   with_reducible refine(impl_varint.calls k1 (fun k_=>some k_=(.slice Ao42 y597.length co42:Value).ownBlock) (.slice Ao42 y597.length co42) y597 (((qA l0 x17_1).f0).size:Int) t600 w _ ?s1 ?s2 A33.out).mono ?_
   (case s1=>repeat(first|(with_reducible first|exact HB.out|apply vA|apply qZ|apply qQ|refine qM ?_ GE581.out)|exact HB.out))
   (case s2=>exact Kd.R_tight rfl HO599.out)
   rintro e w43 ⟨v601,rfl,ho0,hb,hkp⟩
   refine⟨_,rfl,?_⟩
   replace BK581:=zz (blk_kept (zB BK581.out) hkp (fun hs_=>(fun e_=>(Kd.R_ne HO599.out BK581.out (by decide)) e_) hs_))
   have HO602:=zz (Kd.vF (ok':=fun k_=>True) ho0 (fun k_ hk_=>trivial))
   replace HB:=zz (hb)
   clear HO599
   (try clear hb)
   (try clear hkp)
   (try clear ho0)
   refine hK.out _ _ (zy4 BK581.out) (fun hHeld=>?_)
   clear hK K
   refine zn 35 ?_
   refine zo 10 38 (bp 11 1) fun K hK=>?_
   refine print_append_str_step (w0:=w) w.heap.size (by rfl) (.tmp 35) _ 133 9 5 rfl Tryz.underlying133 Tryz.underlying9 info5 v601 t600 ((qA l0 x17_1).f0) rfl rfl ?aO ?aB ?aS ?aL ?_
   (case aB=>exact zb)
   (case aO=>exact(Kd.own_of_R (zR HO602.out)))
   (case aS=>exact(qG zb))
   (case aL=>have:=LMc34.out;omega)
   intro v604 w44 ho0 hb hg
   have ho:=Kd.R_of_own (h1:=fun _=>rfl) (ok:=fun _=>True) ho0 (fun _ _=>trivial)
   clear ho0
   have hat:=True.intro
   rw[←Ny603.out] at ho
   change Kd.R (Kd.int .u8) 5 w44 w.heap.size (fun _=>True) v604 y603 at ho
   replace BK581:=zz (zK BK581 hg (Kd.R_ne HO602.out BK581.out (by decide)))
   replace HB:=zz (hb)
   have HO605:=zz (ho)
   clear HO602
   clear ho hb hg hat
   refine hK.out _ _ (zy4 BK581.out) (fun hHeld=>?_)
   clear hK K
   refine zn 38 ?_
   refine zp 11 3 (bp 12 0) ?_
   refine done_ (done_of HT_.out zk) ?_
   try go_wp2
   replace HO605:=zz (Kd.qX HO605.out)
   replace BK581:=zz (qK BK581.out)
   replace HB:=zz (qQ HB.out)
   obtain⟨Ao46,co46,eo46⟩:=Kd.vG HO605.out
   (first|subst eo46|(injection eo46 with f1_ f2_ f3_;have f4_:=f1_.symm;have f5_:=f3_.symm;clear f1_ f2_ f3_;subst f4_;subst f5_))
   refine start_ (n:=9) (S:=fun w'=>w'.cell? ⟨gb581,0,none⟩=some (.string ((qA l0 x17_1).f0))∧w'.cell? ⟨gb581,1,none⟩=some (.int .i64 ((qA l0 x17_1).f1))∧w'.cell? ⟨gb581,2,none⟩=some (.string ((qA l0 x17_1).f2))∧w'.cell? ⟨gb581,3,none⟩=some (.bool false)) (ds:=[]) (bp 0 9) zk rfl rfl (zy4 BK581.out) (fun hHeld=>?_);refine with_tabW impl_PackTree.tab11 impl_PackTree.bits11 (fun HT_ HW_=>?_)
   generalize w44.drew=w45 at HO605 BK581 HB hHeld⊢
   refine zp 0 39 (bp 1 8) ?_
   refine zp 1 40 (bp 2 7) ?_
   refine zp 5 44 (bm 9 35) ?_
   refine zt 2 41 (bm 9 39) ?_
   refine zp 3 42 (bm 9 47) ?_
   refine zt 6 45 (bm 9 111) ?_
   refine zo 4 43 (bp 7 2) fun K hK=>?_
   refine zh Tryz.func160 #[.slice Ao46 y603.length co46,.int .i64 (((qA l0 x17_1).f2).size:Int)] ?_
   with_reducible refine(impl_varint.calls k1 (fun k_=>some k_=(.slice Ao46 y603.length co46:Value).ownBlock) (.slice Ao46 y603.length co46) y603 (((qA l0 x17_1).f2).size:Int) t606 w _ ?s1 ?s2 A35.out).mono ?_
   (case s1=>repeat(first|(with_reducible first|exact HB.out|apply vA|apply qZ|apply qQ|refine qM ?_ GE581.out)|exact HB.out))
   (case s2=>exact Kd.R_tight rfl HO605.out)
   rintro e w47 ⟨v607,rfl,ho0,hb,hkp⟩
   refine⟨_,rfl,?_⟩
   replace BK581:=zz (blk_kept (zB BK581.out) hkp (fun hs_=>(fun e_=>(Kd.R_ne HO605.out BK581.out (by decide)) e_) hs_))
   have HO608:=zz (Kd.vF (ok':=fun k_=>True) ho0 (fun k_ hk_=>trivial))
   replace HB:=zz (hb)
   clear HO605
   (try clear hb)
   (try clear hkp)
   (try clear ho0)
   refine hK.out _ _ (zy4 BK581.out) (fun hHeld=>?_)
   clear hK K
   refine zn 43 ?_
   refine zo 7 46 (bp 8 1) fun K hK=>?_
   refine print_append_str_step (w0:=w) w.heap.size (by rfl) (.tmp 43) _ 133 9 5 rfl Tryz.underlying133 Tryz.underlying9 info5 v607 t606 ((qA l0 x17_1).f2) rfl rfl ?aO ?aB ?aS ?aL ?_
   (case aB=>exact zb)
   (case aO=>exact(Kd.own_of_R (zR HO608.out)))
   (case aS=>exact(qG zb))
   (case aL=>have:=LMc36.out;omega)
   intro v610 w48 ho0 hb hg
   have ho:=Kd.R_of_own (h1:=fun _=>rfl) (ok:=fun _=>True) ho0 (fun _ _=>trivial)
   clear ho0
   have hat:=True.intro
   rw[←Ny609.out] at ho
   change Kd.R (Kd.int .u8) 5 w48 w.heap.size (fun _=>True) v610 y609 at ho
   replace BK581:=zz (zK BK581 hg (Kd.R_ne HO608.out BK581.out (by decide)))
   replace HB:=zz (hb)
   have HO611:=zz (ho)
   clear HO608
   clear ho hb hg hat
   refine hK.out _ _ (zy4 BK581.out) (fun hHeld=>?_)
   clear hK K
   refine zn 46 ?_
   refine zp 8 3 (bp 9 0) ?_
   refine done_ (done_of HT_.out zk) ?_
   try go_wp2
   go_roundg k1
   case measure=>have:=HK1.out;omega
   case rel=>exact⟨(y609),(wrap64 (x17_1+1)),zr,H',⟨by have:=HK1.out;omega⟩,⟨by(with_reducible repeat(first|apply Kd.qU|apply Kd.qT|apply Kd.qX));exact HO611.out⟩,⟨zb⟩⟩
def impl_TreeSum.f(k:Nat)(l0:List (S96)):Option (ByteArray):=(impl_TreeOk.f k l0).bind fun t612=>(if t612=true then((impl_PackTree.f k l0).bind fun t613=>((impl_Sum.f k t613).bind fun t616=>((impl_Word32.f k t616).bind fun t617=>(some t617)))) else(some (⟨#[]⟩:ByteArray)))
theorem impl_TreeSum.calls(k:Nat)(A0:Option Addr)(c0:Nat)(l0:List (S96))(r:ByteArray)(w:World)(hr0:Kd.C k96 w A0 l0.length l0)(hc0:l0.length≤c0)(hG_:GOK w)(h:impl_TreeSum.f k l0=some r):
 Calls Tryz.prog 125 #[.slice A0 l0.length c0] w fun e w'=>e= .returned (.string r)∧Below w.heap.size w w':=by
 have HG:=zz hG_
 clear hG_
 have HR0:=zz hr0
 have HC0:=zz hc0
 clear hr0 hc0
 have HB:=zz (Below.refl w.heap.size w)
 unfold impl_TreeSum.f at h
 have H:=h
 clear h
 replace HB:=HB.out
 have HW:=zz (Below.refl w.heap.size w)
 go_enter Tryz.func125,Tryz.ntmps125
 replace H:=zf H
 obtain⟨t612,A2,H⟩:=H
 try dsimp only at H
 replace A2:=zz A2
 by_cases c3:t612=true
 case neg=>
  replace c3:=Bool.eq_false_iff.mpr c3
  subst c3
  rw[if_neg (by decide)] at H
  go_wp2_with(fail)
  refine(impl_TreeOk.calls k _ _ _ _ _ (Kd.qC HR0.out HB) HC0.out (GOK.below HG.out (zv HW.out HB)) A2.out).mono ?_
  rintro e w15 ⟨rfl,hb⟩
  replace HB:=zv HB hb
  clear hb
  obtain rfl:=zi H
  go_wp2_with(fail)
  go_ret
  exact⟨ze,zv HW.out HB⟩
 subst c3
 rw[if_pos rfl] at H
 go_wp2_with(fail)
 refine(impl_TreeOk.calls k _ _ _ _ _ (Kd.qC HR0.out HB) HC0.out (GOK.below HG.out (zv HW.out HB)) A2.out).mono ?_
 rintro e w5 ⟨rfl,hb⟩
 replace HB:=zv HB hb
 clear hb
 replace H:=zf H
 obtain⟨t613,A6,H⟩:=H
 try dsimp only at H
 replace A6:=zz A6
 go_wp2_with(fail)
 refine(impl_PackTree.calls k _ _ _ _ _ (Kd.qC HR0.out HB) HC0.out (GOK.below HG.out (zv HW.out HB)) A6.out).mono ?_
 rintro e w7 ⟨vHO615,rfl,hHO615,hb⟩
 replace HB:=zv HB hb
 clear hb
 have hst:=HB
 replace HW:=zz (zv HW.out hst)
 replace HR0:=zz (Kd.qC HR0.out hst)
 clear hst
 replace HB:=Below.refl w7.heap.size w7
 obtain⟨AHRo8,cHRo8,rfl,hl_,hC_⟩:=Kd.R_reads hHO615
 have HRo8:=zz hC_
 have HCo8:=zz hl_
 clear hl_ hC_ hHO615
 replace H:=zf H
 obtain⟨t616,A9,H⟩:=H
 try dsimp only at H
 replace A9:=zz A9
 go_wp2_with(fail)
 refine(impl_Sum.calls k _ _ _ _ _ (Kd.qC HRo8.out HB) HCo8.out A9.out).mono ?_
 rintro e w10 ⟨rfl,hd⟩
 replace HB:=zv HB hd.below
 clear hd
 replace H:=zf H
 obtain⟨t617,A11,H⟩:=H
 try dsimp only at H
 replace A11:=zz A11
 go_wp2_with(fail)
 refine(impl_Word32.calls k _ _ _ A11.out).mono ?_
 rintro e w13 ⟨rfl,hb⟩
 replace HB:=zv HB hb
 clear hb
 obtain rfl:=zi H
 go_wp2_with(fail)
 go_ret
 exact⟨ze,zv HW.out HB⟩
def spec_Word32.l0:Nat→Int→List Int→Int→Option (ByteArray)
 |0,_,_,_=>none
 |k+1,x0,x3,x4=>if x4≥0 then(if 0≤(IntKind.u64.wrap (wrap64 (5*x4))) then(if 0≤(Go.bits .and .u64 (shr .u64 x0 (IntKind.u64.wrap (wrap64 (5*x4)))) 31) then(if(Go.bits .and .u64 (shr .u64 x0 (IntKind.u64.wrap (wrap64 (5*x4)))) 31)<32 then(if x3.length<140737488355328 then(spec_Word32.l0 k x0 (x3++[bt (⟨#[48,49,50,51,52,53,54,55,56,57,97,98,99,100,102,103,104,105,106,107,108,109,110,112,113,114,115,118,119,120,121,122]⟩:ByteArray) (Go.bits .and .u64 (shr .u64 x0 (IntKind.u64.wrap (wrap64 (5*x4)))) 31)]) (wrap64 (x4 - 1))) else(none)) else(none)) else(none)) else(none)) else(some (strOfNums x3))
def spec_Word32.f(k:Nat)(a0:Int):Option (ByteArray):=spec_Word32.l0 k a0 (([]:List Int)) 12
theorem spec_Word32.calls(k:Nat)(a0:Int)(r:ByteArray)(w:World)(h:spec_Word32.f k a0=some r):
 Calls Tryz.prog 138 #[.int .u64 a0] w fun e w'=>e= .returned (.string r)∧Below w.heap.size w w':=by
 have HB:=zz (Below.refl w.heap.size w)
 unfold spec_Word32.f at h
 have H:=h
 clear h
 obtain⟨y318,hy318⟩:∃y_:List Int,y_=(([]:List Int)):=⟨_,rfl⟩
 replace H:(spec_Word32.l0 k a0 y318 12)=some r:=by first|(rw[hy318];with_reducible exact H)|(have H2_:=(Option.bind_some _ _).symm.trans H;rw[hy318];with_reducible exact H2_)|(have H2_:=(Option.bind_some _ _).symm.trans H;with_reducible exact H2_)|with_reducible exact H|(rw[hy318];exact H)|exact H
 have Ny318:=zz hy318
 clear hy318
 have H':=zz H
 clear H
 go_enter Tryz.func138,Tryz.ntmps138
 go_wp2_with(first|(refine zN 5 ?_;refine Kd.R_lit (Kd.int .u8) _ 5 ?hg (N:=5) ?hd (xs:=([]:List Int)) (inner:=[]) (ok:=fun _=>True) (okp:=fun _=>True) ?hr ?hp (fun _ hk=>hk) trivial (Below.refl _ _) (Nat.le_refl _) (by simp) ?_;(case hd=>rfl);(case hg=>rfl);(case hr=>first|(go_simp;done)|(go_simp;rfl));(case hp=>exact(Reps.none _ _));intro v319 w2 ho3 hb hg_ hnew_;clear hg_ hnew_;(first|rw[←Ny318.out] at ho3|(simp only[Int.reduceToNat] at ho3;rw[←Ny318.out] at ho3));have HO320:=zz (Kd.vH ho3 (qG zb));replace HB:=zz (zv zb hb);clear hb ho3))
 go_loopg[3,4] k (fun kq v3 v4 w'=>∃(x3_1:List Int) (x4_1:Int),v4= .int .i64 x4_1∧qB (spec_Word32.l0 kq a0 x3_1 x4_1=some r)∧qB (kq≤k)∧qB (Kd.R (Kd.int .u8) 5 w' w.heap.size (fun _=>True) v3 x3_1)∧qB (Below w.heap.size w w'))
 case atStart=>exact⟨(y318),(12),zr,H',⟨Nat.le_refl _⟩,⟨by(with_reducible repeat(first|apply Kd.qU|apply Kd.qT|apply Kd.qX));exact HO320.out⟩,⟨zb⟩⟩
 case round=>
  clear H'
  try clear c1
  try clear p2
  obtain⟨x3_1,x4_1,rfl,HA,HK1,HO_3,HB⟩:=hrel
  cases gk with
  |zero=>exact absurd HA.out (by simp[spec_Word32.l0])
  |succ k1=>
   have H:=HA.out
   clear HA
   simp only[spec_Word32.l0] at H
   by_cases c4:x4_1≥0
   case neg=>
    rw[if_neg c4] at H
    have c4b0:=zgen c4
    clear c4
    obtain rfl:=zi H
    have hcv13:=own_string (P:=Tryz.prog) Tryz.underlying133 Tryz.underlying5 Tryz.underlying9 (Kd.own_of_R HO_3.out)
    go_wp2
    go_ret
    exact⟨ze,zb⟩
   rw[if_pos c4] at H
   have c4b0:=zge c4
   clear c4
   obtain⟨ji5,hji5⟩:∃j_:Int,(IntKind.u64.wrap (wrap64 (5*x4_1)))=j_:=⟨_,rfl⟩
   replace H:(if 0≤(ji5) then(if 0≤(Go.bits .and .u64 (shr .u64 a0 (ji5)) 31) then(if(Go.bits .and .u64 (shr .u64 a0 (ji5)) 31)<32 then(if x3_1.length<140737488355328 then(spec_Word32.l0 k1 a0 (x3_1++[bt (⟨#[48,49,50,51,52,53,54,55,56,57,97,98,99,100,102,103,104,105,106,107,108,109,110,112,113,114,115,118,119,120,121,122]⟩:ByteArray) (Go.bits .and .u64 (shr .u64 a0 (ji5)) 31)]) (wrap64 (x4_1 - 1))) else(none)) else(none)) else(none)) else(none))=some r:=by first|(rw[hji5] at H;exact H)|(simp only[hji5] at H⊢;exact H)
   by_cases c6:0≤(ji5)
   case neg=>exact zno H c6
   rw[if_pos c6] at H
   have c6b0:=eq_true c6
   have c6b1:=z1 c6
   clear c6
   obtain⟨ji7,hji7⟩:∃j_:Int,(shr .u64 a0 (ji5))=j_:=⟨_,rfl⟩
   replace H:(if 0≤(Go.bits .and .u64 (ji7) 31) then(if(Go.bits .and .u64 (ji7) 31)<32 then(if x3_1.length<140737488355328 then(spec_Word32.l0 k1 a0 (x3_1++[bt (⟨#[48,49,50,51,52,53,54,55,56,57,97,98,99,100,102,103,104,105,106,107,108,109,110,112,113,114,115,118,119,120,121,122]⟩:ByteArray) (Go.bits .and .u64 (ji7) 31)]) (wrap64 (x4_1 - 1))) else(none)) else(none)) else(none))=some r:=by first|(rw[hji7] at H;exact H)|(simp only[hji7] at H⊢;exact H)
   have hji7_:(a0 / 2 ^ min (ji5).toNat 64)=ji7:=hji7
   have hji7z:(ji5)≤64→(a0 / 2 ^ (ji5).toNat)=ji7:=shr_small hji7
   by_cases c8:0≤(Go.bits .and .u64 (ji7) 31)
   case neg=>exact zno H c8
   rw[if_pos c8] at H
   have c8b0:=z1 c8
   clear c8
   by_cases c9:(Go.bits .and .u64 (ji7) 31)<32
   case neg=>exact zno H c9
   rw[if_pos c9] at H
   have c9b0:=z1 c9
   clear c9
   by_cases c11:x3_1.length<140737488355328
   case neg=>exact zno H c11
   rw[if_pos c11] at H
   have LMc11:=zz c11
   clear c11
   obtain⟨y321,hy321⟩:∃y_:List Int,y_=(x3_1++[bt (⟨#[48,49,50,51,52,53,54,55,56,57,97,98,99,100,102,103,104,105,106,107,108,109,110,112,113,114,115,118,119,120,121,122]⟩:ByteArray) (Go.bits .and .u64 (ji7) 31)]):=⟨_,rfl⟩
   replace H:(spec_Word32.l0 k1 a0 y321 (wrap64 (x4_1 - 1)))=some r:=by first|(rw[hy321];with_reducible exact H)|(have H2_:=(Option.bind_some _ _).symm.trans H;rw[hy321];with_reducible exact H2_)|(have H2_:=(Option.bind_some _ _).symm.trans H;with_reducible exact H2_)|with_reducible exact H|(rw[hy321];exact H)|exact H
   have Ny321:=zz hy321
   clear hy321
   have H':=zz H
   clear H
   have p10:0≤((Go.bits .and .u64 (ji7) 31):Int):=z2
   have q10:(Go.bits .and .u64 (ji7) 31)<(32:Int):=z2
   have hx10:=bt_at (⟨#[48,49,50,51,52,53,54,55,56,57,97,98,99,100,102,103,104,105,106,107,108,109,110,112,113,114,115,118,119,120,121,122]⟩:ByteArray) (Go.bits .and .u64 (ji7) 31)
   replace p10:=eq_true p10
   replace q10:=eq_true q10
   go_wp2_with(first|((with_reducible refine vJ (b:= .append) (xs:= #[.tmp 10,.tmp 18]) rfl ?_);at_builtin;refine Kd.R_append (Kd.int .u8) (w0:=w) w.heap.size rfl (.tmp 10) (.tmp 18) 133 5 (.int .u8 0) 1 rfl Tryz.underlying133 info5 rfl (by decide) (by omega) u3 x3_1 (bt (⟨#[48,49,50,51,52,53,54,55,56,57,97,98,99,100,102,103,104,105,106,107,108,109,110,112,113,114,115,118,119,120,121,122]⟩:ByteArray) (Go.bits .and .u64 (ji7) 31)) [.int .u8 (bt (⟨#[48,49,50,51,52,53,54,55,56,57,97,98,99,100,102,103,104,105,106,107,108,109,110,112,113,114,115,118,119,120,121,122]⟩:ByteArray) (Go.bits .and .u64 (ji7) 31))] (fun _=>True) (fun _=>False) rfl rfl ?aP (fun _ hk=>hk.elim) ?aF ?aO ?aB ?aS ?aL ?_;(case aP=>exact rfl);(case aB=>exact zb);(case aF=>exact(fun _ _=>trivial));(case aO=>exact(zR HO_3.out));(case aS=>exact(qG zb));(case aL=>have:=LMc11.out;omega);intro v322 w12 ho hb hg hat;rw[←Ny321.out] at ho;replace HB:=zz (hb);have HO323:=zz (ho);clear HO_3;clear ho hb hg hat))
   go_roundg k1
   case measure=>have:=HK1.out;omega
   case rel=>exact⟨(y321),(wrap64 (x4_1 - 1)),zr,H',⟨by have:=HK1.out;omega⟩,⟨by(with_reducible repeat(first|apply Kd.qU|apply Kd.qT|apply Kd.qX));exact HO323.out⟩,⟨zb⟩⟩
mutual
def spec_Sum.l0:Nat→List Int→Int→Int→Option (Int)
 |0,_,_,_=>none
 |k+1,x0,x3,x4=>if x4<(x0.length:Int) then(if 0≤x4 then(spec_Sum.l0 k x0 (IntKind.u64.wrap ((Go.bits .xor .u64 x3 (IntKind.u64.wrap (rd x0 x4)))*1099511628211)) (wrap64 (x4+1))) else(none)) else(spec_Sum.l1 k x3 0)
def spec_Sum.l1:Nat→Int→Int→Option (Int)
 |0,_,_=>none
 |k+1,x3,x5=>if x5<3 then(spec_Sum.l1 k (IntKind.u64.wrap ((Go.bits .xor .u64 x3 (x3 / 536870912))*11400714819323198485)) (wrap64 (x5+1))) else(some (Go.bits .xor .u64 x3 (x3 / 4294967296)))
end
def spec_Sum.f(k:Nat)(l0:List Int):Option (Int):=spec_Sum.l0 k l0 14695981039346656037 0
theorem spec_Sum.calls(k:Nat)(A0:Option Addr)(c0:Nat)(l0:List Int)(r:Int)(w:World)(hr0:Kd.C (Kd.int .u8) w A0 l0.length l0)(hc0:l0.length≤c0)(h:spec_Sum.f k l0=some r):
 Calls Tryz.prog 139 #[.slice A0 l0.length c0] w fun e w'=>e= .returned (.int .u64 r)∧qE w w':=by
 have HR0:=zz hr0
 have HC0:=zz hc0
 clear hr0 hc0
 unfold spec_Sum.f at h
 have H:=h
 clear h
 have H':=zz H
 clear H
 go_enter Tryz.func139,Tryz.ntmps139
 go_wp2
 go_loopg[3,4] k (fun kq v3 v4 w'=>∃(x3_1:Int) (x4_1:Int),v3= .int .u64 x3_1∧v4= .int .i64 x4_1∧qB (spec_Sum.l0 kq l0 x3_1 x4_1=some r)∧qB (kq≤k)∧qE w w')
 case atStart=>exact⟨(14695981039346656037),(0),zr,zr,H',⟨Nat.le_refl _⟩,by repeat(first|exact qE.refl _|apply qE.step)⟩
 case round=>
  clear H'
  try clear c1
  obtain⟨x3_1,x4_1,rfl,rfl,HA,HK1,⟨m1,rfl⟩⟩:=hrel
  cases gk with
  |zero=>exact absurd HA.out (by simp[spec_Sum.l0])
  |succ k1=>
   have H:=HA.out
   clear HA
   simp only[spec_Sum.l0] at H
   by_cases c2:x4_1<(l0.length:Int)
   ·rw[if_pos c2] at H
    have c2b0:=z1 c2
    clear c2
    by_cases c3:0≤x4_1
    case neg=>exact zno H c3
    rw[if_pos c3] at H
    have c3b0:=z1 c3
    clear c3
    have H':=zz H
    clear H
    have p324:0≤(x4_1:Int):=z2
    have q324:x4_1<(l0.length:Int):=z2
    obtain⟨ad324,e324,hx324_0⟩:=Kd.at_int HR0.out x4_1 p324 q324
    cases e324
    replace p324:=eq_true p324
    replace q324:=eq_true q324
    go_wp2
    go_roundg k1
    case measure=>have:=HK1.out;omega
    case rel=>exact⟨(IntKind.u64.wrap ((Go.bits .xor .u64 x3_1 (IntKind.u64.wrap (rd l0 x4_1)))*1099511628211)),(wrap64 (x4_1+1)),zr,zr,H',⟨by have:=HK1.out;omega⟩,by repeat(first|exact qE.refl _|apply qE.step)⟩
   rw[if_neg c2] at H
   have c2b0:=z0 c2
   clear c2
   have H':=zz H
   clear H
   go_wp2
   go_loopg[3,5] k1 (fun kq v3 v5 w'=>∃(x3_2:Int) (x5_2:Int),v3= .int .u64 x3_2∧v5= .int .i64 x5_2∧qB (spec_Sum.l1 kq x3_2 x5_2=some r)∧qB (kq≤k1)∧qE w w')
   case atStart=>exact⟨(x3_1),(0),zr,zr,H',⟨Nat.le_refl _⟩,by repeat(first|exact qE.refl _|apply qE.step)⟩
   case round=>
    clear H'
    try clear c1
    try clear c2
    try clear c2b0
    try clear p2
    try clear c3
    try clear c3b0
    try clear p3
    try clear q3
    try clear hx3
    try clear hx324_0
    try clear p324
    try clear q324
    obtain⟨x3_2,x5_2,rfl,rfl,HA,HK2,⟨m2,rfl⟩⟩:=hrel
    cases gk with
    |zero=>exact absurd HA.out (by simp[spec_Sum.l1])
    |succ k2=>
     have H:=HA.out
     clear HA
     simp only[spec_Sum.l1] at H
     by_cases c4:x5_2<3
     case neg=>
      rw[if_neg c4] at H
      have c4b0:=z0 c4
      clear c4
      obtain rfl:=zi H
      go_wp2
      go_ret
      exact⟨zr,by repeat(first|exact qE.refl _|apply qE.step)⟩
     rw[if_pos c4] at H
     have c4b0:=z1 c4
     clear c4
     have H':=zz H
     clear H
     go_wp2
     go_roundg k2
     case measure=>have:=HK1.out;have:=HK2.out;omega
     case rel=>exact⟨(IntKind.u64.wrap ((Go.bits .xor .u64 x3_2 (x3_2 / 536870912))*11400714819323198485)),(wrap64 (x5_2+1)),zr,zr,H',⟨by have:=HK1.out;have:=HK2.out;omega⟩,by repeat(first|exact qE.refl _|apply qE.step)⟩
def bytesI(s:ByteArray):List Int:=s.data.toList.map (fun b=>((b.toNat:Nat):Int))
theorem bytesI_len(s:ByteArray):(bytesI s).length=s.size:=by rw[bytesI,List.length_map,Array.length_toList];rfl
theorem conv_reads(w:World)(s:ByteArray)(hs:s.size<140737488355328):ReadsRow (fun(x:Int) cs=>cs=[Value.int .u8 x]) 1 (Lib.bytesWorld w 5 s) (some ⟨w.heap.size,0,none⟩) s.size (bytesI s):=by
 refine Kd.C_of_reads (enc:=Value.int .u8) (d:=(0:Int)) (h1:=fun _=>rfl) ⟨bytesI_len s,by omega,fun _=>⟨_,rfl,fun j hj=>?_⟩⟩
 have h1:j<s.data.toList.length:=by rw[Array.length_toList];exact hj
 have h2:=Lib.bytesWorld_cell w 5 s j hj
 have h3:(bytesI s).getD j 0=((s.data.toList.getD j 0).toNat:Int):=by
  simp only[bytesI,List.getD_eq_getElem?_getD,List.getElem?_map,List.getElem?_eq_getElem h1]
  rfl
 rw[h3]
 have ha:(⟨w.heap.size,0,none⟩:Addr).add j=⟨w.heap.size,j,none⟩:=by unfold Addr.add;split<;>simp_all
 rw[ha]
 exact h2
def spec_l10Text.f(k:Nat)(l0:List Int)(a1:ByteArray):Option (List Int):=(spec_l10Num.f k l0 (a1.size:Int)).bind fun y=>if y.length+a1.size<140737488355328 then some (y++bytesI a1) else none
theorem spec_l10Text.calls(k:Nat)(P0_:Nat→Prop)(u9000_:Value)(l0:List Int)(a1:ByteArray)(r:List Int)(w0 w:World)(hB:Below w0.heap.size w0 w)(ho0:Kd.R (Kd.int .u8) 5 w w0.heap.size P0_ u9000_ l0)(h:spec_l10Text.f k l0 a1=some r):
 Calls Tryz.prog 159 #[u9000_,.string a1] w fun e w'=>∃v0_:Value,e= .returned (v0_)∧Kd.R (Kd.int .u8) 5 w' w0.heap.size (fun k_=>(P0_ k_∨w.heap.size≤k_)) v0_ r∧Below w0.heap.size w0 w'∧Kept w w' (fun k_=>P0_ k_):=by
 obtain⟨y,A1,h⟩:=Option.bind_eq_some_iff.mp h
 split at h
 case isFalse=>exact absurd h (by simp)
 case isTrue hs0=>
 have hs:=qB.mk hs0
 clear hs0
 obtain⟨z,hz⟩:∃z_,z_=y++bytesI a1:=⟨_,rfl⟩
 rw[←hz] at h
 obtain rfl:=Option.some.inj h
 have Nz:=qB.mk hz
 have A1:=qB.mk A1
 have HO0:=qB.mk ho0
 have HB:=qB.mk hB
 clear h hz hB ho0
 go_enter Tryz.func159,Tryz.ntmps159
 go_wp2_with(first|((with_reducible refine gate_callee (f:=158) rfl ?_);refine goesL_ (some 8) rfl rfl Tryz.func158 (by kernel_rfl) rfl #[u9000_,.int .i64 (a1.size:Int)] rfl (by(try simp only[List.map_toArray,List.map_cons,List.map_nil]);first|done|rfl) ?_;(with_reducible refine(spec_l10Num.calls k P0_ u9000_ l0 _ y w0 _ HB.out HO0.out A1.out).mono ?_);rintro e w1 ⟨v1,rfl,ho1,hb1,hk1⟩;refine⟨_,rfl,?_⟩;have hconv:=Lib.run_convert_string_bytes (P:=Tryz.prog) w1 9 133 5 a1 Tryz.underlying9 Tryz.underlying133 Tryz.underlying5;have n1_:=qB.mk ho1;have n2_:=qB.mk hb1;have n3_:=qB.mk hk1;clear ho1 hb1 hk1 HB HO0;have HO1:=n1_;have HB:=n2_;have HK:=n3_;clear n1_ n2_ n3_)|((with_reducible refine vJ (b:= .append) (xs:= #[.tmp 8,.tmp 10]) rfl ?_);at_builtin;refine Kd.R_append_rows (Kd.int .u8) (Rr:=fun(x:Int) cs=>cs=[Value.int .u8 x]) (w0:=w0) w0.heap.size rfl (.tmp 8) (.tmp 10) 133 5 (.int .u8 0) 1 rfl Tryz.underlying133 info5 rfl (by decide) (by omega) v1 y (bytesI a1) _ _ _ (fun k_=>(P0_ k_∨w.heap.size≤k_)) (fun _=>False) rfl rfl (Kd.R_below HO1.out (bytes_below (Below.refl _ _) (Nat.le_refl _) 5 a1)) (conv_reads _ a1 (by have:=hs.out;omega)) (fun _ _ h=>h) (fun _ h=>h.elim) ?aF ?aB ?aS ?aL ?_;(case aF=>exact fun k_ hk=> .inr (Nat.le_trans HK.out.1 (Nat.le_trans (bytes_below (Below.refl _ _) (Nat.le_refl _) 5 a1).size hk)));(case aB=>exact below_step HB.out (bytes_below (Below.refl _ _) (Nat.le_refl _) 5 a1));(case aS=>exact(qG (below_step HB.out (bytes_below (Below.refl _ _) (Nat.le_refl _) 5 a1))));(case aL=>have:=hs.out;omega);intro v2 w2 ho hb hg hat;rw[←Nz.out] at ho;have n0_:=qB.mk hb;have n1_:=qB.mk (Kept.of_grown (S:=(fun k_=>P0_ k_)) hg (Kept.below HK.out (bytes_below (Below.refl _ _) (Nat.le_refl _) 5 a1)) (fun k_ e_=>(HO1.out.1 k_ e_)));have n2_:=qB.mk ho;clear HB HK HO1;have HB:=n0_;have HK:=n1_;have HO2:=n2_;clear n0_ n1_ n2_;clear ho hb hg hat))
 go_ret
 exact⟨_,by first|rfl|(simp[*];done),HO2.out,HB.out,HK.out⟩
end Go.Proofs.YtcekmnclmldmmaaGreatDoor.Q
