import Derived.Test.YtmdoobnlehkmpaaGreatDoorA06
set_option linter.unusedVariables false
set_option linter.unusedSimpArgs false
namespace Go.Proofs.YtmdoobnlehkmpaaGreatDoor.Q
open Go.RowKit W1 W2 W3
attribute [local go_sem] max2_int min2_int max_two min_two max_three min_three max_four min_four
attribute [local go_sem high] bl_leq bl_gtr bl_geq
set_option maxHeartbeats 8000000
set_option maxRecDepth 100000
def impl_Word32.l0:Nat→Int→List Int→Int→Int→Option (ByteArray)
 |0,_,_,_,_=>none
 |k+1,x0,x3,x7,x8=>if x8<x7 then(if 0≤(wrap64 (5*x8)) then(if 0≤(Go.bits .and .u64 (shr .u64 x0 (wrap64 (5*x8))) 31) then(if(Go.bits .and .u64 (shr .u64 x0 (wrap64 (5*x8))) 31)<32 then(if 0≤(wrap64 (12 - x8)) then(if(wrap64 (12 - x8))<(x3.length:Int) then(impl_Word32.l0 k x0 (x3.set ((wrap64 (12 - x8)):Int).toNat (bt (⟨#[48,49,50,51,52,53,54,55,56,57,97,98,99,100,102,103,104,105,106,107,108,109,110,112,113,114,115,118,119,120,121,122]⟩:ByteArray) (Go.bits .and .u64 (shr .u64 x0 (wrap64 (5*x8))) 31))) x7 (wrap64 (x8+1))) else(none)) else(none)) else(none)) else(none)) else(none)) else(some (strOfNums x3))
def impl_Word32.f(k:Nat)(a0:Int):Option (ByteArray):=if 13≤281474976710656 then((some (List.replicate 13 0:List Int)).bind fun aa=>(impl_Word32.l0 k a0 aa (aa.length:Int) 0)) else(none)
theorem impl_Word32.calls(k:Nat)(a0:Int)(r:ByteArray)(w:World)(h:impl_Word32.f k a0=some r):
 Calls Tryz.prog 141 #[.int .u64 a0] w fun e w'=>e= .returned (.string r)∧Below w.heap.size w w':=by
 have HB:=yB w
 unfold impl_Word32.f at h
 have H:=h
 clear h
 replace H:=yA H
 obtain⟨c2,H⟩:=H
 have aX:=eq_true c2
 have aY:=z1 c2
 clear c2
 obtain⟨ae,ah⟩:∃y_:List Int,y_=(List.replicate 13 0):=⟨_,rfl⟩
 replace H:(impl_Word32.l0 k a0 ae (ae.length:Int) 0)=some r:=by first|(rw[ah];with_reducible exact H)|(have ak:=(Option.bind_some _ _).symm.trans H;rw[ah];with_reducible exact ak)|(have ak:=(Option.bind_some _ _).symm.trans H;with_reducible exact ak)|with_reducible exact H|(rw[ah];exact H)|exact H
 have ax:=zz ah
 clear ah
 have H':=zz H
 clear H
 go_enter Tryz.func141,Tryz.ntmps141
 go_wp2_with(first|(refine zN 5 ?_;refine Kd.R_make (Kd.int .u8) _ 5 rfl (N:=5) rfl 153 _ _ rfl 13 rfl rfl Tryz.underlying153 (.int .u8 0) 1 info5 rfl (by decide) (by omega) 0 (ok:=fun _=>True) (okp:=fun _=>True) rfl (fun _ hk=>hk) trivial (by omega) (by omega) (Below.refl _ _) (Nat.le_refl _) ?_;intro bd w3 ao hb hg_ hnew_;clear hg_ hnew_;(first|rw[←ax.out] at ao|(simp only[Int.reduceToNat] at ao;rw[←ax.out] at ao));have ay:=zz (Kd.qY ao (qF zb));replace HB:=zz (zv zb hb);clear hb ao;obtain⟨a3,aP,a4⟩:=Kd.qZ ay.out;subst a4))
 go_loopg[8] k (fun kq v8 w'=>∃(ac:List Int) (aa:Int),v8= .int .i64 aa∧qC (impl_Word32.l0 kq a0 ac (ae.length:Int) aa=some r)∧qC (kq≤k)∧qC (Kd.R (Kd.int .u8) 5 w' w.heap.size (fun _=>True) (.slice a3 ae.length aP) ac)∧qC (Below w.heap.size w w'))
 case atStart=>exact⟨(ae),(0),zr,H',⟨Nat.le_refl _⟩,⟨zR ay.out⟩,⟨zb⟩⟩
 case round=>
  clear H'
  try clear c1
  try clear c2
  try clear aX
  try clear aY
  try clear p2
  obtain⟨ac,aa,rfl,HA,aQ,ag,HB⟩:=hrel
  have ab:=(Kd.qM ag.out).1
  rw[ab] at ag
  (try simp only[ab])
  cases gk with
  |zero=>exact absurd HA.out (by simp[impl_Word32.l0])
  |succ k1=>
   have H:=HA.out
   clear HA
   simp only[impl_Word32.l0] at H
   refine yCn H ?_ ?_<;>clear H<;>intro c6 H
   ·have ap:=z0 c6
    (try(have al:=ap;rw[ab] at al))
    clear c6
    obtain rfl:=zi H
    have a9:=own_string (P:=Tryz.prog) Tryz.underlying153 Tryz.underlying5 Tryz.underlying9 (Kd.own_of_R ag.out)
    go_wp2
    go_ret
    exact⟨ze,zb⟩
   have ap:=z1 c6
   (try(have al:=ap;rw[ab] at al))
   clear c6
   obtain⟨ai,ar⟩:∃j_:Int,(wrap64 (5*aa))=j_:=⟨_,rfl⟩
   replace H:(if 0≤(ai) then(if 0≤(Go.bits .and .u64 (shr .u64 a0 (ai)) 31) then(if(Go.bits .and .u64 (shr .u64 a0 (ai)) 31)<32 then(if 0≤(wrap64 (12 - aa)) then(if(wrap64 (12 - aa))<(ac.length:Int) then(impl_Word32.l0 k1 a0 (ac.set ((wrap64 (12 - aa)):Int).toNat (bt (⟨#[48,49,50,51,52,53,54,55,56,57,97,98,99,100,102,103,104,105,106,107,108,109,110,112,113,114,115,118,119,120,121,122]⟩:ByteArray) (Go.bits .and .u64 (shr .u64 a0 (ai)) 31))) (ae.length:Int) (wrap64 (aa+1))) else(none)) else(none)) else(none)) else(none)) else(none))=some r:=by first|(rw[ar] at H;exact H)|(simp only[ar] at H⊢;exact H)
   have ba:(IntKind.i64.wrap (5*aa))=ai:=(i64_w _).trans ar
   replace H:=yA H
   obtain⟨c8,H⟩:=H
   have be:=eq_true c8
   have aZ:=z1 c8
   (try(have aD:=aZ;rw[ab] at aD))
   clear c8
   obtain⟨af,am⟩:∃j_:Int,(shr .u64 a0 (ai))=j_:=⟨_,rfl⟩
   replace H:(if 0≤(Go.bits .and .u64 (af) 31) then(if(Go.bits .and .u64 (af) 31)<32 then(if 0≤(wrap64 (12 - aa)) then(if(wrap64 (12 - aa))<(ac.length:Int) then(impl_Word32.l0 k1 a0 (ac.set ((wrap64 (12 - aa)):Int).toNat (bt (⟨#[48,49,50,51,52,53,54,55,56,57,97,98,99,100,102,103,104,105,106,107,108,109,110,112,113,114,115,118,119,120,121,122]⟩:ByteArray) (Go.bits .and .u64 (af) 31))) (ae.length:Int) (wrap64 (aa+1))) else(none)) else(none)) else(none)) else(none))=some r:=by first|(rw[am] at H;exact H)|(simp only[am] at H⊢;exact H)
   have bb:(a0 / 2 ^ min (ai).toNat 64)=af:=am
   have bc:(ai)≤64→(a0 / 2 ^ (ai).toNat)=af:=shr_small am
   replace H:=yA H
   obtain⟨aR,H⟩:=H
   have aK:=z1 aR
   (try(have az:=aK;rw[ab] at az))
   clear aR
   replace H:=yA H
   obtain⟨aS,H⟩:=H
   have aL:=z1 aS
   (try(have aA:=aL;rw[ab] at aA))
   clear aS
   obtain⟨ad,an⟩:∃j_:Int,(wrap64 (12 - aa))=j_:=⟨_,rfl⟩
   replace H:(if 0≤(ad) then(if(ad)<(ac.length:Int) then(impl_Word32.l0 k1 a0 (ac.set ((ad):Int).toNat (bt (⟨#[48,49,50,51,52,53,54,55,56,57,97,98,99,100,102,103,104,105,106,107,108,109,110,112,113,114,115,118,119,120,121,122]⟩:ByteArray) (Go.bits .and .u64 (af) 31))) (ae.length:Int) (wrap64 (aa+1))) else(none)) else(none))=some r:=by first|(rw[an] at H;exact H)|(simp only[an] at H⊢;exact H)
   have a5:(IntKind.i64.wrap (12 - aa))=ad:=(i64_w _).trans an
   replace H:=yA H
   obtain⟨aT,H⟩:=H
   have aM:=z1 aT
   (try(have aB:=aM;rw[ab] at aB))
   clear aT
   replace H:=yA H
   obtain⟨aU,H⟩:=H
   have aN:=z1 aU
   (try(have aC:=aN;rw[ab] at aC))
   clear aU
   obtain⟨au,aj⟩:∃y_:List Int,y_=(ac.set ((ad):Int).toNat (bt (⟨#[48,49,50,51,52,53,54,55,56,57,97,98,99,100,102,103,104,105,106,107,108,109,110,112,113,114,115,118,119,120,121,122]⟩:ByteArray) (Go.bits .and .u64 (af) 31))):=⟨_,rfl⟩
   replace H:(impl_Word32.l0 k1 a0 au (ae.length:Int) (wrap64 (aa+1)))=some r:=by first|(rw[aj];with_reducible exact H)|(have ak:=(Option.bind_some _ _).symm.trans H;rw[aj];with_reducible exact ak)|(have ak:=(Option.bind_some _ _).symm.trans H;with_reducible exact ak)|with_reducible exact H|(rw[aj];exact H)|exact H
   have aO:=zz aj
   clear aj
   have H':=zz H
   clear H
   have aV:0≤((Go.bits .and .u64 (af) 31):Int):=z2
   have aW:(Go.bits .and .u64 (af) 31)<(32:Int):=z2
   have bf:=bt_at (⟨#[48,49,50,51,52,53,54,55,56,57,97,98,99,100,102,103,104,105,106,107,108,109,110,112,113,114,115,118,119,120,121,122]⟩:ByteArray) (Go.bits .and .u64 (af) 31)
   replace aV:=eq_true aV
   replace aW:=eq_true aW
   have aE:0≤((ad):Int):=z2
   have aF:((ad):Int)<((ac.length:Int):Int):=z2
   obtain⟨av,bg,aG,aH,a1,bh,aI⟩:=Kd.R_form ag.out (by omega)
   (first|cases aG|(injection aG with ea_ en_ ec_;(first|subst ea_|(injection ea_ with ea_;subst ea_));subst ec_;clear en_))
   have a2:=zz aH
   have bi:=zz aI
   clear aH a1 aI
   obtain⟨a6,a7⟩:=Kd.R_celln 0 ag.out ((ad):Int) aE aF
   replace aE:=eq_true aE
   replace aF:=eq_true aF
   have aw:=Kd.R_putg ag.out ((ad):Int) (bt (⟨#[48,49,50,51,52,53,54,55,56,57,97,98,99,100,102,103,104,105,106,107,108,109,110,112,113,114,115,118,119,120,121,122]⟩:ByteArray) (Go.bits .and .u64 (af) 31))
   go_wp2_with(first|((with_reducible refine qQ (t:=5) (p:=20) rfl ?_);refine qN (t:=5) (p:=20) (v:=?a8) (w1:=(wr.setCell ⟨av,((ad):Int).toNat,none⟩ (.int .u8 (bt (⟨#[48,49,50,51,52,53,54,55,56,57,97,98,99,100,102,103,104,105,106,107,108,109,110,112,113,114,115,118,119,120,121,122]⟩:ByteArray) (Go.bits .and .u64 (af) 31))))) ?hg ?ho ?hn ?hr ?_;(case ho=>rfl);(case hg=>rfl);(case hn=>rfl);(case hr=>first|(go_simp;done)|(go_simp;rfl));intro aJ hw;have hg:wr.grownBy aJ (some av):=(by rw[hw];exact aw.2);have hp_:Kd.R (Kd.int .u8) 5 aJ w.heap.size (fun _=>True) (.slice (some ⟨av,0,none⟩) ac.length aP) au:=(by rw[hw,aO.out];exact aw.1);clear aw;replace ag:=zz (hp_);replace HB:=zz ((by rw[hw];exact qJ (HB.out) a2.out:Below w.heap.size w aJ));clear hg hw hp_))
   (try simp only[←ab])
   go_roundg k1
   case measure=>have:=aQ.out;omega
   case rel=>exact⟨(au),(wrap64 (aa+1)),zr,H',⟨by have:=aQ.out;omega⟩,⟨by(try simp only[ab]);(with_reducible repeat(first|apply Kd.R_alloc|apply Kd.R_drewN|apply Kd.R_drew));exact ag.out⟩,⟨zb⟩⟩
mutual
def impl_Sum.l0:Nat→Int→List Int→Int→Int→Option (Int)
 |0,_,_,_,_=>none
 |k+1,x3,x6,x7,x8=>if x8<x7 then(if 0≤x8 then(if x8<(x6.length:Int) then(impl_Sum.l0 k (IntKind.u64.wrap ((Go.bits .xor .u64 x3 (IntKind.u64.wrap (rd x6 x8)))*1099511628211)) x6 x7 (wrap64 (x8+1))) else(none)) else(none)) else(impl_Sum.l1 k x3 0)
def impl_Sum.l1:Nat→Int→Int→Option (Int)
 |0,_,_=>none
 |k+1,x3,aa=>if aa<3 then(impl_Sum.l1 k (IntKind.u64.wrap ((Go.bits .xor .u64 x3 (x3 / 536870912))*11400714819323198485)) (wrap64 (aa+1))) else(some (Go.bits .xor .u64 x3 (x3 / 4294967296)))
end
def impl_Sum.f(k:Nat)(l0:List Int):Option (Int):=impl_Sum.l0 k 14695981039346656037 l0 (l0.length:Int) 0
theorem impl_Sum.calls(k:Nat)(A0:Option Addr)(c0:Nat)(l0:List Int)(r:Int)(w:World)(ai:Kd.C (Kd.int .u8) w A0 l0.length l0)(aj:l0.length≤c0)(h:impl_Sum.f k l0=some r):
 Calls Tryz.prog 142 #[.slice A0 l0.length c0] w fun e w'=>e= .returned (.int .u64 r)∧qV w w':=by
 have ap:=zz ai
 have aw:=zz aj
 clear ai aj
 unfold impl_Sum.f at h
 have H:=h
 clear h
 have H':=zz H
 clear H
 go_enter Tryz.func142,Tryz.ntmps142
 go_wp2
 go_loopg[3,8] k (fun kq v3 v8 w'=>∃(ac:Int) (aa:Int),v3= .int .u64 ac∧v8= .int .i64 aa∧qC (impl_Sum.l0 kq ac l0 (l0.length:Int) aa=some r)∧qC (kq≤k)∧qV w w')
 case atStart=>exact⟨(14695981039346656037),(0),zr,zr,H',⟨Nat.le_refl _⟩,yD0⟩
 case round=>
  clear H'
  try clear c1
  obtain⟨ac,aa,rfl,rfl,HA,ag,⟨m1,rfl⟩⟩:=hrel
  cases gk with
  |zero=>exact absurd HA.out (by simp[impl_Sum.l0])
  |succ k1=>
   have H:=HA.out
   clear HA
   simp only[impl_Sum.l0] at H
   refine yD H ?_ ?_<;>clear H<;>intro al H
   ·replace H:=yAD H
    obtain⟨am,H⟩:=H
    replace H:=yAD H
    obtain⟨an,H⟩:=H
    have H':=zz H
    clear H
    have ae:0≤(aa:Int):=z2
    have af:aa<(l0.length:Int):=z2
    obtain⟨au,ao,ah⟩:=Kd.at_int ap.out aa ae af
    cases ao
    replace ae:=eq_true ae
    replace af:=eq_true af
    go_wp2
    go_roundg k1
    case measure=>have:=ag.out;omega
    case rel=>exact⟨(IntKind.u64.wrap ((Go.bits .xor .u64 ac (IntKind.u64.wrap (rd l0 aa)))*1099511628211)),(wrap64 (aa+1)),zr,zr,H',⟨by have:=ag.out;omega⟩,yD0⟩
   have H':=zz H
   clear H
   go_wp2
   go_loopg[3,18] k1 (fun kq v3 ar w'=>∃(ad:Int) (ab:Int),v3= .int .u64 ad∧ar= .int .i64 ab∧qC (impl_Sum.l1 kq ad ab=some r)∧qC (kq≤k1)∧qV w w')
   case atStart=>exact⟨(ac),(0),zr,zr,H',⟨Nat.le_refl _⟩,yD0⟩
   case round=>
    clear H'
    try clear c1
    try clear c2
    try clear al
    try clear p2
    try clear c3
    try clear am
    try clear c4
    try clear an
    try clear ah
    try clear ae
    try clear af
    obtain⟨ad,ab,rfl,rfl,HA,ak,⟨m2,rfl⟩⟩:=hrel
    cases gk with
    |zero=>exact absurd HA.out (by simp[impl_Sum.l1])
    |succ k2=>
     have H:=HA.out
     clear HA
     simp only[impl_Sum.l1] at H
     refine yDn H ?_ ?_<;>clear H<;>intro av H
     ·obtain rfl:=zi H
      exact yr
     have H':=zz H
     clear H
     go_wp2
     go_roundg k2
     case measure=>have:=ag.out;have:=ak.out;omega
     case rel=>exact⟨(IntKind.u64.wrap ((Go.bits .xor .u64 ad (ad / 536870912))*11400714819323198485)),(wrap64 (ab+1)),zr,zr,H',⟨by have:=ag.out;have:=ak.out;omega⟩,yD0⟩
def impl_varint.l0:Nat→List Int→Int→Option (List Int)
 |0,_,_=>none
 |k+1,x0,x1=>if x1>127 then(if x0.length<140737488355328 then(impl_varint.l0 k (x0++[(Go.bits .or .i64 (Go.bits .and .i64 x1 127) 128) % 256]) (x1 / 128)) else(none)) else(if x0.length<140737488355328 then(some (x0++[(x1) % 256])) else(none))
def impl_varint.f(k:Nat)(l0:List Int)(a1:Int):Option (List Int):=impl_varint.l0 k l0 a1
theorem impl_varint.calls(k:Nat)(ab:Nat→Prop)(ag:Value)(l0:List Int)(a1:Int)(r:List Int)(w0 w:World)(hB:Below w0.heap.size w0 w)(av:Kd.R (Kd.int .u8) 5 w w0.heap.size ab ag l0)(h:impl_varint.f k l0 a1=some r):
 Calls Tryz.prog 177 #[ag,.int .i64 a1] w fun e w'=>∃an:Value,e= .returned (an)∧Kd.R (Kd.int .u8) 5 w' w0.heap.size (fun k_=>(ab k_∨w.heap.size≤k_)) an r∧Below w0.heap.size w0 w'∧Kept w w' (fun k_=>ab k_):=by
 have aw:=zz (show Kd.R (Kd.int .u8) 5 w w0.heap.size (fun k_=>(ab k_∨w.heap.size≤k_)) ag l0 from Kd.vC av (fun k_ hk=>(.inl hk)))
 have HK:=zz (Kept.refl w (fun k_=>ab k_))
 have aA:=zz hB.size
 have HB:=zz hB
 clear hB
 unfold impl_varint.f at h
 have H:=h
 clear h
 have H':=zz H
 clear H
 go_enter Tryz.func177,Tryz.ntmps177
 go_wp2
 go_loopg[0,1] k (fun kq v0 v1 w'=>∃(ac:List Int) (aa:Int),v1= .int .i64 aa∧qC (impl_varint.l0 kq ac aa=some r)∧qC (kq≤k)∧qC (Kd.R (Kd.int .u8) 5 w' w0.heap.size (fun k_=>(ab k_∨w.heap.size≤k_)) v0 ac)∧qC (Kept w w' (fun k_=>ab k_))∧qC (Below w0.heap.size w0 w'))
 case atStart=>exact⟨(l0),(a1),zr,H',⟨Nat.le_refl _⟩,⟨zR aw.out⟩,⟨by repeat(first|(with_reducible first|exact HK.out|apply Kept.alloc|apply Kept.drewN|apply Kept.drew)|exact HK.out)⟩,⟨zb⟩⟩
 case round=>
  clear H'
  try clear c1
  try clear p2
  obtain⟨ac,aa,rfl,HA,ao,af,HK,HB⟩:=hrel
  cases gk with
  |zero=>exact absurd HA.out (by simp[impl_varint.l0])
  |succ k1=>
   have H:=HA.out
   clear HA
   simp only[impl_varint.l0] at H
   refine yG H ?_ ?_<;>clear H<;>intro ax H
   ·replace H:=yA H
    obtain⟨c4,H⟩:=H
    have ap:=zz c4
    clear c4
    obtain⟨ai,ad⟩:∃y_:List Int,y_=(ac++[(Go.bits .or .i64 (Go.bits .and .i64 aa 127) 128) % 256]):=⟨_,rfl⟩
    replace H:(impl_varint.l0 k1 ai (aa / 128))=some r:=by first|(rw[ad];with_reducible exact H)|(have ah:=(Option.bind_some _ _).symm.trans H;rw[ad];with_reducible exact ah)|(have ah:=(Option.bind_some _ _).symm.trans H;with_reducible exact ah)|with_reducible exact H|(rw[ad];exact H)|exact H
    have aj:=zz ad
    clear ad
    have H':=zz H
    clear H
    go_wp2_with(first|((with_reducible refine qT (b:= .append) (xs:= #[.tmp 7,.tmp 12]) rfl ?_);at_builtin;refine Kd.R_append (Kd.int .u8) (w0:=w0) w0.heap.size rfl (.tmp 7) (.tmp 12) 153 5 (.int .u8 0) 1 rfl Tryz.underlying153 info5 rfl (by decide) (by omega) u0 ac ((Go.bits .or .i64 (Go.bits .and .i64 aa 127) 128) % 256) [.int .u8 ((Go.bits .or .i64 (Go.bits .and .i64 aa 127) 128) % 256)] (fun k_=>(ab k_∨w.heap.size≤k_)) (fun _=>False) rfl rfl ?aP (fun _ hk=>hk.elim) ?aF ?aO ?aB ?aS ?aL ?_;(case aP=>exact rfl);(case aB=>exact zb);(case aF=>exact(fun k_ hk=>(.inr (Nat.le_trans (by first|exact HK.out.1|exact(show Kept w _ (fun k_=>ab k_) from by repeat(first|(with_reducible first|exact HK.out|apply Kept.alloc|apply Kept.drewN|apply Kept.drew)|exact HK.out)).1) hk))));(case aO=>exact(zR af.out));(case aS=>exact(qF zb));(case aL=>have:=ap.out;omega);intro ay w5 ho hb hg hat;rw[←aj.out] at ho;replace HB:=zz (hb);replace HK:=zz (Kept.of_grown (S:=(fun k_=>ab k_)) hg (by repeat(first|(with_reducible first|exact HK.out|apply Kept.alloc|apply Kept.drewN|apply Kept.drew)|exact HK.out)) (fun k_ e_=>(af.out.1 k_ e_)));have ak:=zz (ho);clear af;clear ho hb hg hat))
    go_roundg k1
    case measure=>have:=ao.out;omega
    case rel=>exact⟨(ai),(aa / 128),zr,H',⟨by have:=ao.out;omega⟩,⟨zR ak.out⟩,⟨by repeat(first|(with_reducible first|exact HK.out|apply Kept.alloc|apply Kept.drewN|apply Kept.drew)|exact HK.out)⟩,⟨zb⟩⟩
   replace H:=yA H
   obtain⟨c6,H⟩:=H
   have ar:=zz c6
   clear c6
   obtain⟨au,ae⟩:∃y_:List Int,y_=(ac++[(aa) % 256]):=⟨_,rfl⟩
   replace H:(some au)=some r:=by first|(rw[ae];with_reducible exact H)|(have ah:=(Option.bind_some _ _).symm.trans H;rw[ae];with_reducible exact ah)|(have ah:=(Option.bind_some _ _).symm.trans H;with_reducible exact ah)|with_reducible exact H|(rw[ae];exact H)|exact H
   have al:=zz ae
   clear ae
   obtain rfl:=zi H
   go_wp2_with(first|((with_reducible refine qT (b:= .append) (xs:= #[.tmp 16,.tmp 19]) rfl ?_);at_builtin;refine Kd.R_append (Kd.int .u8) (w0:=w0) w0.heap.size rfl (.tmp 16) (.tmp 19) 153 5 (.int .u8 0) 1 rfl Tryz.underlying153 info5 rfl (by decide) (by omega) u0 ac ((aa) % 256) [.int .u8 ((aa) % 256)] (fun k_=>(ab k_∨w.heap.size≤k_)) (fun _=>False) rfl rfl ?aP (fun _ hk=>hk.elim) ?aF ?aO ?aB ?aS ?aL ?_;(case aP=>exact rfl);(case aB=>exact zb);(case aF=>exact(fun k_ hk=>(.inr (Nat.le_trans (by first|exact HK.out.1|exact(show Kept w _ (fun k_=>ab k_) from by repeat(first|(with_reducible first|exact HK.out|apply Kept.alloc|apply Kept.drewN|apply Kept.drew)|exact HK.out)).1) hk))));(case aO=>exact(zR af.out));(case aS=>exact(qF zb));(case aL=>have:=ar.out;omega);intro az w7 ho hb hg hat;rw[←al.out] at ho;replace HB:=zz (hb);replace HK:=zz (Kept.of_grown (S:=(fun k_=>ab k_)) hg (by repeat(first|(with_reducible first|exact HK.out|apply Kept.alloc|apply Kept.drewN|apply Kept.drew)|exact HK.out)) (fun k_ e_=>(af.out.1 k_ e_)));have am:=zz (ho);clear af;clear ho hb hg hat))
   go_ret
   exact⟨_,ze,zR am.out,zb,by repeat(first|(with_reducible first|exact HK.out|apply Kept.alloc|apply Kept.drewN|apply Kept.drew)|exact HK.out)⟩
def spec_l10Num.l0:Nat→List Int→Int→Option (List Int)
 |0,_,_=>none
 |k+1,x0,x1=>if x1≥128 then(if x0.length<140737488355328 then(spec_l10Num.l0 k (x0++[(wrap64 ((Int.tmod x1 128)+128)) % 256]) (wrap64 (Int.tdiv x1 128))) else(none)) else(if x0.length<140737488355328 then(some (x0++[(x1) % 256])) else(none))
def spec_l10Num.f(k:Nat)(l0:List Int)(a1:Int):Option (List Int):=spec_l10Num.l0 k l0 a1
theorem spec_l10Num.calls(k:Nat)(ab:Nat→Prop)(ag:Value)(l0:List Int)(a1:Int)(r:List Int)(w0 w:World)(hB:Below w0.heap.size w0 w)(av:Kd.R (Kd.int .u8) 5 w w0.heap.size ab ag l0)(h:spec_l10Num.f k l0 a1=some r):
 Calls Tryz.prog 189 #[ag,.int .i64 a1] w fun e w'=>∃an:Value,e= .returned (an)∧Kd.R (Kd.int .u8) 5 w' w0.heap.size (fun k_=>(ab k_∨w.heap.size≤k_)) an r∧Below w0.heap.size w0 w'∧Kept w w' (fun k_=>ab k_):=by
 have aw:=zz (show Kd.R (Kd.int .u8) 5 w w0.heap.size (fun k_=>(ab k_∨w.heap.size≤k_)) ag l0 from Kd.vC av (fun k_ hk=>(.inl hk)))
 have HK:=zz (Kept.refl w (fun k_=>ab k_))
 have aA:=zz hB.size
 have HB:=zz hB
 clear hB
 unfold spec_l10Num.f at h
 have H:=h
 clear h
 have H':=zz H
 clear H
 go_enter Tryz.func189,Tryz.ntmps189
 go_wp2
 go_loopg[0,1] k (fun kq v0 v1 w'=>∃(ac:List Int) (aa:Int),v1= .int .i64 aa∧qC (spec_l10Num.l0 kq ac aa=some r)∧qC (kq≤k)∧qC (Kd.R (Kd.int .u8) 5 w' w0.heap.size (fun k_=>(ab k_∨w.heap.size≤k_)) v0 ac)∧qC (Kept w w' (fun k_=>ab k_))∧qC (Below w0.heap.size w0 w'))
 case atStart=>exact⟨(l0),(a1),zr,H',⟨Nat.le_refl _⟩,⟨zR aw.out⟩,⟨by repeat(first|(with_reducible first|exact HK.out|apply Kept.alloc|apply Kept.drewN|apply Kept.drew)|exact HK.out)⟩,⟨zb⟩⟩
 case round=>
  clear H'
  try clear c1
  try clear p2
  obtain⟨ac,aa,rfl,HA,ao,af,HK,HB⟩:=hrel
  cases gk with
  |zero=>exact absurd HA.out (by simp[spec_l10Num.l0])
  |succ k1=>
   have H:=HA.out
   clear HA
   simp only[spec_l10Num.l0] at H
   refine yE H ?_ ?_<;>clear H<;>intro ax H
   ·replace H:=yA H
    obtain⟨c4,H⟩:=H
    have ap:=zz c4
    clear c4
    obtain⟨ai,ad⟩:∃y_:List Int,y_=(ac++[(wrap64 ((Int.tmod aa 128)+128)) % 256]):=⟨_,rfl⟩
    replace H:(spec_l10Num.l0 k1 ai (wrap64 (Int.tdiv aa 128)))=some r:=by first|(rw[ad];with_reducible exact H)|(have ah:=(Option.bind_some _ _).symm.trans H;rw[ad];with_reducible exact ah)|(have ah:=(Option.bind_some _ _).symm.trans H;with_reducible exact ah)|with_reducible exact H|(rw[ad];exact H)|exact H
    have aj:=zz ad
    clear ad
    have H':=zz H
    clear H
    go_wp2_with(first|((with_reducible refine qT (b:= .append) (xs:= #[.tmp 7,.tmp 12]) rfl ?_);at_builtin;refine Kd.R_append (Kd.int .u8) (w0:=w0) w0.heap.size rfl (.tmp 7) (.tmp 12) 153 5 (.int .u8 0) 1 rfl Tryz.underlying153 info5 rfl (by decide) (by omega) u0 ac ((wrap64 ((Int.tmod aa 128)+128)) % 256) [.int .u8 ((wrap64 ((Int.tmod aa 128)+128)) % 256)] (fun k_=>(ab k_∨w.heap.size≤k_)) (fun _=>False) rfl rfl ?aP (fun _ hk=>hk.elim) ?aF ?aO ?aB ?aS ?aL ?_;(case aP=>exact rfl);(case aB=>exact zb);(case aF=>exact(fun k_ hk=>(.inr (Nat.le_trans (by first|exact HK.out.1|exact(show Kept w _ (fun k_=>ab k_) from by repeat(first|(with_reducible first|exact HK.out|apply Kept.alloc|apply Kept.drewN|apply Kept.drew)|exact HK.out)).1) hk))));(case aO=>exact(zR af.out));(case aS=>exact(qF zb));(case aL=>have:=ap.out;omega);intro ay w5 ho hb hg hat;rw[←aj.out] at ho;replace HB:=zz (hb);replace HK:=zz (Kept.of_grown (S:=(fun k_=>ab k_)) hg (by repeat(first|(with_reducible first|exact HK.out|apply Kept.alloc|apply Kept.drewN|apply Kept.drew)|exact HK.out)) (fun k_ e_=>(af.out.1 k_ e_)));have ak:=zz (ho);clear af;clear ho hb hg hat))
    go_roundg k1
    case measure=>have:=ao.out;omega
    case rel=>exact⟨(ai),(wrap64 (Int.tdiv aa 128)),zr,H',⟨by have:=ao.out;omega⟩,⟨zR ak.out⟩,⟨by repeat(first|(with_reducible first|exact HK.out|apply Kept.alloc|apply Kept.drewN|apply Kept.drew)|exact HK.out)⟩,⟨zb⟩⟩
   replace H:=yA H
   obtain⟨c6,H⟩:=H
   have ar:=zz c6
   clear c6
   obtain⟨au,ae⟩:∃y_:List Int,y_=(ac++[(aa) % 256]):=⟨_,rfl⟩
   replace H:(some au)=some r:=by first|(rw[ae];with_reducible exact H)|(have ah:=(Option.bind_some _ _).symm.trans H;rw[ae];with_reducible exact ah)|(have ah:=(Option.bind_some _ _).symm.trans H;with_reducible exact ah)|with_reducible exact H|(rw[ae];exact H)|exact H
   have al:=zz ae
   clear ae
   obtain rfl:=zi H
   go_wp2_with(first|((with_reducible refine qT (b:= .append) (xs:= #[.tmp 16,.tmp 19]) rfl ?_);at_builtin;refine Kd.R_append (Kd.int .u8) (w0:=w0) w0.heap.size rfl (.tmp 16) (.tmp 19) 153 5 (.int .u8 0) 1 rfl Tryz.underlying153 info5 rfl (by decide) (by omega) u0 ac ((aa) % 256) [.int .u8 ((aa) % 256)] (fun k_=>(ab k_∨w.heap.size≤k_)) (fun _=>False) rfl rfl ?aP (fun _ hk=>hk.elim) ?aF ?aO ?aB ?aS ?aL ?_;(case aP=>exact rfl);(case aB=>exact zb);(case aF=>exact(fun k_ hk=>(.inr (Nat.le_trans (by first|exact HK.out.1|exact(show Kept w _ (fun k_=>ab k_) from by repeat(first|(with_reducible first|exact HK.out|apply Kept.alloc|apply Kept.drewN|apply Kept.drew)|exact HK.out)).1) hk))));(case aO=>exact(zR af.out));(case aS=>exact(qF zb));(case aL=>have:=ar.out;omega);intro az w7 ho hb hg hat;rw[←al.out] at ho;replace HB:=zz (hb);replace HK:=zz (Kept.of_grown (S:=(fun k_=>ab k_)) hg (by repeat(first|(with_reducible first|exact HK.out|apply Kept.alloc|apply Kept.drewN|apply Kept.drew)|exact HK.out)) (fun k_ e_=>(af.out.1 k_ e_)));have am:=zz (ho);clear af;clear ho hb hg hat))
   go_ret
   exact⟨_,ze,zR am.out,zb,by repeat(first|(with_reducible first|exact HK.out|apply Kept.alloc|apply Kept.drewN|apply Kept.drew)|exact HK.out)⟩
def Tight(w:World)(g:Nat)(xs:List Int):Prop:=∃cs e fr,w.heap[g]?=some (.cells cs e fr)∧cs.toList=xs.map (fun x=>Value.int .u8 x)
def RT(e base:Nat)(w:World)(v:Value)(xs:List Int):Prop:=Kd.R (Kd.int .u8) e w base (fun _=>True) v xs∨∃g,v= .slice (some ⟨g,0,none⟩) xs.length xs.length∧Tight w g xs
theorem Tight.cell{w:World}{g:Nat}{xs:List Int}(h:Tight w g xs):∀j u,(xs.map (fun x=>Value.int .u8 x))[j]?=some u→w.cell? ((⟨g,0,none⟩:Addr).add j)=some u:=by
 obtain⟨cs,e,fr,h1,h2⟩:=h
 intro j u hj
 have ha:(⟨g,0,none⟩:Addr).add j=⟨g,j,none⟩:=by unfold Addr.add;split<;>simp_all
 rw[←h2,Array.getElem?_toList] at hj
 rw[ha]
 simp[World.cell?,h1,hj]
theorem Tight.old{w w':World}{g:Nat}{xs:List Int}(h:Tight w g xs)(hw:w'.heap[g]?=w.heap[g]?):Tight w' g xs:=by
 obtain⟨cs,e,fr,h1,h2⟩:=h
 exact⟨cs,e,fr,hw.trans h1,h2⟩
theorem Tight.lt{w:World}{g:Nat}{xs:List Int}(h:Tight w g xs):g<w.heap.size:=by
 obtain⟨cs,e,fr,h1,h2⟩:=h
 exact(Array.getElem?_eq_some_iff.1 h1).1
section
variable {P : Program} {ops : Array Oper} {rest : List Oper} {o : Oper} {a : Act} {Q : Exit → Act → World → Prop}
theorem RT_append{w0 W:World}(base:Nat)(hgd:o.guard=none)(s x:Operand)(t e:TypeId)
 (ho:o.op= .call { callee:= .builtin .append,args:= #[s,x],argTypes:= #[t,t] })
 (ht:P.underlying t=some (.slice e)) (hinfo:(P.info? e).map (fun i=>(i.zero,i.size,i.bytes))=some (some (.int .u8 0),1,1))
 (v:Value) (xs:List Int) (p:Int) (hs:a.eval s=v) (hx:a.eval x= .slice (some ⟨W.heap.size,0,none⟩) 1 1)
 (HO:RT e base W v xs) (HB:Below base w0 W) (hbase:base≤W.heap.size) (hl:xs.length<140737488355328)
 (h:∀v1 w1,Kd.R (Kd.int .u8) e w1 base (fun _=>True) v1 (xs++[p])→Below base w0 w1→wpList P ops Q rest (a.put o.dst v1) w1):
 wpList P ops Q (o::rest) a (W.alloc (.cells #[.int .u8 p] e)):=by
 rcases HO with HO|⟨g,rfl,hT⟩
 ·exact Kd.R_append (Kd.int .u8) (w0:=w0) base hgd s x t e (.int .u8 0) 1 ho ht hinfo rfl (by decide) (by omega) v xs p [.int .u8 p] (fun _=>True) (fun _=>False) hs hx rfl (fun _ hk=>hk.elim) (fun _ _=>trivial) HO HB hbase (by omega) (fun v1 w1 h1 h2 _ _=>h v1 w1 h1 h2)
 ·obtain⟨i0,hi,hzz⟩:=Option.map_eq_some_iff.1 hinfo
  simp only[Prod.mk.injEq] at hzz
  obtain⟨hz0,hz1,hz2⟩:=hzz
  refine wpList_plain hgd fun K hK=>?_
  have hT':Tight (W.alloc (.cells #[.int .u8 p] e)) g xs:=hT.old (Below.heap_alloc W _ g hT.lt)
  have hr:=run_append_grow (P:=P) (W.alloc (.cells #[.int .u8 p] e)) t o.type e i0 (.int .u8 0) ht hi hz0 ⟨g,0,none⟩ xs.length xs.length (xs.map (fun x=>Value.int .u8 x)) (by rw[hz1];simp) hT'.cell ⟨W.heap.size,0,none⟩ 1 1 [.int .u8 p] (by rw[hz1];rfl)
   (by simpa using World.news_of_block (cs:= #[Value.int .u8 p]) (t:=e) (fr:=(0,0)) (heap_alloc_new W (.cells #[.int .u8 p] e))) (by omega) (by omega) (by rw[hz2];exact growslice_fits (by omega) (by omega))
  unfold Oper.wp execOp
  simp only[ho,resolve,invoke,builtin,Sem.run_bind,Sem.run_pure,Result.andThen_ok,List.map_toArray,List.map_cons,List.map_nil,hs,hx,hr]
  refine hK _ _ (h _ _ ?_ ?_)
  ·generalize hW2:(W.alloc (.cells #[.int .u8 p] e))=W2
   have hge:=grownCap_ge W2 (xs.length+1) xs.length e
   have hle:=grownCap_le_maxLen W2 (xs.length+1) xs.length e (by simp only[maxLen];omega)
   have hb2:base≤W2.heap.size:=by rw[←hW2];simp;omega
   refine Kd.R_of_own (enc:=Value.int .u8) ⟨by simp[encs],.inr ⟨W2.heap.size,_,_,by simp,hb2,heap_alloc_new W2.drew _,by simpa using hge,hle,?_,?_⟩⟩ (fun _ _=>trivial)
   ·simp[size_zeroCells,Value.cells];omega
   ·simp[encs]
    have e1:∀Z:List Value,List.map (fun x=>Value.int IntKind.u8 x) xs++Value.int IntKind.u8 p::Z=(List.map (fun x=>Value.int IntKind.u8 x) xs++[Value.int IntKind.u8 p])++Z:=fun Z=>by simp
    rw[e1,List.take_left' (by simp)]
  ·exact((HB.alloc hbase _).drew).alloc (by simp;omega) _
theorem lar_event{W:World}(hgd:o.guard=none){N:Tmp}(_hd:o.dst=some N){cs:Array Value}{t:TypeId}
 (hrun:(execOp a.eval o).run P W= .ok (.value (.slice (some ⟨W.heap.size,0,none⟩) cs.size cs.size)) (W.alloc (.cells cs t (0,0))))
 (h:∀g,W.heap.size≤g→∀w1,w1.heap[g]?=some (.cells cs t (0,0))→Below W.heap.size W w1→wpList P ops Q rest (a.put o.dst (.slice (some ⟨g,0,none⟩) cs.size cs.size)) w1):wpList P ops Q (o::rest) a W:=
 Kd.event_run hgd hrun (h _ (Nat.le_refl _) _ (blk_new W _) (qX (Below.refl _ _) _))
theorem mark_event{W:World}(hgd:o.guard=none){t e te:TypeId}{x:Operand}(ho:o.op= .convert t t x)(ht:P.underlying t=some (.slice e))(he:P.underlying e=some (.int .u8)){g n c:Nat}(hx:a.eval x= .slice (some ⟨g,0,none⟩) n c){cs:Array Value}(hb:W.heap[g]?=some (.cells cs te (0,0)))
 (h:∀w1,w1.heap[g]?=some (.cells cs te (cs.size,cs.size+1))→Below g W w1→wpList P ops Q rest (a.put o.dst (.slice (some ⟨g,0,none⟩) n c)) w1):wpList P ops Q (o::rest) a W:=by
 have hr:(execOp a.eval o).run P W= .ok (.value (.slice (some ⟨g,0,none⟩) n c)) (W.freeze ⟨g,cs.size,none⟩ 1):=by
  unfold execOp
  simp only[ho,hx,convert,Sem.run_bind,run_underlying ht,run_underlying he,Result.andThen_ok]
  simp[markStringish,World.shape?,hb]
 have hf:(W.freeze ⟨g,cs.size,none⟩ 1).heap=W.heap.modify g fun
  | .cells c elem (lo,hi)=> .cells c elem (if lo==hi then(cs.size,cs.size+1) else(min lo cs.size,max hi (cs.size+1)))
  |o=>o:=rfl
 refine Kd.event_run hgd hr (h _ ?_ ⟨rfl,rfl,rfl,?_,fun k hk=>?_⟩)
 ·rw[hf,Array.getElem?_modify,if_pos rfl,hb];rfl
 ·rw[hf];simp
 ·rw[hf,Array.getElem?_modify,if_neg (by omega)]
end
theorem spec_l10Num.lar(k:Nat)(u:Value)(l0:List Int)(a1:Int)(r:List Int)(w0 w:World)(hB:Below w0.heap.size w0 w)(ho0:RT 5 w0.heap.size w u l0)(h:spec_l10Num.f k l0 a1=some r):
 Calls Tryz.prog 189 #[u,.int .i64 a1] w fun e w'=>∃v0_:Value,e= .returned (v0_)∧Kd.R (Kd.int .u8) 5 w' w0.heap.size (fun _=>True) v0_ r∧Below w0.heap.size w0 w':=by
 have HO0:=qC.mk ho0
 have HB:=qC.mk hB
 clear hB ho0
 have H:(spec_l10Num.l0 k l0 a1)=some r:=h
 clear h
 have H':=qC.mk H
 clear H
 go_enter Tryz.func189,Tryz.ntmps189
 go_wp2
 go_loopg[0,1] k (fun kq v0 v1 w'=>∃(x0_1:List Int) (x1_1:Int),v1= .int .i64 x1_1∧qC (spec_l10Num.l0 kq x0_1 x1_1=some r)∧qC (kq≤k)∧qC (RT 5 w0.heap.size w' v0 x0_1)∧qC (Below w0.heap.size w0 w'))
 case atStart=>exact⟨l0,a1,by first|rfl|(simp;done),H',⟨Nat.le_refl _⟩,HO0,HB⟩
 case round=>
  clear H' HO0
  obtain⟨x0_1,x1_1,rfl,HA,HK1,HO_0,HB⟩:=hrel
  cases gk with
  |zero=>exact absurd HA.out (by simp[spec_l10Num.l0])
  |succ k1=>
   have H:=HA.out
   clear HA
   simp only[spec_l10Num.l0] at H
   by_cases c3:x1_1≥128
   ·rw[if_pos c3] at H
    have c3b0:decide (128≤x1_1)=true:=decide_eq_true c3
    clear c3
    by_cases c4:x0_1.length<140737488355328
    ·rw[if_pos c4] at H
     have LMc4:=qC.mk c4
     clear c4
     obtain⟨y1,hy1⟩:∃y_:List Int,y_=(x0_1++[(wrap64 ((Int.tmod x1_1 128)+128)) % 256]):=⟨_,rfl⟩
     rw[←hy1] at H
     have Ny1:=qC.mk hy1
     clear hy1
     have H':=qC.mk H
     clear H
     go_wp2_with(first|((with_reducible refine qT (b:= .append) (xs:= #[.tmp 7,.tmp 12]) rfl ?_);at_builtin;refine RT_append (w0:=w0) w0.heap.size rfl (.tmp 7) (.tmp 12) 153 5 rfl Tryz.underlying153 info5 u0 x0_1 ((wrap64 ((Int.tmod x1_1 128)+128)) % 256) rfl rfl HO_0.out HB.out (qF HB.out) LMc4.out ?_;intro v177 w5 ho hb;rw[←Ny1.out] at ho;have n0_:=qC.mk hb;have n2_:=qC.mk ho;clear HB HO_0;have HB:=n0_;have HO1:=n2_;clear n0_ n2_ ho hb))
     go_roundg k1
     case measure=>have:=HK1.out;omega
     case rel=>exact⟨y1,wrap64 (Int.tdiv x1_1 128),by first|rfl|(simp;done)|(simp[*];done),H',⟨by have:=HK1.out;omega⟩,⟨.inl HO1.out⟩,HB⟩
    ·rw[if_neg c4] at H
     exact absurd H (by simp)
   ·rw[if_neg c3] at H
    have c3b0:decide (128≤x1_1)=false:=decide_eq_false c3
    clear c3
    by_cases c6:x0_1.length<140737488355328
    ·rw[if_pos c6] at H
     have LMc6:=qC.mk c6
     clear c6
     obtain⟨y1,hy1⟩:∃y_:List Int,y_=(x0_1++[(x1_1) % 256]):=⟨_,rfl⟩
     rw[←hy1] at H
     have Ny1:=qC.mk hy1
     clear hy1
     obtain rfl:=Option.some.inj H
     go_wp2_with(first|((with_reducible refine qT (b:= .append) (xs:= #[.tmp 16,.tmp 19]) rfl ?_);at_builtin;refine RT_append (w0:=w0) w0.heap.size rfl (.tmp 16) (.tmp 19) 153 5 rfl Tryz.underlying153 info5 u0 x0_1 ((x1_1) % 256) rfl rfl HO_0.out HB.out (qF HB.out) LMc6.out ?_;intro v180 w7 ho hb;rw[←Ny1.out] at ho;have n0_:=qC.mk hb;have n2_:=qC.mk ho;clear HB HO_0;have HB:=n0_;have HO1:=n2_;clear n0_ n2_ ho hb))
     go_ret
     exact⟨_,by first|rfl|(simp[*];done),HO1.out,HB.out⟩
    ·rw[if_neg c6] at H
     exact absurd H (by simp)
theorem impl_varint.lar(k:Nat)(u:Value)(l0:List Int)(a1:Int)(r:List Int)(w0 w:World)(hB:Below w0.heap.size w0 w)(ho0:RT 5 w0.heap.size w u l0)(h:impl_varint.f k l0 a1=some r):
 Calls Tryz.prog 177 #[u,.int .i64 a1] w fun e w'=>∃v0_:Value,e= .returned (v0_)∧Kd.R (Kd.int .u8) 5 w' w0.heap.size (fun _=>True) v0_ r∧Below w0.heap.size w0 w':=by
 have HO0:=qC.mk ho0
 have HB:=qC.mk hB
 clear hB ho0
 have H:(impl_varint.l0 k l0 a1)=some r:=h
 clear h
 have H':=qC.mk H
 clear H
 go_enter Tryz.func177,Tryz.ntmps177
 go_wp2
 go_loopg[0,1] k (fun kq v0 v1 w'=>∃(x0_1:List Int) (x1_1:Int),v1= .int .i64 x1_1∧qC (impl_varint.l0 kq x0_1 x1_1=some r)∧qC (kq≤k)∧qC (RT 5 w0.heap.size w' v0 x0_1)∧qC (Below w0.heap.size w0 w'))
 case atStart=>exact⟨l0,a1,by first|rfl|(simp;done),H',⟨Nat.le_refl _⟩,HO0,HB⟩
 case round=>
  clear H' HO0
  obtain⟨x0_1,x1_1,rfl,HA,HK1,HO_0,HB⟩:=hrel
  cases gk with
  |zero=>exact absurd HA.out (by simp[impl_varint.l0])
  |succ k1=>
   have H:=HA.out
   clear HA
   simp only[impl_varint.l0] at H
   by_cases c3:x1_1>127
   ·rw[if_pos c3] at H
    have c3b0:decide (127<x1_1)=true:=decide_eq_true c3
    clear c3
    by_cases c4:x0_1.length<140737488355328
    ·rw[if_pos c4] at H
     have LMc4:=qC.mk c4
     clear c4
     obtain⟨y1,hy1⟩:∃y_:List Int,y_=(x0_1++[(Go.bits .or .i64 (Go.bits .and .i64 x1_1 127) 128) % 256]):=⟨_,rfl⟩
     rw[←hy1] at H
     have Ny1:=qC.mk hy1
     clear hy1
     have H':=qC.mk H
     clear H
     go_wp2_with(first|((with_reducible refine qT (b:= .append) (xs:= #[.tmp 7,.tmp 12]) rfl ?_);at_builtin;refine RT_append (w0:=w0) w0.heap.size rfl (.tmp 7) (.tmp 12) 153 5 rfl Tryz.underlying153 info5 u0 x0_1 ((Go.bits .or .i64 (Go.bits .and .i64 x1_1 127) 128) % 256) rfl rfl HO_0.out HB.out (qF HB.out) LMc4.out ?_;intro v177 w5 ho hb;rw[←Ny1.out] at ho;have n0_:=qC.mk hb;have n2_:=qC.mk ho;clear HB HO_0;have HB:=n0_;have HO1:=n2_;clear n0_ n2_ ho hb))
     go_roundg k1
     case measure=>have:=HK1.out;omega
     case rel=>exact⟨y1,x1_1 / 128,by first|rfl|(simp;done)|(simp[*];done),H',⟨by have:=HK1.out;omega⟩,⟨.inl HO1.out⟩,HB⟩
    ·rw[if_neg c4] at H
     exact absurd H (by simp)
   ·rw[if_neg c3] at H
    have c3b0:decide (127<x1_1)=false:=decide_eq_false c3
    clear c3
    by_cases c6:x0_1.length<140737488355328
    ·rw[if_pos c6] at H
     have LMc6:=qC.mk c6
     clear c6
     obtain⟨y1,hy1⟩:∃y_:List Int,y_=(x0_1++[(x1_1) % 256]):=⟨_,rfl⟩
     rw[←hy1] at H
     have Ny1:=qC.mk hy1
     clear hy1
     obtain rfl:=Option.some.inj H
     go_wp2_with(first|((with_reducible refine qT (b:= .append) (xs:= #[.tmp 16,.tmp 19]) rfl ?_);at_builtin;refine RT_append (w0:=w0) w0.heap.size rfl (.tmp 16) (.tmp 19) 153 5 rfl Tryz.underlying153 info5 u0 x0_1 ((x1_1) % 256) rfl rfl HO_0.out HB.out (qF HB.out) LMc6.out ?_;intro v180 w7 ho hb;rw[←Ny1.out] at ho;have n0_:=qC.mk hb;have n2_:=qC.mk ho;clear HB HO_0;have HB:=n0_;have HO1:=n2_;clear n0_ n2_ ho hb))
     go_ret
     exact⟨_,by first|rfl|(simp[*];done),HO1.out,HB.out⟩
    ·rw[if_neg c6] at H
     exact absurd H (by simp)
def impl_PackTree.l0:Nat→List Int→List (S87)→Int→Int→Option (List Int)
 |0,_,_,_,_=>none
 |k+1,x3,ab,ac,aa=>if aa<ac then(if 0≤aa then(if aa<(ab.length:Int) then(if(qA ab aa).f3=true then(if x3.length<140737488355328 then((impl_varint.f k (x3++[(((qA ab aa).f1)+16) % 256]) (((qA ab aa).f0).size:Int)).bind fun ad=>(if ad.length+((qA ab aa).f0).size<140737488355328 then((impl_varint.f k (ad++bytesOf ((qA ab aa).f0)) (((qA ab aa).f2).size:Int)).bind fun ae=>(if ae.length+((qA ab aa).f2).size<140737488355328 then(impl_PackTree.l0 k (ae++bytesOf ((qA ab aa).f2)) ab ac (wrap64 (aa+1))) else(none))) else(none))) else(none)) else(if x3.length<140737488355328 then((impl_varint.f k (x3++[((qA ab aa).f1) % 256]) (((qA ab aa).f0).size:Int)).bind fun af=>(if af.length+((qA ab aa).f0).size<140737488355328 then((impl_varint.f k (af++bytesOf ((qA ab aa).f0)) (((qA ab aa).f2).size:Int)).bind fun ag=>(if ag.length+((qA ab aa).f2).size<140737488355328 then(impl_PackTree.l0 k (ag++bytesOf ((qA ab aa).f2)) ab ac (wrap64 (aa+1))) else(none))) else(none))) else(none))) else(none)) else(none)) else(some x3)
def impl_PackTree.f(k:Nat)(l0:List (S87)):Option (List Int):=(impl_TreeOk.f k l0).bind fun aa=>(if aa=true then((impl_varint.f k (([76,65,82,49]:List Int)) (l0.length:Int)).bind fun ab=>(impl_PackTree.l0 k ab l0 (l0.length:Int) 0)) else(some ([]:List Int)))
def impl_PackTree.T10:Bool×List (List Nat×List Nat):=(true,[([],[]),([],[]),([1],[1]),([0,2],[0,2]),([],[]),([4],[4]),([5],[5]),([3,6,3],[3,6]),([],[]),([8],[8]),([7,9,7],[7,9]),([10,10,0,1,2,3,4,5,6,7,8,9,10],[0,10])])
def impl_PackTree.B10:List Nat:=[0,0,2,7,0,16,48,127,0,256,1023,2047]
theorem impl_PackTree.tab10:rtab .any (opsOf Tryz.f143 10)=impl_PackTree.T10:=by kernel_rfl
theorem impl_PackTree.bits10:waitsOk impl_PackTree.T10.2 impl_PackTree.B10=true:=by kernel_rfl
def impl_PackTree.T11:Bool×List (List Nat×List Nat):=(true,[([],[]),([],[]),([1],[1]),([2],[2]),([0,3],[0,3]),([],[]),([5],[5]),([4,6,4],[4,6]),([7,7,0,1,2,3,4,5,6,7],[0,7])])
def impl_PackTree.B11:List Nat:=[0,0,2,6,15,0,32,127,255]
theorem impl_PackTree.tab11:rtab .any (opsOf Tryz.f143 11)=impl_PackTree.T11:=by kernel_rfl
theorem impl_PackTree.bits11:waitsOk impl_PackTree.T11.2 impl_PackTree.B11=true:=by kernel_rfl
theorem impl_PackTree.calls(k:Nat)(A0:Option Addr)(c0:Nat)(l0:List (S87))(r:List Int)(w:World)(bS:Kd.C k87 w A0 l0.length l0)(bT:l0.length≤c0)(hG_:GOK w)(h:impl_PackTree.f k l0=some r):
 Calls Tryz.prog 143 #[.slice A0 l0.length c0] w fun e w'=>∃bU:Value,e= .returned (bU)∧Kd.R (Kd.int .u8) 5 w' w.heap.size (fun _=>True) bU r∧Below w.heap.size w w':=by
 have cN:=Tryz.underlying87
 have HG:=zz hG_
 clear hG_
 have bf:=zz bS
 have bV:=zz bT
 clear bS bT
 have HB:=yB w
 unfold impl_PackTree.f at h
 have H:=h
 clear h
 replace H:=zf H
 obtain⟨b6,bW,H⟩:=H
 try dsimp only at H
 have A2:=zz bW
 clear bW
 by_cases c3:b6=true
 case neg=>
  replace c3:=Bool.eq_false_iff.mpr c3
  subst c3
  rw[if_neg (show¬(false=true) by decide)] at H
  obtain rfl:=zi H
  go_enter Tryz.func143,Tryz.ntmps143
  go_wp2_with(first|(refine zL 82 8 Tryz.func82 #[.slice A0 l0.length c0] ?_;(with_reducible refine(impl_TreeOk.calls k _ _ l0 false _ ?s1 ?s2 ?s3 A2.out).mono ?_);(case s1=>exact zd bf.out);(case s2=>exact bV.out);(case s3=>exact zG);rintro e cR ⟨rfl,hb⟩;refine⟨_,rfl,?_⟩;replace HB:=zz (zv zb hb);(try clear hb);(try clear cA);(try clear hk);(try clear hi)))
  go_ret
  exact⟨_,ze,by first|exact Kd.R_nil _ _ _ _ _|exact Kd.N_nil _ _ _ _ _|exact Kd.V_nil _ _ _ _ _|exact Kd.Q_nil _ _ _ _ _|exact Kd.S_nil _ _ _ _ _,zb⟩
 subst c3
 rw[if_pos rfl] at H
 obtain⟨a2,ay⟩:∃y_:List Int,y_=(([76,65,82,49]:List Int)):=⟨_,rfl⟩
 replace H:((impl_varint.f k a2 (l0.length:Int)).bind fun a3=>(impl_PackTree.l0 k a3 l0 (l0.length:Int) 0))=some r:=by first|(rw[ay];with_reducible exact H)|(have ae:=(Option.bind_some _ _).symm.trans H;rw[ay];with_reducible exact ae)|(have ae:=(Option.bind_some _ _).symm.trans H;with_reducible exact ae)|with_reducible exact H|(rw[ay];exact H)|exact H
 have bA:=zz ay
 clear ay
 replace H:=zf H
 obtain⟨a3,bX,H⟩:=H
 try dsimp only at H
 have A4:=zz bX
 clear bX
 have H':=zz H
 clear H
 go_enter Tryz.func143,Tryz.ntmps143
 go_wp2_with(first|(refine zL 82 8 Tryz.func82 #[.slice A0 l0.length c0] ?_;(with_reducible refine(impl_TreeOk.calls k _ _ l0 true _ ?s1 ?s2 ?s3 A2.out).mono ?_);(case s1=>exact zd bf.out);(case s2=>exact bV.out);(case s3=>exact zG);rintro e w5 ⟨rfl,hb⟩;refine⟨_,rfl,?_⟩;replace HB:=zz (zv zb hb);(try clear hb);(try clear cA);(try clear hk);(try clear hi))|(refine zN 10 ?_;refine lar_event ?hg (N:=10) ?hd (cs:= #[.int .u8 76,.int .u8 65,.int .u8 82,.int .u8 49]) (t:=5) ?hr ?_;(case hd=>rfl);(case hg=>rfl);(case hr=>first|(go_simp;done)|(go_simp;rfl));intro gl hgl w6 hlb hb;have ak:=zz (zv zb hb);have b7:=zz (Nat.le_trans (qF zb) hgl);have bl:=zz hlb;clear HB hb hgl hlb;have HB:=ak;clear ak)|(refine zN 11 ?_;refine mark_event rfl rfl Tryz.underlying153 Tryz.underlying5 (g:=gl) rfl bl.out ?_;intro w7 hlc hb;have ak:=zz (HB.out.trans (hb.mono b7.out));have hT:=zz (show RT 5 w.heap.size w7 (.slice (some ⟨gl,0,none⟩) 4 4) a2 by rw[bA.out];exact .inr ⟨gl,rfl,_,_,_,hlc,rfl⟩);clear HB hb hlc bl;have HB:=ak;clear ak)|(refine zL 177 14 Tryz.func177 #[.slice (some ⟨gl,0,none⟩) 4 4,.int .i64 (l0.length:Int)] ?_;(with_reducible refine(impl_varint.lar k _ a2 _ _ w _ HB.out hT.out A4.out).mono ?_);rintro e w9 ⟨cO,rfl,af,hb⟩;refine⟨_,rfl,?_⟩;have ax:=zz af;have ak:=zz hb;clear HB;have bB:=ax;have HB:=ak;clear ax ak hb af))
 go_loopg[3,17] k (fun kq v3 cB w'=>∃(ag:List Int) (aa:Int),cB= .int .i64 aa∧qC (impl_PackTree.l0 kq ag l0 (l0.length:Int) aa=some r)∧qC (kq≤k)∧qC (Kd.R (Kd.int .u8) 5 w' w.heap.size (fun _=>True) v3 ag)∧qC (Below w.heap.size w w'))
 case atStart=>exact⟨(a3),(0),zr,H',⟨Nat.le_refl _⟩,⟨zR bB.out⟩,⟨zb⟩⟩
 case round=>
  clear H'
  try clear c1
  try clear p2
  try clear c3
  try clear c8
  obtain⟨ag,aa,rfl,HA,bg,ad,HB⟩:=hrel
  cases gk with
  |zero=>exact absurd HA.out (by simp[impl_PackTree.l0])
  |succ k1=>
   have H:=HA.out
   clear HA
   simp only[impl_PackTree.l0] at H
   refine yDn H ?_ ?_<;>clear H<;>intro cK H
   ·obtain rfl:=zi H
    go_wp2
    go_ret
    exact⟨_,ze,zR ad.out,zb⟩
   replace H:=yAD H
   obtain⟨cL,H⟩:=H
   replace H:=yAD H
   obtain⟨cM,H⟩:=H
   obtain⟨bn,aX⟩:∃b_:Bool,b_=((qA l0 aa).f3):=⟨_,rfl⟩
   replace H:(if bn=true then(if ag.length<140737488355328 then((impl_varint.f k1 (ag++[(((qA l0 aa).f1)+16) % 256]) (((qA l0 aa).f0).size:Int)).bind fun ao=>(if ao.length+((qA l0 aa).f0).size<140737488355328 then((impl_varint.f k1 (ao++bytesOf ((qA l0 aa).f0)) (((qA l0 aa).f2).size:Int)).bind fun ai=>(if ai.length+((qA l0 aa).f2).size<140737488355328 then(impl_PackTree.l0 k1 (ai++bytesOf ((qA l0 aa).f2)) l0 (l0.length:Int) (wrap64 (aa+1))) else(none))) else(none))) else(none)) else(if ag.length<140737488355328 then((impl_varint.f k1 (ag++[((qA l0 aa).f1) % 256]) (((qA l0 aa).f0).size:Int)).bind fun ap=>(if ap.length+((qA l0 aa).f0).size<140737488355328 then((impl_varint.f k1 (ap++bytesOf ((qA l0 aa).f0)) (((qA l0 aa).f2).size:Int)).bind fun aj=>(if aj.length+((qA l0 aa).f2).size<140737488355328 then(impl_PackTree.l0 k1 (aj++bytesOf ((qA l0 aa).f2)) l0 (l0.length:Int) (wrap64 (aa+1))) else(none))) else(none))) else(none)))=some r:=by rw[←aX] at H;exact H
   have aK:=zz aX
   clear aX
   by_cases bh:bn=true
   ·subst bh
    rw[if_pos rfl] at H
    replace H:=yA H
    obtain⟨bY,H⟩:=H
    have bC:=zz bY
    clear bY
    obtain⟨aQ,az⟩:∃y_:List Int,y_=(ag++[(((qA l0 aa).f1)+16) % 256]):=⟨_,rfl⟩
    replace H:((impl_varint.f k1 aQ (((qA l0 aa).f0).size:Int)).bind fun ao=>(if ao.length+((qA l0 aa).f0).size<140737488355328 then((impl_varint.f k1 (ao++bytesOf ((qA l0 aa).f0)) (((qA l0 aa).f2).size:Int)).bind fun ai=>(if ai.length+((qA l0 aa).f2).size<140737488355328 then(impl_PackTree.l0 k1 (ai++bytesOf ((qA l0 aa).f2)) l0 (l0.length:Int) (wrap64 (aa+1))) else(none))) else(none)))=some r:=by first|(rw[az];with_reducible exact H)|(have ae:=(Option.bind_some _ _).symm.trans H;rw[az];with_reducible exact ae)|(have ae:=(Option.bind_some _ _).symm.trans H;with_reducible exact ae)|with_reducible exact H|(rw[az];exact H)|exact H
    have bD:=zz az
    clear az
    replace H:=zf H
    obtain⟨ao,bo,H⟩:=H
    try dsimp only at H
    have cC:=zz bo
    clear bo
    replace H:=yA H
    obtain⟨bZ,H⟩:=H
    have bE:=zz bZ
    clear bZ
    obtain⟨aI,aA⟩:∃y_:List Int,y_=(ao++bytesOf ((qA l0 aa).f0)):=⟨_,rfl⟩
    replace H:((impl_varint.f k1 aI (((qA l0 aa).f2).size:Int)).bind fun ai=>(if ai.length+((qA l0 aa).f2).size<140737488355328 then(impl_PackTree.l0 k1 (ai++bytesOf ((qA l0 aa).f2)) l0 (l0.length:Int) (wrap64 (aa+1))) else(none)))=some r:=by first|(rw[aA];with_reducible exact H)|(have ae:=(Option.bind_some _ _).symm.trans H;rw[aA];with_reducible exact ae)|(have ae:=(Option.bind_some _ _).symm.trans H;with_reducible exact ae)|with_reducible exact H|(rw[aA];exact H)|exact H
    have bF:=zz aA
    clear aA
    replace H:=zf H
    obtain⟨ai,bq,H⟩:=H
    try dsimp only at H
    have cD:=zz bq
    clear bq
    replace H:=yA H
    obtain⟨b0,H⟩:=H
    have bG:=zz b0
    clear b0
    obtain⟨a4,aC⟩:∃y_:List Int,y_=(ai++bytesOf ((qA l0 aa).f2)):=⟨_,rfl⟩
    replace H:(impl_PackTree.l0 k1 a4 l0 (l0.length:Int) (wrap64 (aa+1)))=some r:=by first|(rw[aC];with_reducible exact H)|(have ae:=(Option.bind_some _ _).symm.trans H;rw[aC];with_reducible exact ae)|(have ae:=(Option.bind_some _ _).symm.trans H;with_reducible exact ae)|with_reducible exact H|(rw[aC];exact H)|exact H
    have bH:=zz aC
    clear aC
    have H':=zz H
    clear H
    have b8:=yt (0≤(aa:Int))
    have b9:=yt (aa<(l0.length:Int))
    obtain⟨bI,a5,al,am,an,ah⟩:=at_T87 bf.out aa z2 z2
    (try rw[←aK.out] at ah);(try rw[←aK.out] at bk)
    cases a5
    replace al:=z3 HB.out al
    replace am:=z3 HB.out am
    replace an:=z3 HB.out an
    replace ah:=z3 HB.out ah
    try go_wp2_with(first|(refine zX 5 87 #[.string (⟨#[]⟩:ByteArray),.int .i64 0,.string (⟨#[]⟩:ByteArray),.bool false] ?_;intro ac hg bi hbox hb;replace ad:=zz (Kd.R_below (zR ad.out) hb);have ab:=zz (hbox);have bJ:=zz ((zg:w.heap.size≤ac));have aD:=zz ((zg:w.heap.size≤ac));replace HB:=zz (zv zb hb);clear hb hbox hg;obtain⟨ci,cj,ck,cm,cn,co,cp,cq⟩:=zc4 ab.out))
    have ax:qC (Kd.R (Kd.int .u8) 5 ((((bi.setCell ⟨ac,0,none⟩ (.string ((qA l0 aa).f0))).setCell ⟨ac,1,none⟩ (.int .i64 ((qA l0 aa).f1))).setCell ⟨ac,2,none⟩ (.string ((qA l0 aa).f2))).setCell ⟨ac,3,none⟩ (.bool true)) w.heap.size (fun _=>True) u3 ag):=⟨yV (Kd.R_types ad.out ab.out (by decide))⟩
    have ak:qC (((((bi.setCell ⟨ac,0,none⟩ (.string ((qA l0 aa).f0))).setCell ⟨ac,1,none⟩ (.int .i64 ((qA l0 aa).f1))).setCell ⟨ac,2,none⟩ (.string ((qA l0 aa).f2))).setCell ⟨ac,3,none⟩ (.bool true)).heap[ac]?=some (.cells #[.string ((qA l0 aa).f0),.int .i64 ((qA l0 aa).f1),.string ((qA l0 aa).f2),.bool true] 87 (0,0))):=⟨yP ab.out⟩
    have aR:qC (Below w.heap.size w ((((bi.setCell ⟨ac,0,none⟩ (.string ((qA l0 aa).f0))).setCell ⟨ac,1,none⟩ (.int .i64 ((qA l0 aa).f1))).setCell ⟨ac,2,none⟩ (.string ((qA l0 aa).f2))).setCell ⟨ac,3,none⟩ (.bool true))):=⟨zb⟩
    (try clear ad)
    (try clear ab)
    (try clear HB)
    generalize((((bi.setCell ⟨ac,0,none⟩ (.string ((qA l0 aa).f0))).setCell ⟨ac,1,none⟩ (.int .i64 ((qA l0 aa).f1))).setCell ⟨ac,2,none⟩ (.string ((qA l0 aa).f2))).setCell ⟨ac,3,none⟩ (.bool true))=cE at ax ak aR⊢
    have ad:=ax
    have ab:=ak
    have HB:=aR
    clear ax ak aR
    replace ad:=zz (Kd.R_drew ad.out)
    replace ab:=zz (blk_drew ab.out)
    replace HB:=zz (qK HB.out)
    refine start_ (n:=12) (S:=fun w'=>w'.cell? ⟨ac,0,none⟩=some (.string ((qA l0 aa).f0))∧w'.cell? ⟨ac,1,none⟩=some (.int .i64 ((qA l0 aa).f1))∧w'.cell? ⟨ac,2,none⟩=some (.string ((qA l0 aa).f2))∧w'.cell? ⟨ac,3,none⟩=some (.bool true)) (ds:=[]) (bp 0 12) zk rfl rfl (zy4 ab.out) (fun hHeld=>?_);refine with_tabW impl_PackTree.tab10 impl_PackTree.bits10 (fun HT_ HW_=>?_)
    generalize cE.drew=cS at ad ab HB hHeld⊢
    refine zp 0 28 (bp 1 11) ?_
    refine zp 1 29 (bp 2 10) ?_
    refine zp 4 32 (bm 12 19) ?_
    refine zp 8 36 (bm 12 275) ?_
    refine zt 5 33 (bm 12 307) ?_
    refine zp 6 34 (bm 12 371) ?_
    refine zt 9 37 (bm 12 883) ?_
    refine zo 2 30 (bm 12 887) fun K hK=>?_
    refine value_ (w1:=?_) (v:=?_) (by rfl) rfl ?_ ?_
    rotate_left 2
    ·go_simp
     constructor
     ·rfl
     ·rfl
    refine hK.out _ _ ⟨(qL (blk_alloc ab.out _) 0).trans rfl,(qL (blk_alloc ab.out _) 1).trans rfl,(qL (blk_alloc ab.out _) 2).trans rfl,(qL (blk_alloc ab.out _) 3).trans rfl⟩ (fun hHeld=>?_)
    clear hK K
    refine zn 30 ?_
    refine zo 3 31 (bm 12 895) fun K hK=>?_
    refine Kd.R_append_step (Kd.int .u8) (w0:=w) w.heap.size (by rfl) (.tmp 28) (.tmp 30) 153 5 (.int .u8 0) 1 rfl Tryz.underlying153 info5 rfl (by decide) (by omega) u3 ag ((((qA l0 aa).f1)+16) % 256) [.int .u8 ((((qA l0 aa).f1)+16) % 256)] (fun _=>True) (fun _=>False) rfl rfl ?aP (fun _ hk=>hk.elim) ?aF ?aO ?aB ?aS ?aL ?_
    (case aP=>exact rfl)
    (case aB=>exact zb)
    (case aF=>exact(fun _ _=>trivial))
    (case aO=>exact(zR ad.out))
    (case aS=>exact(qF zb))
    (case aL=>have:=bC.out;omega)
    intro cP cT ho hb hg hat
    rw[←bD.out] at ho
    replace ab:=zz (zK ab hg (Kd.R_ne ad.out ab.out (by decide)))
    replace HB:=zz (hb)
    have aM:=zz (ho)
    clear ad
    clear ho hb hg hat
    obtain⟨a6,a7,br⟩:=Kd.qZ aM.out
    (first|subst br|(injection br with av aT aw;have aU:=av.symm;have aV:=aw.symm;clear av aT aw;subst aU;subst aV))
    refine hK.out _ _ (zy4 ab.out) (fun hHeld=>?_)
    clear hK K
    refine zn 31 ?_
    refine zo 7 35 (bp 10 2) fun K hK=>?_
    refine zh Tryz.func177 #[.slice a6 aQ.length a7,.int .i64 (((qA l0 aa).f0).size:Int)] ?_
    with_reducible refine(impl_varint.calls k1 (fun k_=>some k_=(.slice a6 aQ.length a7:Value).ownBlock) (.slice a6 aQ.length a7) aQ (((qA l0 aa).f0).size:Int) ao w _ ?s1 ?s2 cC.out).mono ?_
    (case s1=>repeat(first|(with_reducible first|exact HB.out|apply qX|apply qW|apply qK|refine qJ ?_ aD.out)|exact HB.out))
    (case s2=>exact Kd.R_tight rfl aM.out)
    rintro e cU ⟨ca,rfl,af,hb,hkp⟩
    refine⟨_,rfl,?_⟩
    replace ab:=zz (blk_kept (zB ab.out) hkp (fun hs_=>(fun e_=>(Kd.R_ne aM.out ab.out (by decide)) e_) hs_))
    have aY:=zz (Kd.vC (ok':=fun k_=>True) af (fun k_ hk_=>trivial))
    replace HB:=zz (hb)
    clear aM
    (try clear hb)
    (try clear hkp)
    (try clear af)
    refine hK.out _ _ (zy4 ab.out) (fun hHeld=>?_)
    clear hK K
    refine zn 35 ?_
    refine zo 10 38 (bp 11 1) fun K hK=>?_
    refine print_append_str_step (w0:=w) w.heap.size (by rfl) (.tmp 35) _ 153 9 5 rfl Tryz.underlying153 Tryz.underlying9 info5 ca ao ((qA l0 aa).f0) rfl rfl ?aO ?aB ?aS ?aL ?_
    (case aB=>exact zb)
    (case aO=>exact(Kd.own_of_R (zR aY.out)))
    (case aS=>exact(qF zb))
    (case aL=>have:=bE.out;omega)
    intro cb b1 af hb hg
    have ho:=Kd.R_of_own (h1:=fun _=>rfl) (ok:=fun _=>True) af (fun _ _=>trivial)
    clear af
    have hat:=True.intro
    rw[←bF.out] at ho
    change Kd.R (Kd.int .u8) 5 b1 w.heap.size (fun _=>True) cb aI at ho
    replace ab:=zz (zK ab hg (Kd.R_ne aY.out ab.out (by decide)))
    replace HB:=zz (hb)
    have ar:=zz (ho)
    clear aY
    clear ho hb hg hat
    refine hK.out _ _ (zy4 ab.out) (fun hHeld=>?_)
    clear hK K
    refine zn 38 ?_
    refine zp 11 3 (bp 12 0) ?_
    refine done_ (done_of HT_.out zk) ?_
    try go_wp2
    replace ar:=zz (Kd.R_drew ar.out)
    replace ab:=zz (blk_drew ab.out)
    replace HB:=zz (qK HB.out)
    obtain⟨a8,a9,bs⟩:=Kd.qZ ar.out
    (first|subst bs|(injection bs with av aT aw;have aU:=av.symm;have aV:=aw.symm;clear av aT aw;subst aU;subst aV))
    refine start_ (n:=9) (S:=fun w'=>w'.cell? ⟨ac,0,none⟩=some (.string ((qA l0 aa).f0))∧w'.cell? ⟨ac,1,none⟩=some (.int .i64 ((qA l0 aa).f1))∧w'.cell? ⟨ac,2,none⟩=some (.string ((qA l0 aa).f2))∧w'.cell? ⟨ac,3,none⟩=some (.bool true)) (ds:=[]) (bp 0 9) zk rfl rfl (zy4 ab.out) (fun hHeld=>?_);refine with_tabW impl_PackTree.tab11 impl_PackTree.bits11 (fun HT_ HW_=>?_)
    generalize b1.drew=cV at ar ab HB hHeld⊢
    refine zp 0 39 (bp 1 8) ?_
    refine zp 1 40 (bp 2 7) ?_
    refine zp 5 44 (bm 9 35) ?_
    refine zt 2 41 (bm 9 39) ?_
    refine zp 3 42 (bm 9 47) ?_
    refine zt 6 45 (bm 9 111) ?_
    refine zo 4 43 (bp 7 2) fun K hK=>?_
    refine zh Tryz.func177 #[.slice a8 aI.length a9,.int .i64 (((qA l0 aa).f2).size:Int)] ?_
    with_reducible refine(impl_varint.calls k1 (fun k_=>some k_=(.slice a8 aI.length a9:Value).ownBlock) (.slice a8 aI.length a9) aI (((qA l0 aa).f2).size:Int) ai w _ ?s1 ?s2 cD.out).mono ?_
    (case s1=>repeat(first|(with_reducible first|exact HB.out|apply qX|apply qW|apply qK|refine qJ ?_ aD.out)|exact HB.out))
    (case s2=>exact Kd.R_tight rfl ar.out)
    rintro e cW ⟨cc,rfl,af,hb,hkp⟩
    refine⟨_,rfl,?_⟩
    replace ab:=zz (blk_kept (zB ab.out) hkp (fun hs_=>(fun e_=>(Kd.R_ne ar.out ab.out (by decide)) e_) hs_))
    have aZ:=zz (Kd.vC (ok':=fun k_=>True) af (fun k_ hk_=>trivial))
    replace HB:=zz (hb)
    clear ar
    (try clear hb)
    (try clear hkp)
    (try clear af)
    refine hK.out _ _ (zy4 ab.out) (fun hHeld=>?_)
    clear hK K
    refine zn 43 ?_
    refine zo 7 46 (bp 8 1) fun K hK=>?_
    refine print_append_str_step (w0:=w) w.heap.size (by rfl) (.tmp 43) _ 153 9 5 rfl Tryz.underlying153 Tryz.underlying9 info5 cc ai ((qA l0 aa).f2) rfl rfl ?aO ?aB ?aS ?aL ?_
    (case aB=>exact zb)
    (case aO=>exact(Kd.own_of_R (zR aZ.out)))
    (case aS=>exact(qF zb))
    (case aL=>have:=bG.out;omega)
    intro cd cF af hb hg
    have ho:=Kd.R_of_own (h1:=fun _=>rfl) (ok:=fun _=>True) af (fun _ _=>trivial)
    clear af
    have hat:=True.intro
    rw[←bH.out] at ho
    change Kd.R (Kd.int .u8) 5 cF w.heap.size (fun _=>True) cd a4 at ho
    replace ab:=zz (zK ab hg (Kd.R_ne aZ.out ab.out (by decide)))
    replace HB:=zz (hb)
    have bK:=zz (ho)
    clear aZ
    clear ho hb hg hat
    refine hK.out _ _ (zy4 ab.out) (fun hHeld=>?_)
    clear hK K
    refine zn 46 ?_
    refine zp 8 3 (bp 9 0) ?_
    refine done_ (done_of HT_.out zk) ?_
    try go_wp2
    go_roundg k1
    case measure=>have:=bg.out;omega
    case rel=>exact⟨(a4),(wrap64 (aa+1)),zr,H',⟨by have:=bg.out;omega⟩,⟨zR bK.out⟩,⟨zb⟩⟩
   replace bh:=Bool.eq_false_iff.mpr bh
   subst bh
   rw[if_neg (show¬(false=true) by decide)] at H
   replace H:=yA H
   obtain⟨b2,H⟩:=H
   have bL:=zz b2
   clear b2
   obtain⟨aW,aE⟩:∃y_:List Int,y_=(ag++[((qA l0 aa).f1) % 256]):=⟨_,rfl⟩
   replace H:((impl_varint.f k1 aW (((qA l0 aa).f0).size:Int)).bind fun ap=>(if ap.length+((qA l0 aa).f0).size<140737488355328 then((impl_varint.f k1 (ap++bytesOf ((qA l0 aa).f0)) (((qA l0 aa).f2).size:Int)).bind fun aj=>(if aj.length+((qA l0 aa).f2).size<140737488355328 then(impl_PackTree.l0 k1 (aj++bytesOf ((qA l0 aa).f2)) l0 (l0.length:Int) (wrap64 (aa+1))) else(none))) else(none)))=some r:=by first|(rw[aE];with_reducible exact H)|(have ae:=(Option.bind_some _ _).symm.trans H;rw[aE];with_reducible exact ae)|(have ae:=(Option.bind_some _ _).symm.trans H;with_reducible exact ae)|with_reducible exact H|(rw[aE];exact H)|exact H
   have bM:=zz aE
   clear aE
   replace H:=zf H
   obtain⟨ap,bu,H⟩:=H
   try dsimp only at H
   have cG:=zz bu
   clear bu
   replace H:=yA H
   obtain⟨b3,H⟩:=H
   have bN:=zz b3
   clear b3
   obtain⟨aJ,aG⟩:∃y_:List Int,y_=(ap++bytesOf ((qA l0 aa).f0)):=⟨_,rfl⟩
   replace H:((impl_varint.f k1 aJ (((qA l0 aa).f2).size:Int)).bind fun aj=>(if aj.length+((qA l0 aa).f2).size<140737488355328 then(impl_PackTree.l0 k1 (aj++bytesOf ((qA l0 aa).f2)) l0 (l0.length:Int) (wrap64 (aa+1))) else(none)))=some r:=by first|(rw[aG];with_reducible exact H)|(have ae:=(Option.bind_some _ _).symm.trans H;rw[aG];with_reducible exact ae)|(have ae:=(Option.bind_some _ _).symm.trans H;with_reducible exact ae)|with_reducible exact H|(rw[aG];exact H)|exact H
   have bO:=zz aG
   clear aG
   replace H:=zf H
   obtain⟨aj,bv,H⟩:=H
   try dsimp only at H
   have cH:=zz bv
   clear bv
   replace H:=yA H
   obtain⟨b4,H⟩:=H
   have bP:=zz b4
   clear b4
   obtain⟨ba,aH⟩:∃y_:List Int,y_=(aj++bytesOf ((qA l0 aa).f2)):=⟨_,rfl⟩
   replace H:(impl_PackTree.l0 k1 ba l0 (l0.length:Int) (wrap64 (aa+1)))=some r:=by first|(rw[aH];with_reducible exact H)|(have ae:=(Option.bind_some _ _).symm.trans H;rw[aH];with_reducible exact ae)|(have ae:=(Option.bind_some _ _).symm.trans H;with_reducible exact ae)|with_reducible exact H|(rw[aH];exact H)|exact H
   have bQ:=zz aH
   clear aH
   have H':=zz H
   clear H
   have b8:=yt (0≤(aa:Int))
   have b9:=yt (aa<(l0.length:Int))
   obtain⟨bI,a5,al,am,an,ah⟩:=at_T87 bf.out aa z2 z2
   (try rw[←aK.out] at ah);(try rw[←aK.out] at bk)
   cases a5
   replace al:=z3 HB.out al
   replace am:=z3 HB.out am
   replace an:=z3 HB.out an
   replace ah:=z3 HB.out ah
   try go_wp2_with(first|(refine zX 5 87 #[.string (⟨#[]⟩:ByteArray),.int .i64 0,.string (⟨#[]⟩:ByteArray),.bool false] ?_;intro ac hg bj hbox hb;replace ad:=zz (Kd.R_below (zR ad.out) hb);have ab:=zz (hbox);have bJ:=zz ((zg:w.heap.size≤ac));have aD:=zz ((zg:w.heap.size≤ac));replace HB:=zz (zv zb hb);clear hb hbox hg;obtain⟨cr,ct,cu,cv,cw,cx,cy,cz⟩:=zc4 ab.out))
   have ax:qC (Kd.R (Kd.int .u8) 5 ((((bj.setCell ⟨ac,0,none⟩ (.string ((qA l0 aa).f0))).setCell ⟨ac,1,none⟩ (.int .i64 ((qA l0 aa).f1))).setCell ⟨ac,2,none⟩ (.string ((qA l0 aa).f2))).setCell ⟨ac,3,none⟩ (.bool false)) w.heap.size (fun _=>True) u3 ag):=⟨yV (Kd.R_types ad.out ab.out (by decide))⟩
   have ak:qC (((((bj.setCell ⟨ac,0,none⟩ (.string ((qA l0 aa).f0))).setCell ⟨ac,1,none⟩ (.int .i64 ((qA l0 aa).f1))).setCell ⟨ac,2,none⟩ (.string ((qA l0 aa).f2))).setCell ⟨ac,3,none⟩ (.bool false)).heap[ac]?=some (.cells #[.string ((qA l0 aa).f0),.int .i64 ((qA l0 aa).f1),.string ((qA l0 aa).f2),.bool false] 87 (0,0))):=⟨yP ab.out⟩
   have aR:qC (Below w.heap.size w ((((bj.setCell ⟨ac,0,none⟩ (.string ((qA l0 aa).f0))).setCell ⟨ac,1,none⟩ (.int .i64 ((qA l0 aa).f1))).setCell ⟨ac,2,none⟩ (.string ((qA l0 aa).f2))).setCell ⟨ac,3,none⟩ (.bool false))):=⟨zb⟩
   (try clear ad)
   (try clear ab)
   (try clear HB)
   generalize((((bj.setCell ⟨ac,0,none⟩ (.string ((qA l0 aa).f0))).setCell ⟨ac,1,none⟩ (.int .i64 ((qA l0 aa).f1))).setCell ⟨ac,2,none⟩ (.string ((qA l0 aa).f2))).setCell ⟨ac,3,none⟩ (.bool false))=cI at ax ak aR⊢
   have ad:=ax
   have ab:=ak
   have HB:=aR
   clear ax ak aR
   replace ad:=zz (Kd.R_drew ad.out)
   replace ab:=zz (blk_drew ab.out)
   replace HB:=zz (qK HB.out)
   refine start_ (n:=12) (S:=fun w'=>w'.cell? ⟨ac,0,none⟩=some (.string ((qA l0 aa).f0))∧w'.cell? ⟨ac,1,none⟩=some (.int .i64 ((qA l0 aa).f1))∧w'.cell? ⟨ac,2,none⟩=some (.string ((qA l0 aa).f2))∧w'.cell? ⟨ac,3,none⟩=some (.bool false)) (ds:=[]) (bp 0 12) zk rfl rfl (zy4 ab.out) (fun hHeld=>?_);refine with_tabW impl_PackTree.tab10 impl_PackTree.bits10 (fun HT_ HW_=>?_)
   generalize cI.drew=cX at ad ab HB hHeld⊢
   refine zp 0 28 (bp 1 11) ?_
   refine zp 1 29 (bp 2 10) ?_
   refine zp 4 32 (bm 12 19) ?_
   refine zp 8 36 (bm 12 275) ?_
   refine zt 5 33 (bm 12 307) ?_
   refine zp 6 34 (bm 12 371) ?_
   refine zt 9 37 (bm 12 883) ?_
   refine zo 2 30 (bm 12 887) fun K hK=>?_
   refine value_ (w1:=?_) (v:=?_) (by rfl) rfl ?_ ?_
   rotate_left 2
   ·go_simp
    constructor
    ·rfl
    ·rfl
   refine hK.out _ _ ⟨(qL (blk_alloc ab.out _) 0).trans rfl,(qL (blk_alloc ab.out _) 1).trans rfl,(qL (blk_alloc ab.out _) 2).trans rfl,(qL (blk_alloc ab.out _) 3).trans rfl⟩ (fun hHeld=>?_)
   clear hK K
   refine zn 30 ?_
   refine zo 3 31 (bm 12 895) fun K hK=>?_
   refine Kd.R_append_step (Kd.int .u8) (w0:=w) w.heap.size (by rfl) (.tmp 28) (.tmp 30) 153 5 (.int .u8 0) 1 rfl Tryz.underlying153 info5 rfl (by decide) (by omega) u3 ag (((qA l0 aa).f1) % 256) [.int .u8 (((qA l0 aa).f1) % 256)] (fun _=>True) (fun _=>False) rfl rfl ?aP (fun _ hk=>hk.elim) ?aF ?aO ?aB ?aS ?aL ?_
   (case aP=>exact rfl)
   (case aB=>exact zb)
   (case aF=>exact(fun _ _=>trivial))
   (case aO=>exact(zR ad.out))
   (case aS=>exact(qF zb))
   (case aL=>have:=bL.out;omega)
   intro cQ cY ho hb hg hat
   rw[←bM.out] at ho
   replace ab:=zz (zK ab hg (Kd.R_ne ad.out ab.out (by decide)))
   replace HB:=zz (hb)
   have aN:=zz (ho)
   clear ad
   clear ho hb hg hat
   obtain⟨bb,bc,bw⟩:=Kd.qZ aN.out
   (first|subst bw|(injection bw with av aT aw;have aU:=av.symm;have aV:=aw.symm;clear av aT aw;subst aU;subst aV))
   refine hK.out _ _ (zy4 ab.out) (fun hHeld=>?_)
   clear hK K
   refine zn 31 ?_
   refine zo 7 35 (bp 10 2) fun K hK=>?_
   refine zh Tryz.func177 #[.slice bb aW.length bc,.int .i64 (((qA l0 aa).f0).size:Int)] ?_
   with_reducible refine(impl_varint.calls k1 (fun k_=>some k_=(.slice bb aW.length bc:Value).ownBlock) (.slice bb aW.length bc) aW (((qA l0 aa).f0).size:Int) ap w _ ?s1 ?s2 cG.out).mono ?_
   (case s1=>repeat(first|(with_reducible first|exact HB.out|apply qX|apply qW|apply qK|refine qJ ?_ aD.out)|exact HB.out))
   (case s2=>exact Kd.R_tight rfl aN.out)
   rintro e cZ ⟨ce,rfl,af,hb,hkp⟩
   refine⟨_,rfl,?_⟩
   replace ab:=zz (blk_kept (zB ab.out) hkp (fun hs_=>(fun e_=>(Kd.R_ne aN.out ab.out (by decide)) e_) hs_))
   have a0:=zz (Kd.vC (ok':=fun k_=>True) af (fun k_ hk_=>trivial))
   replace HB:=zz (hb)
   clear aN
   (try clear hb)
   (try clear hkp)
   (try clear af)
   refine hK.out _ _ (zy4 ab.out) (fun hHeld=>?_)
   clear hK K
   refine zn 35 ?_
   refine zo 10 38 (bp 11 1) fun K hK=>?_
   refine print_append_str_step (w0:=w) w.heap.size (by rfl) (.tmp 35) _ 153 9 5 rfl Tryz.underlying153 Tryz.underlying9 info5 ce ap ((qA l0 aa).f0) rfl rfl ?aO ?aB ?aS ?aL ?_
   (case aB=>exact zb)
   (case aO=>exact(Kd.own_of_R (zR a0.out)))
   (case aS=>exact(qF zb))
   (case aL=>have:=bN.out;omega)
   intro cf b5 af hb hg
   have ho:=Kd.R_of_own (h1:=fun _=>rfl) (ok:=fun _=>True) af (fun _ _=>trivial)
   clear af
   have hat:=True.intro
   rw[←bO.out] at ho
   change Kd.R (Kd.int .u8) 5 b5 w.heap.size (fun _=>True) cf aJ at ho
   replace ab:=zz (zK ab hg (Kd.R_ne a0.out ab.out (by decide)))
   replace HB:=zz (hb)
   have au:=zz (ho)
   clear a0
   clear ho hb hg hat
   refine hK.out _ _ (zy4 ab.out) (fun hHeld=>?_)
   clear hK K
   refine zn 38 ?_
   refine zp 11 3 (bp 12 0) ?_
   refine done_ (done_of HT_.out zk) ?_
   try go_wp2
   replace au:=zz (Kd.R_drew au.out)
   replace ab:=zz (blk_drew ab.out)
   replace HB:=zz (qK HB.out)
   obtain⟨bd,be,bz⟩:=Kd.qZ au.out
   (first|subst bz|(injection bz with av aT aw;have aU:=av.symm;have aV:=aw.symm;clear av aT aw;subst aU;subst aV))
   refine start_ (n:=9) (S:=fun w'=>w'.cell? ⟨ac,0,none⟩=some (.string ((qA l0 aa).f0))∧w'.cell? ⟨ac,1,none⟩=some (.int .i64 ((qA l0 aa).f1))∧w'.cell? ⟨ac,2,none⟩=some (.string ((qA l0 aa).f2))∧w'.cell? ⟨ac,3,none⟩=some (.bool false)) (ds:=[]) (bp 0 9) zk rfl rfl (zy4 ab.out) (fun hHeld=>?_);refine with_tabW impl_PackTree.tab11 impl_PackTree.bits11 (fun HT_ HW_=>?_)
   generalize b5.drew=c5 at au ab HB hHeld⊢
   refine zp 0 39 (bp 1 8) ?_
   refine zp 1 40 (bp 2 7) ?_
   refine zp 5 44 (bm 9 35) ?_
   refine zt 2 41 (bm 9 39) ?_
   refine zp 3 42 (bm 9 47) ?_
   refine zt 6 45 (bm 9 111) ?_
   refine zo 4 43 (bp 7 2) fun K hK=>?_
   refine zh Tryz.func177 #[.slice bd aJ.length be,.int .i64 (((qA l0 aa).f2).size:Int)] ?_
   with_reducible refine(impl_varint.calls k1 (fun k_=>some k_=(.slice bd aJ.length be:Value).ownBlock) (.slice bd aJ.length be) aJ (((qA l0 aa).f2).size:Int) aj w _ ?s1 ?s2 cH.out).mono ?_
   (case s1=>repeat(first|(with_reducible first|exact HB.out|apply qX|apply qW|apply qK|refine qJ ?_ aD.out)|exact HB.out))
   (case s2=>exact Kd.R_tight rfl au.out)
   rintro e c6 ⟨cg,rfl,af,hb,hkp⟩
   refine⟨_,rfl,?_⟩
   replace ab:=zz (blk_kept (zB ab.out) hkp (fun hs_=>(fun e_=>(Kd.R_ne au.out ab.out (by decide)) e_) hs_))
   have a1:=zz (Kd.vC (ok':=fun k_=>True) af (fun k_ hk_=>trivial))
   replace HB:=zz (hb)
   clear au
   (try clear hb)
   (try clear hkp)
   (try clear af)
   refine hK.out _ _ (zy4 ab.out) (fun hHeld=>?_)
   clear hK K
   refine zn 43 ?_
   refine zo 7 46 (bp 8 1) fun K hK=>?_
   refine print_append_str_step (w0:=w) w.heap.size (by rfl) (.tmp 43) _ 153 9 5 rfl Tryz.underlying153 Tryz.underlying9 info5 cg aj ((qA l0 aa).f2) rfl rfl ?aO ?aB ?aS ?aL ?_
   (case aB=>exact zb)
   (case aO=>exact(Kd.own_of_R (zR a1.out)))
   (case aS=>exact(qF zb))
   (case aL=>have:=bP.out;omega)
   intro ch cJ af hb hg
   have ho:=Kd.R_of_own (h1:=fun _=>rfl) (ok:=fun _=>True) af (fun _ _=>trivial)
   clear af
   have hat:=True.intro
   rw[←bQ.out] at ho
   change Kd.R (Kd.int .u8) 5 cJ w.heap.size (fun _=>True) ch ba at ho
   replace ab:=zz (zK ab hg (Kd.R_ne a1.out ab.out (by decide)))
   replace HB:=zz (hb)
   have bR:=zz (ho)
   clear a1
   clear ho hb hg hat
   refine hK.out _ _ (zy4 ab.out) (fun hHeld=>?_)
   clear hK K
   refine zn 46 ?_
   refine zp 8 3 (bp 9 0) ?_
   refine done_ (done_of HT_.out zk) ?_
   try go_wp2
   go_roundg k1
   case measure=>have:=bg.out;omega
   case rel=>exact⟨(ba),(wrap64 (aa+1)),zr,H',⟨by have:=bg.out;omega⟩,⟨zR bR.out⟩,⟨zb⟩⟩
def impl_TreeSum.f(k:Nat)(l0:List (S87)):Option (ByteArray):=(impl_TreeOk.f k l0).bind fun aa=>(if aa=true then((impl_PackTree.f k l0).bind fun ab=>((impl_Sum.f k ab).bind fun ac=>((impl_Word32.f k ac).bind fun ad=>(some ad)))) else(some (⟨#[]⟩:ByteArray)))
theorem impl_TreeSum.calls(k:Nat)(A0:Option Addr)(c0:Nat)(l0:List (S87))(r:ByteArray)(w:World)(ad:Kd.C k87 w A0 l0.length l0)(ae:l0.length≤c0)(hG_:GOK w)(h:impl_TreeSum.f k l0=some r):
 Calls Tryz.prog 83 #[.slice A0 l0.length c0] w fun e w'=>e= .returned (.string r)∧Below w.heap.size w w':=by
 have HG:=zz hG_
 clear hG_
 have aa:=zz ad
 have ac:=zz ae
 clear ad ae
 have HB:=yB w
 unfold impl_TreeSum.f at h
 have H:=h
 clear h
 replace HB:=HB.out
 have HW:=yB w
 go_enter Tryz.func83,Tryz.ntmps83
 replace H:=yf H
 obtain⟨al,A2,H⟩:=H
 refine yF H ?_ ?_<;>clear H<;>rintro rfl H
 ·go_wp2_with(fail)
  refine(impl_TreeOk.calls k _ _ _ _ _ (Kd.qB aa.out HB) ac.out (GOK.below HG.out (zv HW.out HB)) A2.out).mono ?_
  rintro e ap ⟨rfl,hb⟩
  replace HB:=zv HB hb
  clear hb
  obtain rfl:=zi H
  exact yR
 go_wp2_with(fail)
 refine(impl_TreeOk.calls k _ _ _ _ _ (Kd.qB aa.out HB) ac.out (GOK.below HG.out (zv HW.out HB)) A2.out).mono ?_
 rintro e w5 ⟨rfl,hb⟩
 replace HB:=zv HB hb
 clear hb
 replace H:=yf H
 obtain⟨am,A6,H⟩:=H
 go_wp2_with(fail)
 refine(impl_PackTree.calls k _ _ _ _ _ (Kd.qB aa.out HB) ac.out (GOK.below HG.out (zv HW.out HB)) A6.out).mono ?_
 rintro e w7 ⟨ah,rfl,ab,hb⟩
 replace HB:=zv HB hb
 clear hb
 have hst:=HB
 replace HW:=zz (zv HW.out hst)
 replace aa:=zz (Kd.qB aa.out hst)
 clear hst
 replace HB:=Below.refl w7.heap.size w7
 obtain⟨aj,ak,rfl,hl_,hC_⟩:=Kd.R_reads ab
 have af:=zz hC_
 have ag:=zz hl_
 clear hl_ hC_ ab
 replace H:=yf H
 obtain⟨an,A9,H⟩:=H
 go_wp2_with(fail)
 refine(impl_Sum.calls k _ _ _ _ _ (Kd.qB af.out HB) ag.out A9.out).mono ?_
 rintro e ar ⟨rfl,hd⟩
 replace HB:=zv HB hd.below
 clear hd
 replace H:=yf H
 obtain⟨ao,ai,H⟩:=H
 go_wp2_with(fail)
 refine(impl_Word32.calls k _ _ _ ai.out).mono ?_
 rintro e au ⟨rfl,hb⟩
 replace HB:=zv HB hb
 clear hb
 obtain rfl:=zi H
 exact yR
def spec_Word32.l0:Nat→Int→List Int→Int→Option (ByteArray)
 |0,_,_,_=>none
 |k+1,x0,x3,x4=>if x4≥0 then(if 0≤(IntKind.u64.wrap (wrap64 (5*x4))) then(if 0≤(Go.bits .and .u64 (shr .u64 x0 (IntKind.u64.wrap (wrap64 (5*x4)))) 31) then(if(Go.bits .and .u64 (shr .u64 x0 (IntKind.u64.wrap (wrap64 (5*x4)))) 31)<32 then(if x3.length<140737488355328 then(spec_Word32.l0 k x0 (x3++[bt (⟨#[48,49,50,51,52,53,54,55,56,57,97,98,99,100,102,103,104,105,106,107,108,109,110,112,113,114,115,118,119,120,121,122]⟩:ByteArray) (Go.bits .and .u64 (shr .u64 x0 (IntKind.u64.wrap (wrap64 (5*x4)))) 31)]) (wrap64 (x4 - 1))) else(none)) else(none)) else(none)) else(none)) else(some (strOfNums x3))
def spec_Word32.f(k:Nat)(a0:Int):Option (ByteArray):=spec_Word32.l0 k a0 (([]:List Int)) 12
theorem spec_Word32.calls(k:Nat)(a0:Int)(r:ByteArray)(w:World)(h:spec_Word32.f k a0=some r):
 Calls Tryz.prog 169 #[.int .u64 a0] w fun e w'=>e= .returned (.string r)∧Below w.heap.size w w':=by
 have HB:=yB w
 unfold spec_Word32.f at h
 have H:=h
 clear h
 obtain⟨al,ad⟩:∃y_:List Int,y_=(([]:List Int)):=⟨_,rfl⟩
 replace H:(spec_Word32.l0 k a0 al 12)=some r:=by first|(rw[ad];with_reducible exact H)|(have ag:=(Option.bind_some _ _).symm.trans H;rw[ad];with_reducible exact ag)|(have ag:=(Option.bind_some _ _).symm.trans H;with_reducible exact ag)|with_reducible exact H|(rw[ad];exact H)|exact H
 have ak:=zz ad
 clear ad
 have H':=zz H
 clear H
 go_enter Tryz.func169,Tryz.ntmps169
 go_wp2_with(first|(refine zN 5 ?_;refine Kd.R_lit (Kd.int .u8) _ 5 ?hg (N:=5) ?hd (xs:=([]:List Int)) (inner:=[]) (ok:=fun _=>True) (okp:=fun _=>True) ?hr ?hp (fun _ hk=>hk) trivial (Below.refl _ _) (Nat.le_refl _) (by simp) ?_;(case hd=>rfl);(case hg=>rfl);(case hr=>first|(go_simp;done)|(go_simp;rfl));(case hp=>exact(Reps.none _ _));intro aD w2 ai hb hg_ hnew_;clear hg_ hnew_;(first|rw[←ak.out] at ai|(simp only[Int.reduceToNat] at ai;rw[←ak.out] at ai));have ao:=zz (Kd.qY ai (qF zb));replace HB:=zz (zv zb hb);clear hb ai))
 go_loopg[3,4] k (fun kq v3 v4 w'=>∃(aa:List Int) (ab:Int),v4= .int .i64 ab∧qC (spec_Word32.l0 kq a0 aa ab=some r)∧qC (kq≤k)∧qC (Kd.R (Kd.int .u8) 5 w' w.heap.size (fun _=>True) v3 aa)∧qC (Below w.heap.size w w'))
 case atStart=>exact⟨(al),(12),zr,H',⟨Nat.le_refl _⟩,⟨zR ao.out⟩,⟨zb⟩⟩
 case round=>
  clear H'
  try clear c1
  try clear p2
  obtain⟨aa,ab,rfl,HA,av,aj,HB⟩:=hrel
  cases gk with
  |zero=>exact absurd HA.out (by simp[spec_Word32.l0])
  |succ k1=>
   have H:=HA.out
   clear HA
   simp only[spec_Word32.l0] at H
   refine yEn H ?_ ?_<;>clear H<;>intro aE H
   ·obtain rfl:=zi H
    have az:=own_string (P:=Tryz.prog) Tryz.underlying153 Tryz.underlying5 Tryz.underlying9 (Kd.own_of_R aj.out)
    go_wp2
    go_ret
    exact⟨ze,zb⟩
   obtain⟨af,am⟩:∃j_:Int,(IntKind.u64.wrap (wrap64 (5*ab)))=j_:=⟨_,rfl⟩
   replace H:(if 0≤(af) then(if 0≤(Go.bits .and .u64 (shr .u64 a0 (af)) 31) then(if(Go.bits .and .u64 (shr .u64 a0 (af)) 31)<32 then(if aa.length<140737488355328 then(spec_Word32.l0 k1 a0 (aa++[bt (⟨#[48,49,50,51,52,53,54,55,56,57,97,98,99,100,102,103,104,105,106,107,108,109,110,112,113,114,115,118,119,120,121,122]⟩:ByteArray) (Go.bits .and .u64 (shr .u64 a0 (af)) 31)]) (wrap64 (ab - 1))) else(none)) else(none)) else(none)) else(none))=some r:=by first|(rw[am] at H;exact H)|(simp only[am] at H⊢;exact H)
   replace H:=yA H
   obtain⟨c6,H⟩:=H
   have aG:=eq_true c6
   have aH:=z1 c6
   clear c6
   obtain⟨ac,ah⟩:∃j_:Int,(shr .u64 a0 (af))=j_:=⟨_,rfl⟩
   replace H:(if 0≤(Go.bits .and .u64 (ac) 31) then(if(Go.bits .and .u64 (ac) 31)<32 then(if aa.length<140737488355328 then(spec_Word32.l0 k1 a0 (aa++[bt (⟨#[48,49,50,51,52,53,54,55,56,57,97,98,99,100,102,103,104,105,106,107,108,109,110,112,113,114,115,118,119,120,121,122]⟩:ByteArray) (Go.bits .and .u64 (ac) 31)]) (wrap64 (ab - 1))) else(none)) else(none)) else(none))=some r:=by first|(rw[ah] at H;exact H)|(simp only[ah] at H⊢;exact H)
   have aA:(a0 / 2 ^ min (af).toNat 64)=ac:=ah
   have aC:(af)≤64→(a0 / 2 ^ (af).toNat)=ac:=shr_small ah
   replace H:=yAD H
   obtain⟨aI,H⟩:=H
   replace H:=yAD H
   obtain⟨aJ,H⟩:=H
   replace H:=yA H
   obtain⟨aw,H⟩:=H
   have ap:=zz aw
   clear aw
   obtain⟨an,ae⟩:∃y_:List Int,y_=(aa++[bt (⟨#[48,49,50,51,52,53,54,55,56,57,97,98,99,100,102,103,104,105,106,107,108,109,110,112,113,114,115,118,119,120,121,122]⟩:ByteArray) (Go.bits .and .u64 (ac) 31)]):=⟨_,rfl⟩
   replace H:(spec_Word32.l0 k1 a0 an (wrap64 (ab - 1)))=some r:=by first|(rw[ae];with_reducible exact H)|(have ag:=(Option.bind_some _ _).symm.trans H;rw[ae];with_reducible exact ag)|(have ag:=(Option.bind_some _ _).symm.trans H;with_reducible exact ag)|with_reducible exact H|(rw[ae];exact H)|exact H
   have ar:=zz ae
   clear ae
   have H':=zz H
   clear H
   have ax:0≤((Go.bits .and .u64 (ac) 31):Int):=z2
   have ay:(Go.bits .and .u64 (ac) 31)<(32:Int):=z2
   have aK:=bt_at (⟨#[48,49,50,51,52,53,54,55,56,57,97,98,99,100,102,103,104,105,106,107,108,109,110,112,113,114,115,118,119,120,121,122]⟩:ByteArray) (Go.bits .and .u64 (ac) 31)
   replace ax:=eq_true ax
   replace ay:=eq_true ay
   go_wp2_with(first|((with_reducible refine qT (b:= .append) (xs:= #[.tmp 10,.tmp 18]) rfl ?_);at_builtin;refine Kd.R_append (Kd.int .u8) (w0:=w) w.heap.size rfl (.tmp 10) (.tmp 18) 153 5 (.int .u8 0) 1 rfl Tryz.underlying153 info5 rfl (by decide) (by omega) u3 aa (bt (⟨#[48,49,50,51,52,53,54,55,56,57,97,98,99,100,102,103,104,105,106,107,108,109,110,112,113,114,115,118,119,120,121,122]⟩:ByteArray) (Go.bits .and .u64 (ac) 31)) [.int .u8 (bt (⟨#[48,49,50,51,52,53,54,55,56,57,97,98,99,100,102,103,104,105,106,107,108,109,110,112,113,114,115,118,119,120,121,122]⟩:ByteArray) (Go.bits .and .u64 (ac) 31))] (fun _=>True) (fun _=>False) rfl rfl ?aP (fun _ hk=>hk.elim) ?aF ?aO ?aB ?aS ?aL ?_;(case aP=>exact rfl);(case aB=>exact zb);(case aF=>exact(fun _ _=>trivial));(case aO=>exact(zR aj.out));(case aS=>exact(qF zb));(case aL=>have:=ap.out;omega);intro aM aN ho hb hg hat;rw[←ar.out] at ho;replace HB:=zz (hb);have au:=zz (ho);clear aj;clear ho hb hg hat))
   go_roundg k1
   case measure=>have:=av.out;omega
   case rel=>exact⟨(an),(wrap64 (ab - 1)),zr,H',⟨by have:=av.out;omega⟩,⟨zR au.out⟩,⟨zb⟩⟩
mutual
def spec_Sum.l0:Nat→List Int→Int→Int→Option (Int)
 |0,_,_,_=>none
 |k+1,x0,x3,x4=>if x4<(x0.length:Int) then(if 0≤x4 then(spec_Sum.l0 k x0 (IntKind.u64.wrap ((Go.bits .xor .u64 x3 (IntKind.u64.wrap (rd x0 x4)))*1099511628211)) (wrap64 (x4+1))) else(none)) else(spec_Sum.l1 k x3 0)
def spec_Sum.l1:Nat→Int→Int→Option (Int)
 |0,_,_=>none
 |k+1,x3,x5=>if x5<3 then(spec_Sum.l1 k (IntKind.u64.wrap ((Go.bits .xor .u64 x3 (x3 / 536870912))*11400714819323198485)) (wrap64 (x5+1))) else(some (Go.bits .xor .u64 x3 (x3 / 4294967296)))
end
def spec_Sum.f(k:Nat)(l0:List Int):Option (Int):=spec_Sum.l0 k l0 14695981039346656037 0
theorem spec_Sum.calls(k:Nat)(A0:Option Addr)(c0:Nat)(l0:List Int)(r:Int)(w:World)(ai:Kd.C (Kd.int .u8) w A0 l0.length l0)(aj:l0.length≤c0)(h:spec_Sum.f k l0=some r):
 Calls Tryz.prog 170 #[.slice A0 l0.length c0] w fun e w'=>e= .returned (.int .u64 r)∧qV w w':=by
 have ao:=zz ai
 have au:=zz aj
 clear ai aj
 unfold spec_Sum.f at h
 have H:=h
 clear h
 have H':=zz H
 clear H
 go_enter Tryz.func170,Tryz.ntmps170
 go_wp2
 go_loopg[3,4] k (fun kq v3 v4 w'=>∃(ab:Int) (aa:Int),v3= .int .u64 ab∧v4= .int .i64 aa∧qC (spec_Sum.l0 kq l0 ab aa=some r)∧qC (kq≤k)∧qV w w')
 case atStart=>exact⟨(14695981039346656037),(0),zr,zr,H',⟨Nat.le_refl _⟩,yD0⟩
 case round=>
  clear H'
  try clear c1
  obtain⟨ab,aa,rfl,rfl,HA,ag,⟨m1,rfl⟩⟩:=hrel
  cases gk with
  |zero=>exact absurd HA.out (by simp[spec_Sum.l0])
  |succ k1=>
   have H:=HA.out
   clear HA
   simp only[spec_Sum.l0] at H
   refine yD H ?_ ?_<;>clear H<;>intro al H
   ·replace H:=yAD H
    obtain⟨am,H⟩:=H
    have H':=zz H
    clear H
    have ad:0≤(aa:Int):=z2
    have ae:aa<(l0.length:Int):=z2
    obtain⟨ap,an,ah⟩:=Kd.at_int ao.out aa ad ae
    cases an
    replace ad:=eq_true ad
    replace ae:=eq_true ae
    go_wp2
    go_roundg k1
    case measure=>have:=ag.out;omega
    case rel=>exact⟨(IntKind.u64.wrap ((Go.bits .xor .u64 ab (IntKind.u64.wrap (rd l0 aa)))*1099511628211)),(wrap64 (aa+1)),zr,zr,H',⟨by have:=ag.out;omega⟩,yD0⟩
   have H':=zz H
   clear H
   go_wp2
   go_loopg[3,5] k1 (fun kq v3 v5 w'=>∃(ac:Int) (af:Int),v3= .int .u64 ac∧v5= .int .i64 af∧qC (spec_Sum.l1 kq ac af=some r)∧qC (kq≤k1)∧qV w w')
   case atStart=>exact⟨(ab),(0),zr,zr,H',⟨Nat.le_refl _⟩,yD0⟩
   case round=>
    clear H'
    try clear c1
    try clear p1
    try clear q1
    try clear av
    try clear c2
    try clear al
    try clear p2
    try clear c3
    try clear am
    try clear ah
    try clear ad
    try clear ae
    obtain⟨ac,af,rfl,rfl,HA,ak,⟨m2,rfl⟩⟩:=hrel
    cases gk with
    |zero=>exact absurd HA.out (by simp[spec_Sum.l1])
    |succ k2=>
     have H:=HA.out
     clear HA
     simp only[spec_Sum.l1] at H
     refine yDn H ?_ ?_<;>clear H<;>intro ar H
     ·obtain rfl:=zi H
      exact yr
     have H':=zz H
     clear H
     go_wp2
     go_roundg k2
     case measure=>have:=ag.out;have:=ak.out;omega
     case rel=>exact⟨(IntKind.u64.wrap ((Go.bits .xor .u64 ac (ac / 536870912))*11400714819323198485)),(wrap64 (af+1)),zr,zr,H',⟨by have:=ag.out;have:=ak.out;omega⟩,yD0⟩
def bytesI(s:ByteArray):List Int:=s.data.toList.map (fun b=>((b.toNat:Nat):Int))
theorem bytesI_len(s:ByteArray):(bytesI s).length=s.size:=by rw[bytesI,List.length_map,Array.length_toList];rfl
theorem conv_reads(w:World)(s:ByteArray)(hs:s.size<140737488355328):ReadsRow (fun(x:Int) cs=>cs=[Value.int .u8 x]) 1 (Lib.bytesWorld w 5 s) (some ⟨w.heap.size,0,none⟩) s.size (bytesI s):=by
 refine Kd.C_of_reads (enc:=Value.int .u8) (d:=(0:Int)) (h1:=fun _=>rfl) ⟨bytesI_len s,by omega,fun _=>⟨_,rfl,fun j hj=>?_⟩⟩
 have h1:j<s.data.toList.length:=by rw[Array.length_toList];exact hj
 have h2:=Lib.bytesWorld_cell w 5 s j hj
 have h3:(bytesI s).getD j 0=((s.data.toList.getD j 0).toNat:Int):=by
  simp only[bytesI,List.getD_eq_getElem?_getD,List.getElem?_map,List.getElem?_eq_getElem h1]
  rfl
 rw[h3]
 have ha:(⟨w.heap.size,0,none⟩:Addr).add j=⟨w.heap.size,j,none⟩:=by unfold Addr.add;split<;>simp_all
 rw[ha]
 exact h2
def spec_l10Text.f(k:Nat)(l0:List Int)(a1:ByteArray):Option (List Int):=(spec_l10Num.f k l0 (a1.size:Int)).bind fun y=>if y.length+a1.size<140737488355328 then some (y++bytesI a1) else none
theorem spec_l10Text.calls(k:Nat)(P0_:Nat→Prop)(u9000_:Value)(l0:List Int)(a1:ByteArray)(r:List Int)(w0 w:World)(hB:Below w0.heap.size w0 w)(ho0:Kd.R (Kd.int .u8) 5 w w0.heap.size P0_ u9000_ l0)(h:spec_l10Text.f k l0 a1=some r):
 Calls Tryz.prog 190 #[u9000_,.string a1] w fun e w'=>∃v0_:Value,e= .returned (v0_)∧Kd.R (Kd.int .u8) 5 w' w0.heap.size (fun k_=>(P0_ k_∨w.heap.size≤k_)) v0_ r∧Below w0.heap.size w0 w'∧Kept w w' (fun k_=>P0_ k_):=by
 obtain⟨y,A1,h⟩:=Option.bind_eq_some_iff.mp h
 split at h
 case isFalse=>exact absurd h (by simp)
 case isTrue hs0=>
 have hs:=qC.mk hs0
 clear hs0
 obtain⟨z,hz⟩:∃z_,z_=y++bytesI a1:=⟨_,rfl⟩
 rw[←hz] at h
 obtain rfl:=Option.some.inj h
 have Nz:=qC.mk hz
 have A1:=qC.mk A1
 have HO0:=qC.mk ho0
 have HB:=qC.mk hB
 clear h hz hB ho0
 go_enter Tryz.func190,Tryz.ntmps190
 go_wp2_with(first|((with_reducible refine gate_callee (f:=189) rfl ?_);refine goesL_ (some 8) rfl rfl Tryz.func189 (by kernel_rfl) rfl #[u9000_,.int .i64 (a1.size:Int)] rfl (by(try simp only[List.map_toArray,List.map_cons,List.map_nil]);first|done|rfl) ?_;(with_reducible refine(spec_l10Num.calls k P0_ u9000_ l0 _ y w0 _ HB.out HO0.out A1.out).mono ?_);rintro e w1 ⟨v1,rfl,ho1,hb1,hk1⟩;refine⟨_,rfl,?_⟩;have hconv:=Lib.run_convert_string_bytes (P:=Tryz.prog) w1 9 153 5 a1 Tryz.underlying9 Tryz.underlying153 Tryz.underlying5;have n1_:=qC.mk ho1;have n2_:=qC.mk hb1;have n3_:=qC.mk hk1;clear ho1 hb1 hk1 HB HO0;have HO1:=n1_;have HB:=n2_;have HK:=n3_;clear n1_ n2_ n3_)|((with_reducible refine qT (b:= .append) (xs:= #[.tmp 8,.tmp 10]) rfl ?_);at_builtin;refine Kd.R_append_rows (Kd.int .u8) (Rr:=fun(x:Int) cs=>cs=[Value.int .u8 x]) (w0:=w0) w0.heap.size rfl (.tmp 8) (.tmp 10) 153 5 (.int .u8 0) 1 rfl Tryz.underlying153 info5 rfl (by decide) (by omega) v1 y (bytesI a1) _ _ _ (fun k_=>(P0_ k_∨w.heap.size≤k_)) (fun _=>False) rfl rfl (Kd.R_below HO1.out (bytes_below (Below.refl _ _) (Nat.le_refl _) 5 a1)) (conv_reads _ a1 (by have:=hs.out;omega)) (fun _ _ h=>h) (fun _ h=>h.elim) ?aF ?aB ?aS ?aL ?_;(case aF=>exact fun k_ hk=> .inr (Nat.le_trans HK.out.1 (Nat.le_trans (bytes_below (Below.refl _ _) (Nat.le_refl _) 5 a1).size hk)));(case aB=>exact below_step HB.out (bytes_below (Below.refl _ _) (Nat.le_refl _) 5 a1));(case aS=>exact(qF (below_step HB.out (bytes_below (Below.refl _ _) (Nat.le_refl _) 5 a1))));(case aL=>have:=hs.out;omega);intro v2 w2 ho hb hg hat;rw[←Nz.out] at ho;have n0_:=qC.mk hb;have n1_:=qC.mk (Kept.of_grown (S:=(fun k_=>P0_ k_)) hg (Kept.below HK.out (bytes_below (Below.refl _ _) (Nat.le_refl _) 5 a1)) (fun k_ e_=>(HO1.out.1 k_ e_)));have n2_:=qC.mk ho;clear HB HK HO1;have HB:=n0_;have HK:=n1_;have HO2:=n2_;clear n0_ n1_ n2_;clear ho hb hg hat))
 go_ret
 exact⟨_,by first|rfl|(simp[*];done),HO2.out,HB.out,HK.out⟩
end Go.Proofs.YtmdoobnlehkmpaaGreatDoor.Q
