import Derived.Test.YtgccknmddhbdgaaGreatDoorE06
namespace Go.Proofs.YtgccknmddhbdgaaGreatDoor.Q
open Go.RowKit W1 W2 W3
attribute [local go_sem] max2_int min2_int max_two min_two max_three min_three max_four min_four
attribute [local go_sem high] bl_leq bl_gtr bl_geq
set_option maxHeartbeats 8000000
set_option maxRecDepth 100000
def spec_l10Under.f(a0:ByteArray)(a1:ByteArray):Option (Bool):=if(a0.size:Int)>(a1.size:Int) then(if 0<=(wrap64 ((a1.size:Int)+1)) then(if(wrap64 ((a1.size:Int)+1))<=(a0.size:Int) then(if a1.size+1<=9223372036854775807 then(some ((a0.extract 0 ((wrap64 ((a1.size:Int)+1)):Int).toNat).toList==(a1++(⟨#[47]⟩:ByteArray)).toList)) else(none)) else(none)) else(none)) else(some false)
theorem spec_l10Under.calls(a0:ByteArray)(a1:ByteArray)(r:Bool)(w:World)(h:spec_l10Under.f a0 a1=some r):
 Calls Tryz.prog 102 #[.string a0,.string a1] w fun e w'=>e= .returned (.bool r)/\vB w w':=by
 unfold spec_l10Under.f at h;have H:=h;clear h;refine yCn H ?_ ?_<;>clear H<;>intro c3 H
 ·have ac:=zgtn c3;have ad:decide (a1.size<a0.size)=false:=z0 (fun h=>c3 (Int.ofNat_lt.mpr h));clear c3;obtain rfl:=zi H;go_enter Tryz.func102,Tryz.ntmps102;exact yr
 have ac:=zgt c3;have ad:decide (a1.size<a0.size)=true:=z1 (Int.ofNat_lt.mp c3);clear c3;obtain⟨ab,aa⟩:∃j_:Int,(wrap64 ((a1.size:Int)+1))=j_:=⟨_,rfl⟩
 replace H:(if 0<=(ab) then(if(ab)<=(a0.size:Int) then(if a1.size+1<=9223372036854775807 then(some ((a0.extract 0 ((ab):Int).toNat).toList==(a1++(⟨#[47]⟩:ByteArray)).toList)) else(none)) else(none)) else(none))=some r:=by first|(rw[aa] at H;exact H)|(simp only[aa] at H⊢;exact H)
 have ae:(IntKind.i64.wrap ((a1.size:Int)+1))=ab:=(i64_w _).trans aa;replace H:=yA H;obtain⟨c5,H⟩:=H;have af:=eq_true c5;have ag:=z1 c5;clear c5;replace H:=yA H;obtain⟨c6,H⟩:=H;have ah:=eq_true c6;have ai:=z1 c6;clear c6;replace H:=yA H;obtain⟨c7,H⟩:=H;have aj:=eq_true c7;have ak:=z1 c7;try have al:(9223372036854775807<a1.size+1)=False:=eq_false (Nat.not_lt.2 c7)
 obtain rfl:=zi H;go_enter Tryz.func102,Tryz.ntmps102;go_wp2;go_ret;exact⟨by first|rfl|(simp;done)|(simp only[<-aa]<;>(first|rfl|simp))|(simp[*];done),yD0⟩
def spec_l10Full.l0:Nat->List (S63)->ByteArray->Int->Option (Bool)
 |0,_,_,_=>none
 |k+1,x0,x1,x5=>if x5<(x0.length:Int) then(if 0<=x5 then((spec_l10Under.f ((qA x0 x5).f0) x1).bind fun aa=>(if aa=true then(some true) else(spec_l10Full.l0 k x0 x1 (wrap64 (x5+1))))) else(none)) else(some false)
def spec_l10Full.f(k:Nat)(l0:List (S63))(a1:ByteArray):Option (Bool):=spec_l10Full.l0 k l0 a1 0
theorem spec_l10Full.calls(k:Nat)(A0:Option Addr)(c0:Nat)(l0:List (S63))(a1:ByteArray)(r:Bool)(w:World)(ah:Kd.C k63 w A0 l0.length l0)(ai:l0.length<=c0)(H:spec_l10Full.f k l0 a1=some r):
 Calls Tryz.prog 81 #[.slice A0 l0.length c0,.string a1] w fun e w'=>e= .returned (.bool r)/\vB w w':=by
 have aj:=zz ah;have au:=zz ai;clear ah ai;unfold spec_l10Full.f at H;have H':=zz H;clear H;go_enter Tryz.func81,Tryz.ntmps81;go_wp2;go_loopg[5] k (fun kq v5 w'=>∃(aa:Int),v5= .int .i64 aa/\qB (spec_l10Full.l0 kq l0 a1 aa=some r)/\qB (kq<=k)/\vB w w')
 case atStart=>exact⟨(0),zr,H',⟨Nat.le_refl _⟩,yD0⟩
 case round=>
  clear H';obtain⟨aa,rfl,HA,ak,⟨m1,rfl⟩⟩:=hrel;cases gk with
  |zero=>exact absurd HA.out (by simp[spec_l10Full.l0])
  |succ k1=>
   have H:=HA.out;clear HA;simp only[spec_l10Full.l0] at H;refine yDn H ?_ ?_<;>clear H<;>intro ap H
   ·obtain rfl:=zi H;exact yr
   replace H:=yAD H;obtain⟨ar,H⟩:=H;replace H:=zf H;obtain⟨am,al,H⟩:=H;try dsimp only at H
   have A5:=zz al;clear al;by_cases c6:am=true
   ·subst c6;rw[if_pos rfl] at H;obtain rfl:=zi H;have an:=yt (0<=(aa:Int));have ao:=yt (aa<(l0.length:Int));obtain⟨ag,ab,ac,ad,ae,af⟩:=vF aj.out aa z2 z2;cases ab;go_wp2_with(first|(refine zL 102 18 Tryz.func102 #[.string ((qA l0 aa).f0),.string a1] ?_;(with_reducible refine(spec_l10Under.calls ((qA l0 aa).f0) a1 true _ A5.out).mono ?_);rintro e w' ⟨rfl,⟨nd,rfl⟩⟩;refine⟨_,rfl,?_⟩))
    go_ret;exact⟨zr,yD0⟩
   replace c6:=Bool.eq_false_iff.mpr c6;subst c6;rw[if_neg (show¬(false=true) by decide)] at H;have H':=zz H;clear H;have an:=yt (0<=(aa:Int));have ao:=yt (aa<(l0.length:Int));obtain⟨ag,ab,ac,ad,ae,af⟩:=vF aj.out aa z2 z2;cases ab;go_wp2_with(first|(refine zL 102 18 Tryz.func102 #[.string ((qA l0 aa).f0),.string a1] ?_;(with_reducible refine(spec_l10Under.calls ((qA l0 aa).f0) a1 false _ A5.out).mono ?_);rintro e w' ⟨rfl,⟨nd,rfl⟩⟩;refine⟨_,rfl,?_⟩))
   go_roundg k1
   case measure=>exact yM1 ak
   case rel=>exact⟨(wrap64 (aa+1)),zr,H',⟨yM1 ak⟩,yD0⟩
def spec_l10Copy.f(l0:List (S63)):Option ((List (S63))):=(some (([]:List (S63)):List (S63))).bind fun aa=>(if aa.length+l0.length<2932031007402 then(some (aa++l0)) else(none))
theorem spec_l10Copy.calls(A0:Option Addr)(c0:Nat)(l0:List (S63))(r:List (S63))(w:World)(ai:Kd.C k63 w A0 l0.length l0)(aj:l0.length<=c0)(h:spec_l10Copy.f l0=some r):
 Calls Tryz.prog 82 #[.slice A0 l0.length c0] w fun e w'=>∃ak:Value,e= .returned (ak)/\Kd.R k63 63 w' w.heap.size (fun _=>True) ak r/\Below w.heap.size w w':=by
 have ao:=zz ai;have ar:=zz aj;clear ai aj;have HB:=yB w;unfold spec_l10Copy.f at h;have H:=h;clear h;obtain⟨aa,ab⟩:∃y_:List (S63),y_=(([]:List (S63))):=⟨_,rfl⟩
 replace H:(if aa.length+l0.length<2932031007402 then(some (aa++l0)) else(none))=some r:=yN0 ab H;have ae:=zz ab;clear ab;replace H:=yA H;obtain⟨c2,H⟩:=H;have al:=zz c2;clear c2;obtain⟨am,ac⟩:∃y_:List (S63),y_=(aa++l0):=⟨_,rfl⟩
 replace H:(some am)=some r:=yN0 ac H;have ag:=zz ac;clear ac;obtain rfl:=zi H;go_enter Tryz.func82,Tryz.ntmps82;go_wp2_with(first|(refine yL k63 63 3 ?_;intro an w3 ad hb hg_ hnew_;clear hg_ hnew_;(first|rw[<-ae.out] at ad|(simp only[Int.reduceToNat] at ad;rw[<-ae.out] at ad));have af:=zz (Kd.qU ad (qE zb));replace HB:=zz (zv zb hb);clear hb ad)|((with_reducible refine qP (b:= .append) (xs:= #[.tmp 3,.tmp 4]) rfl ?_);at_builtin;refine Kd.R_append_rows k63 (w0:=w) w.heap.size rfl (.tmp 3) (.tmp 4) 31 63 (.agg #[(.string ⟨#[]⟩),(.int .i64 0),(.string ⟨#[]⟩),(.bool false)]) 48 rfl Tryz.underlying31 info63 rfl yd_ yo_ an aa l0 _ _ _ (fun _=>True) (fun _=>False) rfl rfl ?aO ?aR (fun _ _ h=>h) (fun _ h=>h.elim) ?aF ?aB ?aS ?aL ?_;(case aR=>exact zc ao.out);(case aB=>exact zb);(case aF=>exact(fun _ _=>trivial));(case aO=>exact(zR af.out));(case aS=>exact(qE zb));(case aL=>have:=al.out;omega);intro ap w5 ho hb hg hat;rw[<-ag.out] at ho;replace HB:=zz (hb);have ah:=zz (ho);clear af;clear ho hb hg hat))
 go_ret;exact⟨_,ze,zR ah.out,zb⟩
mutual
def spec_l10Put.j0:Nat->List (S63)->Bool->ByteArray->Int->ByteArray->Bool->Option ((List (S63))×Bool)
 |0,_,_,_,_,_,_=>none
 |k+1,x0,aj,aa,ab,ac,ad=>if aj=true then((spec_l10Copy.f x0).bind fun ag=>(some (ag,false))) else(spec_l10Put.l0 k x0 (([]:List (S63))) false 0 aa ab ac ad)
def spec_l10Put.l0:Nat->List (S63)->List (S63)->Bool->Int->ByteArray->Int->ByteArray->Bool->Option ((List (S63))×Bool)
 |0,_,_,_,_,_,_,_,_=>none
 |k+1,x0,x7,x8,x9,aa,ab,ac,ad=>if x9<(x0.length:Int) then(if x8=true then(spec_l10Put.j2 k x0 x7 x8 x9 false aa ab ac ad) else(if 0<=x9 then(spec_l10Put.j2 k x0 x7 x8 x9 (!(Op.bytesLess (((qA x0 x9).f0).toList) aa.toList)) aa ab ac ad) else(none))) else(if x8=true then(if(x7.length:Int)>500 then((spec_l10Copy.f x0).bind fun ah=>(some (ah,false))) else(some (x7,true))) else(if x7.length<2932031007402 then((some (x7++[(⟨aa,ab,ac,ad⟩:S63)]:List (S63))).bind fun af=>(if(af.length:Int)>500 then((spec_l10Copy.f x0).bind fun ai=>(some (ai,false))) else(some (af,true)))) else(none)))
def spec_l10Put.j2:Nat->List (S63)->List (S63)->Bool->Int->Bool->ByteArray->Int->ByteArray->Bool->Option ((List (S63))×Bool)
 |0,_,_,_,_,_,_,_,_,_=>none
 |k+1,x0,x7,x8,x9,ak,aa,ab,ac,ad=>if ak=true then(if x7.length<2932031007402 then((some (x7++[(⟨aa,ab,ac,ad⟩:S63)]:List (S63))).bind fun ae=>(if 0<=x9 then(if x9<(x0.length:Int) then(if((qA x0 x9).f0).toList=aa.toList then(spec_l10Put.l0 k x0 ae true (wrap64 (x9+1)) aa ab ac ad) else(if ae.length<2932031007402 then(spec_l10Put.l0 k x0 (ae++[(⟨(qA x0 x9).f0,(qA x0 x9).f1,(qA x0 x9).f2,(qA x0 x9).f3⟩:S63)]) true (wrap64 (x9+1)) aa ab ac ad) else(none))) else(none)) else(none))) else(none)) else(if 0<=x9 then(if x9<(x0.length:Int) then(if((qA x0 x9).f0).toList=aa.toList then(spec_l10Put.l0 k x0 x7 x8 (wrap64 (x9+1)) aa ab ac ad) else(if x7.length<2932031007402 then(spec_l10Put.l0 k x0 (x7++[(⟨(qA x0 x9).f0,(qA x0 x9).f1,(qA x0 x9).f2,(qA x0 x9).f3⟩:S63)]) x8 (wrap64 (x9+1)) aa ab ac ad) else(none))) else(none)) else(none))
end
def spec_l10Put.f(k:Nat)(l0:List (S63))(aa:ByteArray)(ab:Int)(ac:ByteArray)(ad:Bool):Option ((List (S63))×Bool):=(spec_l10Up.f k aa).bind fun ae=>((spec_l10EntryOk.f k aa ab ac ad).bind fun af=>(if af=true then(if ae.toList=([]:List UInt8) then(if ab=1 then(spec_l10Put.j0 k l0 false aa ab ac ad) else((spec_l10Full.f k l0 aa).bind fun ag=>(spec_l10Put.j0 k l0 ag aa ab ac ad))) else((spec_l10Dir.f k l0 ae).bind fun ah=>(if ah=true then(if ab=1 then(spec_l10Put.j0 k l0 false aa ab ac ad) else((spec_l10Full.f k l0 aa).bind fun ai=>(spec_l10Put.j0 k l0 ai aa ab ac ad))) else(spec_l10Put.j0 k l0 true aa ab ac ad)))) else(spec_l10Put.j0 k l0 true aa ab ac ad)))
theorem spec_l10Put.calls(k:Nat)(A0:Option Addr)(c0:Nat)(l0:List (S63))(ac:ByteArray)(ad:Int)(ae:ByteArray)(af:Bool)(r1:List (S63))(r2:Bool)(w:World)(eP:Kd.C k63 w A0 l0.length l0)(eQ:l0.length<=c0)(H:spec_l10Put.f k l0 ac ad ae af=some (r1,r2)):
 Calls Tryz.prog 52 #[.slice A0 l0.length c0,.agg #[.string ac,.int .i64 ad,.string ae,.bool af]] w fun e w'=>∃eR:Value,e= .returned (.tuple #[eR,.bool r2])/\Kd.R k63 63 w' w.heap.size (fun _=>True) eR r1/\Below w.heap.size w w':=by
 have gp:=Tryz.underlying63;have am:=zz eP;have aw:=zz eQ;clear eP eQ;have HB:=yB w;unfold spec_l10Put.f at H;replace H:=zf H;obtain⟨aD,eS,H⟩:=H;try dsimp only at H
 have A3:=zz eS;clear eS;have ea:=zz H;clear H;go_enter Tryz.func52,Tryz.ntmps52
 go_upto_region 2 with(first|(refine zX 3 63 #[.string ac,.int .i64 ad,.string ae,.bool af] ?_;intro ag hg w5 hbox hb;have aa:=zz (hbox);have dW:=zz ((zg:w.heap.size<=ag));replace HB:=zz (zv zb hb);clear hb hbox hg;obtain⟨br,bs,bu,bv,bw,bz,bA,bB⟩:=zc4 aa.out)|(go_at_call 78;(with_reducible refine(spec_l10Up.calls k ac aD _ A3.out).mono ?_);rintro e w' ⟨rfl,⟨nd,rfl⟩⟩;(try first|exact⟨rfl,_,World.drewN_drewN _ _ _⟩|exact⟨rfl,_,Eq.trans (World.drewN_drewN _ _ _) (congrArg (World.drewN _) (Nat.add_assoc _ _ _))⟩)))
 repeat(go_quiet (first|(refine zX 3 63 #[.string ac,.int .i64 ad,.string ae,.bool af] ?_;intro ag hg w5 hbox hb;have aa:=zz (hbox);have dW:=zz ((zg:w.heap.size<=ag));replace HB:=zz (zv zb hb);clear hb hbox hg;obtain⟨br,bs,bu,bv,bw,bz,bA,bB⟩:=zc4 aa.out)|(go_at_call 78;(with_reducible refine(spec_l10Up.calls k ac aD _ A3.out).mono ?_);rintro e w' ⟨rfl,⟨nd,rfl⟩⟩;(try first|exact⟨rfl,_,World.drewN_drewN _ _ _⟩|exact⟨rfl,_,Eq.trans (World.drewN_drewN _ _ _) (congrArg (World.drewN _) (Nat.add_assoc _ _ _))⟩)));go_upto_region 2 with(first|(refine zX 3 63 #[.string ac,.int .i64 ad,.string ae,.bool af] ?_;intro ag hg w5 hbox hb;have aa:=zz (hbox);have dW:=zz ((zg:w.heap.size<=ag));replace HB:=zz (zv zb hb);clear hb hbox hg;obtain⟨br,bs,bu,bv,bw,bz,bA,bB⟩:=zc4 aa.out)|(go_at_call 78;(with_reducible refine(spec_l10Up.calls k ac aD _ A3.out).mono ?_);rintro e w' ⟨rfl,⟨nd,rfl⟩⟩;(try first|exact⟨rfl,_,World.drewN_drewN _ _ _⟩|exact⟨rfl,_,Eq.trans (World.drewN_drewN _ _ _) (congrArg (World.drewN _) (Nat.add_assoc _ _ _))⟩))))
 (try simp only[Act.put,List.setIfInBounds_toArray,List.set_cons_zero,List.set_cons_succ])
 go_cut [36] (fun gg wc=>∃(kq:Nat) (cM:Bool),gg= .bool cM/\qB (spec_l10Put.j0 kq l0 cM ac ad ae af=some (r1,r2))/\qB (kq<=k)/\qB (wc.heap[ag]?=some (.cells #[.string ac,.int .i64 ad,.string ae,.bool af] 63 (0,0)))/\qB (Below w.heap.size w wc))
 case first=>
  have H:=ea.out;clear ea;replace H:=zf H;obtain⟨fe,cX,H⟩:=H;try dsimp only at H
  have A7:=zz cX;clear cX;by_cases c8:fe=true
  ·subst c8;rw[if_pos rfl] at H;by_cases c9:aD.toList=([]:List UInt8)
   ·rw[if_pos c9] at H;obtain⟨bC,du⟩:=zq c9;clear c9
    (first|rw[bC]|(simp only[i64_w,i32_w];rw[bC])|skip)
    by_cases cK:ad=1
    ·rw[if_pos cK] at H;obtain⟨cN,cO⟩:=zq cK;clear cK;have H':=zz H;clear H;obtain⟨bR,bS,bT,bU,bV,bW,bX,bY⟩:=zc4 aa.out;go_wp2_with(first|(go_at_call 79;(with_reducible refine(spec_l10EntryOk.calls k ac ad ae af true _ A7.out).mono ?_);rintro e eT ⟨rfl,hb⟩;replace aa:=zz (zJ aa hb);replace HB:=zz (zv zb hb);(try clear hb);obtain⟨aJ,aK,aM,aN,aQ,aR,aT,aU⟩:=zc4 aa.out))
     repeat(go_quiet (first|(go_at_call 79;(with_reducible refine(spec_l10EntryOk.calls k ac ad ae af true _ A7.out).mono ?_);rintro e eT ⟨rfl,hb⟩;replace aa:=zz (zJ aa hb);replace HB:=zz (zv zb hb);(try clear hb);obtain⟨aJ,aK,aM,aN,aQ,aR,aT,aU⟩:=zc4 aa.out));try go_wp2_with(first|(go_at_call 79;(with_reducible refine(spec_l10EntryOk.calls k ac ad ae af true _ A7.out).mono ?_);rintro e eT ⟨rfl,hb⟩;replace aa:=zz (zJ aa hb);replace HB:=zz (zv zb hb);(try clear hb);obtain⟨aJ,aK,aM,aN,aQ,aR,aT,aU⟩:=zc4 aa.out)))
     go_meet
     case rel=>exact⟨_,(false),zr,H',⟨by first|omega|exact Nat.le_refl _⟩,⟨zB aa.out⟩,⟨zb⟩⟩
    ·rw[if_neg cK] at H;obtain⟨cN,cO⟩:=zw cK;replace H:=zf H;obtain⟨dv,eb,H⟩:=H;try dsimp only at H
     have ec:=zz eb;clear eb;have H':=zz H;clear H;obtain⟨bZ,b0,b1,b2,b3,b4,b5,b6⟩:=zc4 aa.out;go_wp2_with(first|(go_at_call 79;(with_reducible refine(spec_l10EntryOk.calls k ac ad ae af true _ A7.out).mono ?_);rintro e eU ⟨rfl,hb⟩;replace aa:=zz (zJ aa hb);replace HB:=zz (zv zb hb);(try clear hb);obtain⟨aV,aW,aX,aY,aZ,a0,a1,a2⟩:=zc4 aa.out)|(go_at_call 81;(with_reducible refine(spec_l10Full.calls k _ _ l0 ac dv _ ?s1 ?s2 ec.out).mono ?_);(case s1=>exact zc am.out);(case s2=>exact aw.out);rintro e w' ⟨rfl,⟨nd,rfl⟩⟩;(try first|exact⟨rfl,_,World.drewN_drewN _ _ _⟩|exact⟨rfl,_,Eq.trans (World.drewN_drewN _ _ _) (congrArg (World.drewN _) (Nat.add_assoc _ _ _))⟩)))
     repeat(go_quiet (first|(go_at_call 79;(with_reducible refine(spec_l10EntryOk.calls k ac ad ae af true _ A7.out).mono ?_);rintro e eU ⟨rfl,hb⟩;replace aa:=zz (zJ aa hb);replace HB:=zz (zv zb hb);(try clear hb);obtain⟨aV,aW,aX,aY,aZ,a0,a1,a2⟩:=zc4 aa.out)|(go_at_call 81;(with_reducible refine(spec_l10Full.calls k _ _ l0 ac dv _ ?s1 ?s2 ec.out).mono ?_);(case s1=>exact zc am.out);(case s2=>exact aw.out);rintro e w' ⟨rfl,⟨nd,rfl⟩⟩;(try first|exact⟨rfl,_,World.drewN_drewN _ _ _⟩|exact⟨rfl,_,Eq.trans (World.drewN_drewN _ _ _) (congrArg (World.drewN _) (Nat.add_assoc _ _ _))⟩)));try go_wp2_with(first|(go_at_call 79;(with_reducible refine(spec_l10EntryOk.calls k ac ad ae af true _ A7.out).mono ?_);rintro e eU ⟨rfl,hb⟩;replace aa:=zz (zJ aa hb);replace HB:=zz (zv zb hb);(try clear hb);obtain⟨aV,aW,aX,aY,aZ,a0,a1,a2⟩:=zc4 aa.out)|(go_at_call 81;(with_reducible refine(spec_l10Full.calls k _ _ l0 ac dv _ ?s1 ?s2 ec.out).mono ?_);(case s1=>exact zc am.out);(case s2=>exact aw.out);rintro e w' ⟨rfl,⟨nd,rfl⟩⟩;(try first|exact⟨rfl,_,World.drewN_drewN _ _ _⟩|exact⟨rfl,_,Eq.trans (World.drewN_drewN _ _ _) (congrArg (World.drewN _) (Nat.add_assoc _ _ _))⟩))))
     go_meet
     case rel=>exact⟨_,(dv),zr,H',⟨by first|omega|exact Nat.le_refl _⟩,⟨zB aa.out⟩,⟨zb⟩⟩
   ·rw[if_neg c9] at H;obtain⟨bC,du⟩:=zw c9
    (first|rw[bC]|(simp only[i64_w,i32_w];rw[bC])|skip)
    replace H:=zf H;obtain⟨ff,ed,H⟩:=H;try dsimp only at H
    have bO:=zz ed;clear ed;by_cases cR:ff=true
    ·subst cR;rw[if_pos rfl] at H;by_cases cL:ad=1
     ·rw[if_pos cL] at H;obtain⟨cP,cQ⟩:=zq cL;clear cL;have H':=zz H;clear H;obtain⟨b7,b8,b9,ca,cb,cc,cd,ce⟩:=zc4 aa.out;go_wp2_with(first|(go_at_call 79;(with_reducible refine(spec_l10EntryOk.calls k ac ad ae af true _ A7.out).mono ?_);rintro e eV ⟨rfl,hb⟩;replace aa:=zz (zJ aa hb);replace HB:=zz (zv zb hb);(try clear hb);(try clear hi))|(go_at_call 80;(with_reducible refine(spec_l10Dir.calls k _ _ l0 aD true _ ?s1 ?s2 bO.out).mono ?_);(case s1=>exact zc am.out);(case s2=>exact aw.out);rintro e w' ⟨rfl,⟨nd,rfl⟩⟩;(try first|exact⟨rfl,_,World.drewN_drewN _ _ _⟩|exact⟨rfl,_,Eq.trans (World.drewN_drewN _ _ _) (congrArg (World.drewN _) (Nat.add_assoc _ _ _))⟩);obtain⟨a3,a4,a5,a6,a7,a8,a9,ba⟩:=zc4 aa.out))
      repeat(go_quiet (first|(go_at_call 79;(with_reducible refine(spec_l10EntryOk.calls k ac ad ae af true _ A7.out).mono ?_);rintro e eV ⟨rfl,hb⟩;replace aa:=zz (zJ aa hb);replace HB:=zz (zv zb hb);(try clear hb);(try clear hi))|(go_at_call 80;(with_reducible refine(spec_l10Dir.calls k _ _ l0 aD true _ ?s1 ?s2 bO.out).mono ?_);(case s1=>exact zc am.out);(case s2=>exact aw.out);rintro e w' ⟨rfl,⟨nd,rfl⟩⟩;(try first|exact⟨rfl,_,World.drewN_drewN _ _ _⟩|exact⟨rfl,_,Eq.trans (World.drewN_drewN _ _ _) (congrArg (World.drewN _) (Nat.add_assoc _ _ _))⟩);obtain⟨a3,a4,a5,a6,a7,a8,a9,ba⟩:=zc4 aa.out));try go_wp2_with(first|(go_at_call 79;(with_reducible refine(spec_l10EntryOk.calls k ac ad ae af true _ A7.out).mono ?_);rintro e eV ⟨rfl,hb⟩;replace aa:=zz (zJ aa hb);replace HB:=zz (zv zb hb);(try clear hb);(try clear hi))|(go_at_call 80;(with_reducible refine(spec_l10Dir.calls k _ _ l0 aD true _ ?s1 ?s2 bO.out).mono ?_);(case s1=>exact zc am.out);(case s2=>exact aw.out);rintro e w' ⟨rfl,⟨nd,rfl⟩⟩;(try first|exact⟨rfl,_,World.drewN_drewN _ _ _⟩|exact⟨rfl,_,Eq.trans (World.drewN_drewN _ _ _) (congrArg (World.drewN _) (Nat.add_assoc _ _ _))⟩);obtain⟨a3,a4,a5,a6,a7,a8,a9,ba⟩:=zc4 aa.out)))
      go_meet
      case rel=>exact⟨_,(false),zr,H',⟨by first|omega|exact Nat.le_refl _⟩,⟨zB aa.out⟩,⟨zb⟩⟩
     ·rw[if_neg cL] at H;obtain⟨cP,cQ⟩:=zw cL;replace H:=zf H;obtain⟨dw,ee,H⟩:=H;try dsimp only at H
      have ef:=zz ee;clear ee;have H':=zz H;clear H;obtain⟨cf,cg,ch,ci,cj,ck,cm,cn⟩:=zc4 aa.out;go_wp2_with(first|(go_at_call 79;(with_reducible refine(spec_l10EntryOk.calls k ac ad ae af true _ A7.out).mono ?_);rintro e eW ⟨rfl,hb⟩;replace aa:=zz (zJ aa hb);replace HB:=zz (zv zb hb);(try clear hb);(try clear hi))|(go_at_call 80;(with_reducible refine(spec_l10Dir.calls k _ _ l0 aD true _ ?s1 ?s2 bO.out).mono ?_);(case s1=>exact zc am.out);(case s2=>exact aw.out);rintro e w' ⟨rfl,⟨nd,rfl⟩⟩;(try first|exact⟨rfl,_,World.drewN_drewN _ _ _⟩|exact⟨rfl,_,Eq.trans (World.drewN_drewN _ _ _) (congrArg (World.drewN _) (Nat.add_assoc _ _ _))⟩);obtain⟨bb,bc,bd,be,bf,bg,bh,bi⟩:=zc4 aa.out)|(go_at_call 81;(with_reducible refine(spec_l10Full.calls k _ _ l0 ac dw _ ?s1 ?s2 ef.out).mono ?_);(case s1=>exact zC am.out);(case s2=>exact aw.out);rintro e w' ⟨rfl,⟨nd,rfl⟩⟩;(try first|exact⟨rfl,_,World.drewN_drewN _ _ _⟩|exact⟨rfl,_,Eq.trans (World.drewN_drewN _ _ _) (congrArg (World.drewN _) (Nat.add_assoc _ _ _))⟩)))
      repeat(go_quiet (first|(go_at_call 79;(with_reducible refine(spec_l10EntryOk.calls k ac ad ae af true _ A7.out).mono ?_);rintro e eW ⟨rfl,hb⟩;replace aa:=zz (zJ aa hb);replace HB:=zz (zv zb hb);(try clear hb);(try clear hi))|(go_at_call 80;(with_reducible refine(spec_l10Dir.calls k _ _ l0 aD true _ ?s1 ?s2 bO.out).mono ?_);(case s1=>exact zc am.out);(case s2=>exact aw.out);rintro e w' ⟨rfl,⟨nd,rfl⟩⟩;(try first|exact⟨rfl,_,World.drewN_drewN _ _ _⟩|exact⟨rfl,_,Eq.trans (World.drewN_drewN _ _ _) (congrArg (World.drewN _) (Nat.add_assoc _ _ _))⟩);obtain⟨bb,bc,bd,be,bf,bg,bh,bi⟩:=zc4 aa.out)|(go_at_call 81;(with_reducible refine(spec_l10Full.calls k _ _ l0 ac dw _ ?s1 ?s2 ef.out).mono ?_);(case s1=>exact zC am.out);(case s2=>exact aw.out);rintro e w' ⟨rfl,⟨nd,rfl⟩⟩;(try first|exact⟨rfl,_,World.drewN_drewN _ _ _⟩|exact⟨rfl,_,Eq.trans (World.drewN_drewN _ _ _) (congrArg (World.drewN _) (Nat.add_assoc _ _ _))⟩)));try go_wp2_with(first|(go_at_call 79;(with_reducible refine(spec_l10EntryOk.calls k ac ad ae af true _ A7.out).mono ?_);rintro e eW ⟨rfl,hb⟩;replace aa:=zz (zJ aa hb);replace HB:=zz (zv zb hb);(try clear hb);(try clear hi))|(go_at_call 80;(with_reducible refine(spec_l10Dir.calls k _ _ l0 aD true _ ?s1 ?s2 bO.out).mono ?_);(case s1=>exact zc am.out);(case s2=>exact aw.out);rintro e w' ⟨rfl,⟨nd,rfl⟩⟩;(try first|exact⟨rfl,_,World.drewN_drewN _ _ _⟩|exact⟨rfl,_,Eq.trans (World.drewN_drewN _ _ _) (congrArg (World.drewN _) (Nat.add_assoc _ _ _))⟩);obtain⟨bb,bc,bd,be,bf,bg,bh,bi⟩:=zc4 aa.out)|(go_at_call 81;(with_reducible refine(spec_l10Full.calls k _ _ l0 ac dw _ ?s1 ?s2 ef.out).mono ?_);(case s1=>exact zC am.out);(case s2=>exact aw.out);rintro e w' ⟨rfl,⟨nd,rfl⟩⟩;(try first|exact⟨rfl,_,World.drewN_drewN _ _ _⟩|exact⟨rfl,_,Eq.trans (World.drewN_drewN _ _ _) (congrArg (World.drewN _) (Nat.add_assoc _ _ _))⟩))))
      go_meet
      case rel=>exact⟨_,(dw),zr,H',⟨by first|omega|exact Nat.le_refl _⟩,⟨zB aa.out⟩,⟨zb⟩⟩
    ·replace cR:=Bool.eq_false_iff.mpr cR;subst cR;rw[if_neg (show¬(false=true) by decide)] at H;have H':=zz H;clear H;obtain⟨co,cp,cq,cr,cu,cv,cw,cx⟩:=zc4 aa.out;go_wp2_with(first|(go_at_call 79;(with_reducible refine(spec_l10EntryOk.calls k ac ad ae af true _ A7.out).mono ?_);rintro e eX ⟨rfl,hb⟩;replace aa:=zz (zJ aa hb);replace HB:=zz (zv zb hb);(try clear hb);(try clear hi))|(go_at_call 80;(with_reducible refine(spec_l10Dir.calls k _ _ l0 aD false _ ?s1 ?s2 bO.out).mono ?_);(case s1=>exact zc am.out);(case s2=>exact aw.out);rintro e w' ⟨rfl,⟨nd,rfl⟩⟩;(try first|exact⟨rfl,_,World.drewN_drewN _ _ _⟩|exact⟨rfl,_,Eq.trans (World.drewN_drewN _ _ _) (congrArg (World.drewN _) (Nat.add_assoc _ _ _))⟩)))
     repeat(go_quiet (first|(go_at_call 79;(with_reducible refine(spec_l10EntryOk.calls k ac ad ae af true _ A7.out).mono ?_);rintro e eX ⟨rfl,hb⟩;replace aa:=zz (zJ aa hb);replace HB:=zz (zv zb hb);(try clear hb);(try clear hi))|(go_at_call 80;(with_reducible refine(spec_l10Dir.calls k _ _ l0 aD false _ ?s1 ?s2 bO.out).mono ?_);(case s1=>exact zc am.out);(case s2=>exact aw.out);rintro e w' ⟨rfl,⟨nd,rfl⟩⟩;(try first|exact⟨rfl,_,World.drewN_drewN _ _ _⟩|exact⟨rfl,_,Eq.trans (World.drewN_drewN _ _ _) (congrArg (World.drewN _) (Nat.add_assoc _ _ _))⟩)));try go_wp2_with(first|(go_at_call 79;(with_reducible refine(spec_l10EntryOk.calls k ac ad ae af true _ A7.out).mono ?_);rintro e eX ⟨rfl,hb⟩;replace aa:=zz (zJ aa hb);replace HB:=zz (zv zb hb);(try clear hb);(try clear hi))|(go_at_call 80;(with_reducible refine(spec_l10Dir.calls k _ _ l0 aD false _ ?s1 ?s2 bO.out).mono ?_);(case s1=>exact zc am.out);(case s2=>exact aw.out);rintro e w' ⟨rfl,⟨nd,rfl⟩⟩;(try first|exact⟨rfl,_,World.drewN_drewN _ _ _⟩|exact⟨rfl,_,Eq.trans (World.drewN_drewN _ _ _) (congrArg (World.drewN _) (Nat.add_assoc _ _ _))⟩))))
     go_meet
     case rel=>exact⟨_,(true),zr,H',⟨by first|omega|exact Nat.le_refl _⟩,⟨zB aa.out⟩,⟨zb⟩⟩
  ·replace c8:=Bool.eq_false_iff.mpr c8;subst c8;rw[if_neg (show¬(false=true) by decide)] at H;have H':=zz H;clear H;obtain⟨cy,cz,cA,cB,cC,cD,cE,cF⟩:=zc4 aa.out;go_wp2_with(first|(go_at_call 79;(with_reducible refine(spec_l10EntryOk.calls k ac ad ae af false _ A7.out).mono ?_);rintro e eY ⟨rfl,hb⟩;replace aa:=zz (zJ aa hb);replace HB:=zz (zv zb hb);(try clear hb);(try clear hi)))
   repeat(go_quiet (first|(go_at_call 79;(with_reducible refine(spec_l10EntryOk.calls k ac ad ae af false _ A7.out).mono ?_);rintro e eY ⟨rfl,hb⟩;replace aa:=zz (zJ aa hb);replace HB:=zz (zv zb hb);(try clear hb);(try clear hi)));try go_wp2_with(first|(go_at_call 79;(with_reducible refine(spec_l10EntryOk.calls k ac ad ae af false _ A7.out).mono ?_);rintro e eY ⟨rfl,hb⟩;replace aa:=zz (zJ aa hb);replace HB:=zz (zv zb hb);(try clear hb);(try clear hi))))
   go_meet
   case rel=>exact⟨_,(true),zr,H',⟨by first|omega|exact Nat.le_refl _⟩,⟨zB aa.out⟩,⟨zb⟩⟩
 case rest=>
  clear ea;try clear c8
  try clear c9
  try clear bC
  try clear du
  try clear cK
  try clear cN
  try clear cO
  try clear cR
  try clear cL
  try clear cP
  try clear cQ
  try clear bR
  try clear bS
  try clear bT
  try clear bU
  try clear aJ
  try clear aK
  try clear aM
  try clear aN
  try clear bZ
  try clear b0
  try clear b1
  try clear b2
  try clear aV
  try clear aW
  try clear aX
  try clear aY
  try clear b7
  try clear b8
  try clear b9
  try clear ca
  try clear a3
  try clear a4
  try clear a5
  try clear a6
  try clear cf
  try clear cg
  try clear ch
  try clear ci
  try clear bb
  try clear bc
  try clear bd
  try clear be
  try clear co
  try clear cp
  try clear cq
  try clear cr
  try clear cy
  try clear cz
  try clear cA
  try clear cB
  try clear br
  try clear bs
  try clear bu
  try clear bv
  try clear bV
  try clear bW
  try clear bX
  try clear bY
  try clear aQ
  try clear aR
  try clear aT
  try clear aU
  try clear b3
  try clear b4
  try clear b5
  try clear b6
  try clear aZ
  try clear a0
  try clear a1
  try clear a2
  try clear cb
  try clear cc
  try clear cd
  try clear ce
  try clear a7
  try clear a8
  try clear a9
  try clear ba
  try clear cj
  try clear ck
  try clear cm
  try clear cn
  try clear bf
  try clear bg
  try clear bh
  try clear bi
  try clear cu
  try clear cv
  try clear cw
  try clear cx
  try clear cC
  try clear cD
  try clear cE
  try clear cF
  try clear bw
  try clear bz
  try clear bA
  try clear bB
  obtain⟨kq,cM,rfl,HA,bM,aa,HB⟩:=hcut;cases kq with
  |zero=>exact absurd HA.out (by simp[spec_l10Put.j0])
  |succ eg=>
   have H:=HA.out;clear HA;simp only[spec_l10Put.j0] at H;by_cases cY:cM=true
   ·subst cY;rw[if_pos rfl] at H;replace H:=zf H;obtain⟨dS,eh,H⟩:=H;try dsimp only at H
    have ei:=zz eh;clear eh;simp only[Option.some.injEq,Prod.mk.injEq] at H;obtain⟨rfl,rfl⟩:=H;go_wp2_with(first|(go_at_call 82;(with_reducible refine(spec_l10Copy.calls _ _ l0 dS _ ?s1 ?s2 ei.out).mono ?_);(case s1=>exact zc am.out);(case s2=>exact aw.out);rintro e eZ ⟨ej,rfl,ap,hb⟩;have dx:=zz (Kd.qU (Kd.R_newB ap (g:=ag) (o:= .cells #[.string ac,.int .i64 ad,.string ae,.bool af] 63 (0,0)) (zB aa.out)) (qE zb));replace aa:=zz (zJ aa hb);replace HB:=zz (zv zb hb);(try clear hb);(try clear ap)))
    repeat(go_quiet (first|(go_at_call 82;(with_reducible refine(spec_l10Copy.calls _ _ l0 dS _ ?s1 ?s2 ei.out).mono ?_);(case s1=>exact zc am.out);(case s2=>exact aw.out);rintro e eZ ⟨ej,rfl,ap,hb⟩;have dx:=zz (Kd.qU (Kd.R_newB ap (g:=ag) (o:= .cells #[.string ac,.int .i64 ad,.string ae,.bool af] 63 (0,0)) (zB aa.out)) (qE zb));replace aa:=zz (zJ aa hb);replace HB:=zz (zv zb hb);(try clear hb);(try clear ap)));try go_wp2_with(first|(go_at_call 82;(with_reducible refine(spec_l10Copy.calls _ _ l0 dS _ ?s1 ?s2 ei.out).mono ?_);(case s1=>exact zc am.out);(case s2=>exact aw.out);rintro e eZ ⟨ej,rfl,ap,hb⟩;have dx:=zz (Kd.qU (Kd.R_newB ap (g:=ag) (o:= .cells #[.string ac,.int .i64 ad,.string ae,.bool af] 63 (0,0)) (zB aa.out)) (qE zb));replace aa:=zz (zJ aa hb);replace HB:=zz (zv zb hb);(try clear hb);(try clear ap))))
    go_ret2
    exact⟨_,ze,by(with_reducible repeat(first|apply Kd.vE|apply Kd.vD|apply Kd.qZ));exact Kd.qM dx.out (fun _ hk=>trivial),zb⟩
   replace cY:=Bool.eq_false_iff.mpr cY;subst cY;rw[if_neg (show¬(false=true) by decide)] at H;obtain⟨ek,dy⟩:∃y_:List (S63),y_=(([]:List (S63))):=⟨_,rfl⟩
   replace H:(spec_l10Put.l0 eg l0 ek false 0 ac ad ae af)=some (r1,r2):=yN0 dy H;have bH:=zz dy;clear dy;have H':=zz H;clear H;go_wp2_with(first|(refine yL k63 63 39 ?_;intro em e0 ax hb hg_ hnew_;clear hg_ hnew_;(first|rw[<-bH.out] at ax|(simp only[Int.reduceToNat] at ax;rw[<-bH.out] at ax));have dz:=zz (Kd.qU (Kd.R_newB ax (g:=ag) (o:= .cells #[.string ac,.int .i64 ad,.string ae,.bool af] 63 (0,0)) (zB aa.out)) (qE zb));replace aa:=zz (zJ aa hb);replace HB:=zz (zv zb hb);clear hb ax))
   repeat(go_quiet (first|(refine yL k63 63 39 ?_;intro em e0 ax hb hg_ hnew_;clear hg_ hnew_;(first|rw[<-bH.out] at ax|(simp only[Int.reduceToNat] at ax;rw[<-bH.out] at ax));have dz:=zz (Kd.qU (Kd.R_newB ax (g:=ag) (o:= .cells #[.string ac,.int .i64 ad,.string ae,.bool af] 63 (0,0)) (zB aa.out)) (qE zb));replace aa:=zz (zJ aa hb);replace HB:=zz (zv zb hb);clear hb ax));try go_wp2_with(first|(refine yL k63 63 39 ?_;intro em e0 ax hb hg_ hnew_;clear hg_ hnew_;(first|rw[<-bH.out] at ax|(simp only[Int.reduceToNat] at ax;rw[<-bH.out] at ax));have dz:=zz (Kd.qU (Kd.R_newB ax (g:=ag) (o:= .cells #[.string ac,.int .i64 ad,.string ae,.bool af] 63 (0,0)) (zB aa.out)) (qE zb));replace aa:=zz (zJ aa hb);replace HB:=zz (zv zb hb);clear hb ax)))
   go_loopg[7,8,9] eg (fun kq v7 v8 v9 w'=>∃(ao:List (S63)) (bq:Bool) (ab:Int),v8= .bool bq/\v9= .int .i64 ab/\qB (spec_l10Put.l0 kq l0 ao bq ab ac ad ae af=some (r1,r2))/\qB (kq<=eg)/\qB (Kd.R k63 63 w' w.heap.size (fun k_=>k_≠ag) v7 ao)/\qB (w'.heap[ag]?=some (.cells #[.string ac,.int .i64 ad,.string ae,.bool af] 63 (0,0)))/\qB (Below w.heap.size w w'))
   case atStart=>exact⟨(ek),(false),(0),zr,zr,H',⟨Nat.le_refl _⟩,⟨by(with_reducible repeat(first|apply Kd.vE|apply Kd.vD|apply Kd.qZ));exact Kd.qM dz.out (fun _ hk=>hk.2)⟩,⟨zB aa.out⟩,⟨zb⟩⟩
   case round=>
    clear H';try clear c8
    try clear c9
    try clear bC
    try clear du
    try clear cK
    try clear cN
    try clear cO
    try clear cR
    try clear cL
    try clear cP
    try clear cQ
    try clear cY
    try clear bR
    try clear bS
    try clear bT
    try clear bU
    try clear aJ
    try clear aK
    try clear aM
    try clear aN
    try clear bZ
    try clear b0
    try clear b1
    try clear b2
    try clear aV
    try clear aW
    try clear aX
    try clear aY
    try clear b7
    try clear b8
    try clear b9
    try clear ca
    try clear a3
    try clear a4
    try clear a5
    try clear a6
    try clear cf
    try clear cg
    try clear ch
    try clear ci
    try clear bb
    try clear bc
    try clear bd
    try clear be
    try clear co
    try clear cp
    try clear cq
    try clear cr
    try clear cy
    try clear cz
    try clear cA
    try clear cB
    try clear br
    try clear bs
    try clear bu
    try clear bv
    try clear bV
    try clear bW
    try clear bX
    try clear bY
    try clear aQ
    try clear aR
    try clear aT
    try clear aU
    try clear b3
    try clear b4
    try clear b5
    try clear b6
    try clear aZ
    try clear a0
    try clear a1
    try clear a2
    try clear cb
    try clear cc
    try clear cd
    try clear ce
    try clear a7
    try clear a8
    try clear a9
    try clear ba
    try clear cj
    try clear ck
    try clear cm
    try clear cn
    try clear bf
    try clear bg
    try clear bh
    try clear bi
    try clear cu
    try clear cv
    try clear cw
    try clear cx
    try clear cC
    try clear cD
    try clear cE
    try clear cF
    try clear bw
    try clear bz
    try clear bA
    try clear bB
    obtain⟨ao,bq,ab,rfl,rfl,HA,bN,ah,aa,HB⟩:=hrel;cases gk with
    |zero=>exact absurd HA.out (by simp[spec_l10Put.l0])
    |succ k2=>
     have H:=HA.out;clear HA;simp only[spec_l10Put.l0] at H;refine yDn H ?_ ?_<;>clear H<;>intro eF H
     ·by_cases dX:bq=true
      ·subst dX;rw[if_pos rfl] at H;refine yCn H ?_ ?_<;>clear H<;>intro dY H
       ·have eG:=zgtn dY;have eH:decide (500<ao.length)=false:=z0 yo_;clear dY;simp only[Option.some.injEq,Prod.mk.injEq] at H;obtain⟨rfl,rfl⟩:=H;obtain⟨gq,gr,fg⟩:=Kd.qW ah.out;subst fg;go_wp2;repeat(go_quiet (fail);try go_wp2)
        go_ret2
        exact⟨_,ze,by(with_reducible repeat(first|apply Kd.vE|apply Kd.vD|apply Kd.qZ));exact Kd.qM ah.out (fun _ hk=>trivial),zb⟩
       have eG:=zgt dY;have eH:decide (500<ao.length)=true:=z1 yo_;clear dY;replace H:=zf H;obtain⟨dT,en,H⟩:=H;try dsimp only at H
       have eo:=zz en;clear en;simp only[Option.some.injEq,Prod.mk.injEq] at H;obtain⟨rfl,rfl⟩:=H;obtain⟨gs,gt,fh⟩:=Kd.qW ah.out;subst fh;go_wp2_with(first|(go_at_call 82;(with_reducible refine(spec_l10Copy.calls _ _ l0 dT _ ?s1 ?s2 eo.out).mono ?_);(case s1=>exact zc am.out);(case s2=>exact aw.out);rintro e e1 ⟨ep,rfl,ap,hb⟩;have dA:=zz (Kd.qU (Kd.R_newB (Kd.R_new' ap (Kd.R_lt (zR ah.out))) (g:=ag) (o:= .cells #[.string ac,.int .i64 ad,.string ae,.bool af] 63 (0,0)) (zB aa.out)) (qE zb));replace ah:=zz (Kd.R_elder' (zR ah.out) (Kd.R_base ap) hb);replace aa:=zz (zJ aa hb);replace HB:=zz (zv zb hb);(try clear hb);(try clear hk);(try clear ap)))
       repeat(go_quiet (first|(go_at_call 82;(with_reducible refine(spec_l10Copy.calls _ _ l0 dT _ ?s1 ?s2 eo.out).mono ?_);(case s1=>exact zc am.out);(case s2=>exact aw.out);rintro e e1 ⟨ep,rfl,ap,hb⟩;have dA:=zz (Kd.qU (Kd.R_newB (Kd.R_new' ap (Kd.R_lt (zR ah.out))) (g:=ag) (o:= .cells #[.string ac,.int .i64 ad,.string ae,.bool af] 63 (0,0)) (zB aa.out)) (qE zb));replace ah:=zz (Kd.R_elder' (zR ah.out) (Kd.R_base ap) hb);replace aa:=zz (zJ aa hb);replace HB:=zz (zv zb hb);(try clear hb);(try clear hk);(try clear ap)));try go_wp2_with(first|(go_at_call 82;(with_reducible refine(spec_l10Copy.calls _ _ l0 dT _ ?s1 ?s2 eo.out).mono ?_);(case s1=>exact zc am.out);(case s2=>exact aw.out);rintro e e1 ⟨ep,rfl,ap,hb⟩;have dA:=zz (Kd.qU (Kd.R_newB (Kd.R_new' ap (Kd.R_lt (zR ah.out))) (g:=ag) (o:= .cells #[.string ac,.int .i64 ad,.string ae,.bool af] 63 (0,0)) (zB aa.out)) (qE zb));replace ah:=zz (Kd.R_elder' (zR ah.out) (Kd.R_base ap) hb);replace aa:=zz (zJ aa hb);replace HB:=zz (zv zb hb);(try clear hb);(try clear hk);(try clear ap))))
       go_ret2
       exact⟨_,ze,by(with_reducible repeat(first|apply Kd.vE|apply Kd.vD|apply Kd.qZ));exact Kd.qM dA.out (fun _ hk=>trivial),zb⟩
      replace dX:=Bool.eq_false_iff.mpr dX;subst dX;rw[if_neg (show¬(false=true) by decide)] at H;replace H:=yA H;obtain⟨e2,H⟩:=H;have bI:=zz e2;clear e2;obtain⟨dB,dC⟩:∃y_:List (S63),y_=(ao++[(⟨ac,ad,ae,af⟩:S63)]):=⟨_,rfl⟩
      replace H:(if(dB.length:Int)>500 then((spec_l10Copy.f l0).bind fun cS=>(some (cS,false))) else(some (dB,true)))=some (r1,r2):=yN0 dC H;have bJ:=zz dC;clear dC;refine yCn H ?_ ?_<;>clear H<;>intro dZ H
      ·have eI:=zgtn dZ;have eJ:decide (500<dB.length)=false:=z0 yo_;clear dZ;simp only[Option.some.injEq,Prod.mk.injEq] at H;obtain⟨rfl,rfl⟩:=H;obtain⟨fm,fo,fp,fq,fs,ft,fu,fv⟩:=zc4 aa.out;go_wp2_with(first|((with_reducible refine qP (b:= .append) (xs:= #[.tmp 79,.tmp 81]) rfl ?_);at_builtin;refine Kd.R_append k63 (w0:=w) w.heap.size rfl (.tmp 79) (.tmp 81) 31 63 (.agg #[(.string ⟨#[]⟩),(.int .i64 0),(.string ⟨#[]⟩),(.bool false)]) 48 rfl Tryz.underlying31 info63 rfl yd_ yo_ u7 ao (⟨ac,ad,ae,af⟩:S63) [.string ac,.int .i64 ad,.string ae,.bool af] (fun k_=>k_≠ag) (fun _=>False) rfl rfl ?aP (fun _ hk=>hk.elim) ?aF ?aO ?aB ?aS ?aL ?_;(case aP=>exact k63_mkM _ _ _ (⟨ac,ad,ae,af⟩:S63));(case aB=>exact zb);(case aF=>exact(fun k_ hk=>Kd.freshB (g:=ag) (o:= .cells #[.string ac,.int .i64 ad,.string ae,.bool af] 63 (0,0)) (zB aa.out) k_ hk));(case aO=>exact(zR ah.out));(case aS=>exact(qE zb));(case aL=>have:=bI.out;omega);intro cT e3 ho hb hg hat;rw[<-bJ.out] at ho;replace aa:=zz (zK aa hg (Kd.R_away ah.out (fun _ hk=>hk)));replace HB:=zz (hb);have an:=zz (ho);clear ah;clear ho hb hg hat;obtain⟨er,et,cU⟩:=Kd.qW an.out;subst cU))
       repeat(go_quiet (first|((with_reducible refine qP (b:= .append) (xs:= #[.tmp 79,.tmp 81]) rfl ?_);at_builtin;refine Kd.R_append k63 (w0:=w) w.heap.size rfl (.tmp 79) (.tmp 81) 31 63 (.agg #[(.string ⟨#[]⟩),(.int .i64 0),(.string ⟨#[]⟩),(.bool false)]) 48 rfl Tryz.underlying31 info63 rfl yd_ yo_ u7 ao (⟨ac,ad,ae,af⟩:S63) [.string ac,.int .i64 ad,.string ae,.bool af] (fun k_=>k_≠ag) (fun _=>False) rfl rfl ?aP (fun _ hk=>hk.elim) ?aF ?aO ?aB ?aS ?aL ?_;(case aP=>exact k63_mkM _ _ _ (⟨ac,ad,ae,af⟩:S63));(case aB=>exact zb);(case aF=>exact(fun k_ hk=>Kd.freshB (g:=ag) (o:= .cells #[.string ac,.int .i64 ad,.string ae,.bool af] 63 (0,0)) (zB aa.out) k_ hk));(case aO=>exact(zR ah.out));(case aS=>exact(qE zb));(case aL=>have:=bI.out;omega);intro cT e3 ho hb hg hat;rw[<-bJ.out] at ho;replace aa:=zz (zK aa hg (Kd.R_away ah.out (fun _ hk=>hk)));replace HB:=zz (hb);have an:=zz (ho);clear ah;clear ho hb hg hat;obtain⟨er,et,cU⟩:=Kd.qW an.out;subst cU));try go_wp2_with(first|((with_reducible refine qP (b:= .append) (xs:= #[.tmp 79,.tmp 81]) rfl ?_);at_builtin;refine Kd.R_append k63 (w0:=w) w.heap.size rfl (.tmp 79) (.tmp 81) 31 63 (.agg #[(.string ⟨#[]⟩),(.int .i64 0),(.string ⟨#[]⟩),(.bool false)]) 48 rfl Tryz.underlying31 info63 rfl yd_ yo_ u7 ao (⟨ac,ad,ae,af⟩:S63) [.string ac,.int .i64 ad,.string ae,.bool af] (fun k_=>k_≠ag) (fun _=>False) rfl rfl ?aP (fun _ hk=>hk.elim) ?aF ?aO ?aB ?aS ?aL ?_;(case aP=>exact k63_mkM _ _ _ (⟨ac,ad,ae,af⟩:S63));(case aB=>exact zb);(case aF=>exact(fun k_ hk=>Kd.freshB (g:=ag) (o:= .cells #[.string ac,.int .i64 ad,.string ae,.bool af] 63 (0,0)) (zB aa.out) k_ hk));(case aO=>exact(zR ah.out));(case aS=>exact(qE zb));(case aL=>have:=bI.out;omega);intro cT e3 ho hb hg hat;rw[<-bJ.out] at ho;replace aa:=zz (zK aa hg (Kd.R_away ah.out (fun _ hk=>hk)));replace HB:=zz (hb);have an:=zz (ho);clear ah;clear ho hb hg hat;obtain⟨er,et,cU⟩:=Kd.qW an.out;subst cU)))
       go_ret2
       exact⟨_,ze,by(with_reducible repeat(first|apply Kd.vE|apply Kd.vD|apply Kd.qZ));exact Kd.qM an.out (fun _ hk=>trivial),zb⟩
      have eI:=zgt dZ;have eJ:decide (500<dB.length)=true:=z1 yo_;clear dZ;replace H:=zf H;obtain⟨cS,eu,H⟩:=H;try dsimp only at H
      have cX:=zz eu;clear eu;simp only[Option.some.injEq,Prod.mk.injEq] at H;obtain⟨rfl,rfl⟩:=H;obtain⟨fw,fx,fy,fz,fA,fB,fC,fD⟩:=zc4 aa.out;go_wp2_with(first|((with_reducible refine qP (b:= .append) (xs:= #[.tmp 79,.tmp 81]) rfl ?_);at_builtin;refine Kd.R_append k63 (w0:=w) w.heap.size rfl (.tmp 79) (.tmp 81) 31 63 (.agg #[(.string ⟨#[]⟩),(.int .i64 0),(.string ⟨#[]⟩),(.bool false)]) 48 rfl Tryz.underlying31 info63 rfl yd_ yo_ u7 ao (⟨ac,ad,ae,af⟩:S63) [.string ac,.int .i64 ad,.string ae,.bool af] (fun k_=>k_≠ag) (fun _=>False) rfl rfl ?aP (fun _ hk=>hk.elim) ?aF ?aO ?aB ?aS ?aL ?_;(case aP=>exact k63_mkM _ _ _ (⟨ac,ad,ae,af⟩:S63));(case aB=>exact zb);(case aF=>exact(fun k_ hk=>Kd.freshB (g:=ag) (o:= .cells #[.string ac,.int .i64 ad,.string ae,.bool af] 63 (0,0)) (zB aa.out) k_ hk));(case aO=>exact(zR ah.out));(case aS=>exact(qE zb));(case aL=>have:=bI.out;omega);intro cT e4 ho hb hg hat;rw[<-bJ.out] at ho;replace aa:=zz (zK aa hg (Kd.R_away ah.out (fun _ hk=>hk)));replace HB:=zz (hb);have an:=zz (ho);clear ah;clear ho hb hg hat;obtain⟨ev,ew,cV⟩:=Kd.qW an.out;subst cV)|(go_at_call 82;(with_reducible refine(spec_l10Copy.calls _ _ l0 cS _ ?s1 ?s2 cX.out).mono ?_);(case s1=>exact zc am.out);(case s2=>exact aw.out);rintro e e5 ⟨ey,rfl,ap,hb⟩;have dD:=zz (Kd.qU (Kd.R_newB (Kd.R_new' ap (Kd.R_lt (zR an.out))) (g:=ag) (o:= .cells #[.string ac,.int .i64 ad,.string ae,.bool af] 63 (0,0)) (zB aa.out)) (qE zb));replace an:=zz (Kd.R_elder' (zR an.out) (Kd.R_base ap) hb);replace aa:=zz (zJ aa hb);replace HB:=zz (zv zb hb);(try clear hb);(try clear hk);(try clear ap)))
      repeat(go_quiet (first|((with_reducible refine qP (b:= .append) (xs:= #[.tmp 79,.tmp 81]) rfl ?_);at_builtin;refine Kd.R_append k63 (w0:=w) w.heap.size rfl (.tmp 79) (.tmp 81) 31 63 (.agg #[(.string ⟨#[]⟩),(.int .i64 0),(.string ⟨#[]⟩),(.bool false)]) 48 rfl Tryz.underlying31 info63 rfl yd_ yo_ u7 ao (⟨ac,ad,ae,af⟩:S63) [.string ac,.int .i64 ad,.string ae,.bool af] (fun k_=>k_≠ag) (fun _=>False) rfl rfl ?aP (fun _ hk=>hk.elim) ?aF ?aO ?aB ?aS ?aL ?_;(case aP=>exact k63_mkM _ _ _ (⟨ac,ad,ae,af⟩:S63));(case aB=>exact zb);(case aF=>exact(fun k_ hk=>Kd.freshB (g:=ag) (o:= .cells #[.string ac,.int .i64 ad,.string ae,.bool af] 63 (0,0)) (zB aa.out) k_ hk));(case aO=>exact(zR ah.out));(case aS=>exact(qE zb));(case aL=>have:=bI.out;omega);intro cT e4 ho hb hg hat;rw[<-bJ.out] at ho;replace aa:=zz (zK aa hg (Kd.R_away ah.out (fun _ hk=>hk)));replace HB:=zz (hb);have an:=zz (ho);clear ah;clear ho hb hg hat;obtain⟨ev,ew,cV⟩:=Kd.qW an.out;subst cV)|(go_at_call 82;(with_reducible refine(spec_l10Copy.calls _ _ l0 cS _ ?s1 ?s2 cX.out).mono ?_);(case s1=>exact zc am.out);(case s2=>exact aw.out);rintro e e5 ⟨ey,rfl,ap,hb⟩;have dD:=zz (Kd.qU (Kd.R_newB (Kd.R_new' ap (Kd.R_lt (zR an.out))) (g:=ag) (o:= .cells #[.string ac,.int .i64 ad,.string ae,.bool af] 63 (0,0)) (zB aa.out)) (qE zb));replace an:=zz (Kd.R_elder' (zR an.out) (Kd.R_base ap) hb);replace aa:=zz (zJ aa hb);replace HB:=zz (zv zb hb);(try clear hb);(try clear hk);(try clear ap)));try go_wp2_with(first|((with_reducible refine qP (b:= .append) (xs:= #[.tmp 79,.tmp 81]) rfl ?_);at_builtin;refine Kd.R_append k63 (w0:=w) w.heap.size rfl (.tmp 79) (.tmp 81) 31 63 (.agg #[(.string ⟨#[]⟩),(.int .i64 0),(.string ⟨#[]⟩),(.bool false)]) 48 rfl Tryz.underlying31 info63 rfl yd_ yo_ u7 ao (⟨ac,ad,ae,af⟩:S63) [.string ac,.int .i64 ad,.string ae,.bool af] (fun k_=>k_≠ag) (fun _=>False) rfl rfl ?aP (fun _ hk=>hk.elim) ?aF ?aO ?aB ?aS ?aL ?_;(case aP=>exact k63_mkM _ _ _ (⟨ac,ad,ae,af⟩:S63));(case aB=>exact zb);(case aF=>exact(fun k_ hk=>Kd.freshB (g:=ag) (o:= .cells #[.string ac,.int .i64 ad,.string ae,.bool af] 63 (0,0)) (zB aa.out) k_ hk));(case aO=>exact(zR ah.out));(case aS=>exact(qE zb));(case aL=>have:=bI.out;omega);intro cT e4 ho hb hg hat;rw[<-bJ.out] at ho;replace aa:=zz (zK aa hg (Kd.R_away ah.out (fun _ hk=>hk)));replace HB:=zz (hb);have an:=zz (ho);clear ah;clear ho hb hg hat;obtain⟨ev,ew,cV⟩:=Kd.qW an.out;subst cV)|(go_at_call 82;(with_reducible refine(spec_l10Copy.calls _ _ l0 cS _ ?s1 ?s2 cX.out).mono ?_);(case s1=>exact zc am.out);(case s2=>exact aw.out);rintro e e5 ⟨ey,rfl,ap,hb⟩;have dD:=zz (Kd.qU (Kd.R_newB (Kd.R_new' ap (Kd.R_lt (zR an.out))) (g:=ag) (o:= .cells #[.string ac,.int .i64 ad,.string ae,.bool af] 63 (0,0)) (zB aa.out)) (qE zb));replace aa:=zz (zJ aa hb);replace HB:=zz (zv zb hb);(try clear hb);(try clear hk);(try clear ap))))
      go_ret2
      exact⟨_,ze,by(with_reducible repeat(first|apply Kd.vE|apply Kd.vD|apply Kd.qZ));exact Kd.qM dD.out (fun _ hk=>trivial),zb⟩
     have dU:=zz H;clear H
     go_upto_region 9 with(fail)
     repeat(go_quiet (fail);go_upto_region 9 with(fail))
     go_cut [57] (fun gh wc=>∃(kq:Nat) (bP:Bool),gh= .bool bP/\qB (spec_l10Put.j2 kq l0 ao bq ab bP ac ad ae af=some (r1,r2))/\qB (kq<=k2)/\qB (Kd.R k63 63 wc w.heap.size (fun k_=>k_≠ag) u7 ao)/\qB (wc.heap[ag]?=some (.cells #[.string ac,.int .i64 ad,.string ae,.bool af] 63 (0,0)))/\qB (Below w.heap.size w wc))
     case first=>
      have H:=dU.out;clear dU;by_cases dQ:bq=true
      ·subst dQ;rw[if_pos rfl] at H;have H':=zz H;clear H;go_wp2;repeat(go_quiet (fail);try go_wp2)
       go_meet
       case rel=>exact⟨_,(false),zr,H',⟨by have:=bM.out;have:=bN.out;first|omega|exact Nat.le_refl _⟩,⟨zR ah.out⟩,⟨zB aa.out⟩,⟨zb⟩⟩
      ·replace dQ:=Bool.eq_false_iff.mpr dQ;subst dQ;rw[if_neg (show¬(false=true) by decide)] at H;by_cases dR:0<=ab
       ·rw[if_pos dR] at H;have dE:=z1 dR;clear dR
        (first|rw[dE]|(simp only[i64_w,i32_w];rw[dE])|skip)
        have H':=zz H;clear H;have dF:0<=(ab:Int):=z2;have dG:ab<(l0.length:Int):=z2;obtain⟨gi,fi,cG,cH,cI,cJ⟩:=vF am.out ab dF dG;cases fi;replace cG:=z3 HB.out cG;replace cH:=z3 HB.out cH;replace cI:=z3 HB.out cI;replace cJ:=z3 HB.out cJ;replace dF:=eq_true dF;replace dG:=eq_true dG;obtain⟨d2,d3,d4,d5,d6,d7,d8,d9⟩:=zc4 aa.out;go_wp2;repeat(go_quiet (fail);try go_wp2)
        go_meet
        case rel=>exact⟨_,(!(Op.bytesLess (((qA l0 ab).f0).toList) ac.toList)),zr,H',⟨by have:=bM.out;have:=bN.out;first|omega|exact Nat.le_refl _⟩,⟨zR ah.out⟩,⟨zB aa.out⟩,⟨zb⟩⟩
       ·rw[if_neg dR] at H;exact absurd H (by simp)
     case rest=>
      clear dU;try clear c8
      try clear c9
      try clear bC
      try clear du
      try clear cK
      try clear cN
      try clear cO
      try clear cR
      try clear cL
      try clear cP
      try clear cQ
      try clear cY
      try clear eF
      try clear dQ
      try clear dR
      try clear dE
      try clear bR
      try clear bS
      try clear bT
      try clear bU
      try clear aJ
      try clear aK
      try clear aM
      try clear aN
      try clear bZ
      try clear b0
      try clear b1
      try clear b2
      try clear aV
      try clear aW
      try clear aX
      try clear aY
      try clear b7
      try clear b8
      try clear b9
      try clear ca
      try clear a3
      try clear a4
      try clear a5
      try clear a6
      try clear cf
      try clear cg
      try clear ch
      try clear ci
      try clear bb
      try clear bc
      try clear bd
      try clear be
      try clear co
      try clear cp
      try clear cq
      try clear cr
      try clear cy
      try clear cz
      try clear cA
      try clear cB
      try clear d2
      try clear d3
      try clear d4
      try clear d5
      try clear br
      try clear bs
      try clear bu
      try clear bv
      try clear bV
      try clear bW
      try clear bX
      try clear bY
      try clear aQ
      try clear aR
      try clear aT
      try clear aU
      try clear b3
      try clear b4
      try clear b5
      try clear b6
      try clear aZ
      try clear a0
      try clear a1
      try clear a2
      try clear cb
      try clear cc
      try clear cd
      try clear ce
      try clear a7
      try clear a8
      try clear a9
      try clear ba
      try clear cj
      try clear ck
      try clear cm
      try clear cn
      try clear bf
      try clear bg
      try clear bh
      try clear bi
      try clear cu
      try clear cv
      try clear cw
      try clear cx
      try clear cC
      try clear cD
      try clear cE
      try clear cF
      try clear d6
      try clear d7
      try clear d8
      try clear d9
      try clear bw
      try clear bz
      try clear bA
      try clear bB
      try clear cG
      try clear cH
      try clear cI
      try clear cJ
      try clear dF
      try clear dG
      obtain⟨kq,bP,rfl,HA,bD,ah,aa,HB⟩:=hcut;cases kq with
      |zero=>exact absurd HA.out (by simp[spec_l10Put.j2])
      |succ bE=>
       have H:=HA.out;clear HA;simp only[spec_l10Put.j2] at H;by_cases d0:bP=true
       ·subst d0;rw[if_pos rfl] at H;replace H:=yA H;obtain⟨e6,H⟩:=H;have bK:=zz e6;clear e6;obtain⟨bF,dH⟩:∃y_:List (S63),y_=(ao++[(⟨ac,ad,ae,af⟩:S63)]):=⟨_,rfl⟩
        replace H:(if 0<=ab then(if ab<(l0.length:Int) then(if((qA l0 ab).f0).toList=ac.toList then(spec_l10Put.l0 bE l0 bF true (wrap64 (ab+1)) ac ad ae af) else(if bF.length<2932031007402 then(spec_l10Put.l0 bE l0 (bF++[(⟨(qA l0 ab).f0,(qA l0 ab).f1,(qA l0 ab).f2,(qA l0 ab).f3⟩:S63)]) true (wrap64 (ab+1)) ac ad ae af) else(none))) else(none)) else(none))=some (r1,r2):=yN0 dH H;have bL:=zz dH;clear dH;replace H:=yAD H;obtain⟨gj,H⟩:=H;replace H:=yAD H;obtain⟨gl,H⟩:=H;refine yC H ?_ ?_<;>clear H<;>intro ez H
        ·obtain⟨eK,eL⟩:=zq ez;clear ez;have H':=zz H;clear H;obtain⟨fE,fF,fG,fH,fI,fJ,fK,fL⟩:=zc4 aa.out;go_wp2_with(first|((with_reducible refine qP (b:= .append) (xs:= #[.tmp 58,.tmp 60]) rfl ?_);at_builtin;refine Kd.R_append k63 (w0:=w) w.heap.size rfl (.tmp 58) (.tmp 60) 31 63 (.agg #[(.string ⟨#[]⟩),(.int .i64 0),(.string ⟨#[]⟩),(.bool false)]) 48 rfl Tryz.underlying31 info63 rfl yd_ yo_ u7 ao (⟨ac,ad,ae,af⟩:S63) [.string ac,.int .i64 ad,.string ae,.bool af] (fun k_=>k_≠ag) (fun _=>False) rfl rfl ?aP (fun _ hk=>hk.elim) ?aF ?aO ?aB ?aS ?aL ?_;(case aP=>exact k63_mkM _ _ _ (⟨ac,ad,ae,af⟩:S63));(case aB=>exact zb);(case aF=>exact(fun k_ hk=>Kd.freshB (g:=ag) (o:= .cells #[.string ac,.int .i64 ad,.string ae,.bool af] 63 (0,0)) (zB aa.out) k_ hk));(case aO=>exact(zR ah.out));(case aS=>exact(qE zb));(case aL=>have:=bK.out;omega);intro bG e7 ho hb hg hat;rw[<-bL.out] at ho;replace aa:=zz (zK aa hg (Kd.R_away ah.out (fun _ hk=>hk)));replace HB:=zz (hb);have av:=zz (ho);clear ah;clear ho hb hg hat;have ar:0<=(ab:Int):=z2;have au:ab<(l0.length:Int):=z2;obtain⟨aI,aE,ai,aj,ak,al⟩:=vF am.out ab ar au;cases aE;replace ai:=z3 HB.out ai;replace aj:=z3 HB.out aj;replace ak:=z3 HB.out ak;replace al:=z3 HB.out al;replace ar:=eq_true ar;replace au:=eq_true au;obtain⟨cZ,c5,c6,c7,da,db,dc,de⟩:=zc4 aa.out))
         repeat(go_quiet (first|((with_reducible refine qP (b:= .append) (xs:= #[.tmp 58,.tmp 60]) rfl ?_);at_builtin;refine Kd.R_append k63 (w0:=w) w.heap.size rfl (.tmp 58) (.tmp 60) 31 63 (.agg #[(.string ⟨#[]⟩),(.int .i64 0),(.string ⟨#[]⟩),(.bool false)]) 48 rfl Tryz.underlying31 info63 rfl yd_ yo_ u7 ao (⟨ac,ad,ae,af⟩:S63) [.string ac,.int .i64 ad,.string ae,.bool af] (fun k_=>k_≠ag) (fun _=>False) rfl rfl ?aP (fun _ hk=>hk.elim) ?aF ?aO ?aB ?aS ?aL ?_;(case aP=>exact k63_mkM _ _ _ (⟨ac,ad,ae,af⟩:S63));(case aB=>exact zb);(case aF=>exact(fun k_ hk=>Kd.freshB (g:=ag) (o:= .cells #[.string ac,.int .i64 ad,.string ae,.bool af] 63 (0,0)) (zB aa.out) k_ hk));(case aO=>exact(zR ah.out));(case aS=>exact(qE zb));(case aL=>have:=bK.out;omega);intro bG e7 ho hb hg hat;rw[<-bL.out] at ho;replace aa:=zz (zK aa hg (Kd.R_away ah.out (fun _ hk=>hk)));replace HB:=zz (hb);have av:=zz (ho);clear ah;clear ho hb hg hat;have ar:0<=(ab:Int):=z2;have au:ab<(l0.length:Int):=z2;obtain⟨aI,aE,ai,aj,ak,al⟩:=vF am.out ab ar au;cases aE;replace ai:=z3 HB.out ai;replace aj:=z3 HB.out aj;replace ak:=z3 HB.out ak;replace al:=z3 HB.out al;replace ar:=eq_true ar;replace au:=eq_true au;obtain⟨cZ,c5,c6,c7,da,db,dc,de⟩:=zc4 aa.out));try go_wp2_with(first|((with_reducible refine qP (b:= .append) (xs:= #[.tmp 58,.tmp 60]) rfl ?_);at_builtin;refine Kd.R_append k63 (w0:=w) w.heap.size rfl (.tmp 58) (.tmp 60) 31 63 (.agg #[(.string ⟨#[]⟩),(.int .i64 0),(.string ⟨#[]⟩),(.bool false)]) 48 rfl Tryz.underlying31 info63 rfl yd_ yo_ u7 ao (⟨ac,ad,ae,af⟩:S63) [.string ac,.int .i64 ad,.string ae,.bool af] (fun k_=>k_≠ag) (fun _=>False) rfl rfl ?aP (fun _ hk=>hk.elim) ?aF ?aO ?aB ?aS ?aL ?_;(case aP=>exact k63_mkM _ _ _ (⟨ac,ad,ae,af⟩:S63));(case aB=>exact zb);(case aF=>exact(fun k_ hk=>Kd.freshB (g:=ag) (o:= .cells #[.string ac,.int .i64 ad,.string ae,.bool af] 63 (0,0)) (zB aa.out) k_ hk));(case aO=>exact(zR ah.out));(case aS=>exact(qE zb));(case aL=>have:=bK.out;omega);intro bG e7 ho hb hg hat;rw[<-bL.out] at ho;replace aa:=zz (zK aa hg (Kd.R_away ah.out (fun _ hk=>hk)));replace HB:=zz (hb);have av:=zz (ho);clear ah;clear ho hb hg hat;have ar:0<=(ab:Int):=z2;have au:ab<(l0.length:Int):=z2;obtain⟨aI,aE,ai,aj,ak,al⟩:=vF am.out ab ar au;cases aE;replace ai:=z3 HB.out ai;replace aj:=z3 HB.out aj;replace ak:=z3 HB.out ak;replace al:=z3 HB.out al;replace ar:=eq_true ar;replace au:=eq_true au;obtain⟨cZ,c5,c6,c7,da,db,dc,de⟩:=zc4 aa.out)))
         go_roundg bE
         case measure=>exact yM3 bM bN bD
         case rel=>exact⟨(bF),(true),(wrap64 (ab+1)),zr,zr,H',⟨yM3 bM bN bD⟩,⟨zR av.out⟩,⟨zB aa.out⟩,⟨zb⟩⟩
        obtain⟨eK,eL⟩:=zw ez;replace H:=yA H;obtain⟨e8,H⟩:=H;have dI:=zz e8;clear e8;obtain⟨eA,dJ⟩:∃y_:List (S63),y_=(bF++[(⟨(qA l0 ab).f0,(qA l0 ab).f1,(qA l0 ab).f2,(qA l0 ab).f3⟩:S63)]):=⟨_,rfl⟩
        replace H:(spec_l10Put.l0 bE l0 eA true (wrap64 (ab+1)) ac ad ae af)=some (r1,r2):=yN0 dJ H;have dK:=zz dJ;clear dJ;have H':=zz H;clear H;obtain⟨fM,fN,fO,fP,fQ,fR,fS,fT⟩:=zc4 aa.out;go_wp2_with(first|((with_reducible refine qP (b:= .append) (xs:= #[.tmp 58,.tmp 60]) rfl ?_);at_builtin;refine Kd.R_append k63 (w0:=w) w.heap.size rfl (.tmp 58) (.tmp 60) 31 63 (.agg #[(.string ⟨#[]⟩),(.int .i64 0),(.string ⟨#[]⟩),(.bool false)]) 48 rfl Tryz.underlying31 info63 rfl yd_ yo_ u7 ao (⟨ac,ad,ae,af⟩:S63) [.string ac,.int .i64 ad,.string ae,.bool af] (fun k_=>k_≠ag) (fun _=>False) rfl rfl ?aP (fun _ hk=>hk.elim) ?aF ?aO ?aB ?aS ?aL ?_;(case aP=>exact k63_mkM _ _ _ (⟨ac,ad,ae,af⟩:S63));(case aB=>exact zb);(case aF=>exact(fun k_ hk=>Kd.freshB (g:=ag) (o:= .cells #[.string ac,.int .i64 ad,.string ae,.bool af] 63 (0,0)) (zB aa.out) k_ hk));(case aO=>exact(zR ah.out));(case aS=>exact(qE zb));(case aL=>have:=bK.out;omega);intro bG e9 ho hb hg hat;rw[<-bL.out] at ho;replace aa:=zz (zK aa hg (Kd.R_away ah.out (fun _ hk=>hk)));replace HB:=zz (hb);have av:=zz (ho);clear ah;clear ho hb hg hat;have ar:0<=(ab:Int):=z2;have au:ab<(l0.length:Int):=z2;obtain⟨aI,aE,ai,aj,ak,al⟩:=vF am.out ab ar au;cases aE;replace ai:=z3 HB.out ai;replace aj:=z3 HB.out aj;replace ak:=z3 HB.out ak;replace al:=z3 HB.out al;replace ar:=eq_true ar;replace au:=eq_true au;obtain⟨df,dh,di,dj,dk,dl,dm,dn⟩:=zc4 aa.out;have aG:0<=(ab:Int):=z2;have aH:ab<(l0.length:Int):=z2;obtain⟨bQ,cW,ay,az,aA,aC⟩:=vF am.out ab aG aH;obtain rfl:aI=bQ:=(by injection cW);replace ay:=z3 HB.out ay;replace az:=z3 HB.out az;replace aA:=z3 HB.out aA;replace aC:=z3 HB.out aC;replace aG:=eq_true aG;replace aH:=eq_true aH)|((with_reducible refine qP (b:= .append) (xs:= #[.tmp 70,.tmp 75]) rfl ?_);at_builtin;refine Kd.R_append k63 (w0:=w) w.heap.size rfl (.tmp 70) (.tmp 75) 31 63 (.agg #[(.string ⟨#[]⟩),(.int .i64 0),(.string ⟨#[]⟩),(.bool false)]) 48 rfl Tryz.underlying31 info63 rfl yd_ yo_ bG bF (⟨(qA l0 ab).f0,(qA l0 ab).f1,(qA l0 ab).f2,(qA l0 ab).f3⟩:S63) [.string ((qA l0 ab).f0),.int .i64 ((qA l0 ab).f1),.string ((qA l0 ab).f2),.bool ((qA l0 ab).f3)] (fun k_=>k_≠ag) (fun _=>False) rfl rfl ?aP (fun _ hk=>hk.elim) ?aF ?aO ?aB ?aS ?aL ?_;(case aP=>exact k63_mkM _ _ _ (⟨(qA l0 ab).f0,(qA l0 ab).f1,(qA l0 ab).f2,(qA l0 ab).f3⟩:S63));(case aB=>exact zb);(case aF=>exact(fun k_ hk=>Kd.freshB (g:=ag) (o:= .cells #[.string ac,.int .i64 ad,.string ae,.bool af] 63 (0,0)) (zB aa.out) k_ hk));(case aO=>exact(zR av.out));(case aS=>exact(qE zb));(case aL=>have:=dI.out;omega);intro eB fa ho hb hg hat;rw[<-dK.out] at ho;replace aa:=zz (zK aa hg (Kd.R_away av.out (fun _ hk=>hk)));replace HB:=zz (hb);have dL:=zz (ho);clear av;clear ho hb hg hat))
        repeat(go_quiet (first|((with_reducible refine qP (b:= .append) (xs:= #[.tmp 58,.tmp 60]) rfl ?_);at_builtin;refine Kd.R_append k63 (w0:=w) w.heap.size rfl (.tmp 58) (.tmp 60) 31 63 (.agg #[(.string ⟨#[]⟩),(.int .i64 0),(.string ⟨#[]⟩),(.bool false)]) 48 rfl Tryz.underlying31 info63 rfl yd_ yo_ u7 ao (⟨ac,ad,ae,af⟩:S63) [.string ac,.int .i64 ad,.string ae,.bool af] (fun k_=>k_≠ag) (fun _=>False) rfl rfl ?aP (fun _ hk=>hk.elim) ?aF ?aO ?aB ?aS ?aL ?_;(case aP=>exact k63_mkM _ _ _ (⟨ac,ad,ae,af⟩:S63));(case aB=>exact zb);(case aF=>exact(fun k_ hk=>Kd.freshB (g:=ag) (o:= .cells #[.string ac,.int .i64 ad,.string ae,.bool af] 63 (0,0)) (zB aa.out) k_ hk));(case aO=>exact(zR ah.out));(case aS=>exact(qE zb));(case aL=>have:=bK.out;omega);intro bG e9 ho hb hg hat;rw[<-bL.out] at ho;replace aa:=zz (zK aa hg (Kd.R_away ah.out (fun _ hk=>hk)));replace HB:=zz (hb);have av:=zz (ho);clear ah;clear ho hb hg hat;have ar:0<=(ab:Int):=z2;have au:ab<(l0.length:Int):=z2;obtain⟨aI,aE,ai,aj,ak,al⟩:=vF am.out ab ar au;cases aE;replace ai:=z3 HB.out ai;replace aj:=z3 HB.out aj;replace ak:=z3 HB.out ak;replace al:=z3 HB.out al;replace ar:=eq_true ar;replace au:=eq_true au;obtain⟨df,dh,di,dj,dk,dl,dm,dn⟩:=zc4 aa.out;have aG:0<=(ab:Int):=z2;have aH:ab<(l0.length:Int):=z2;obtain⟨bQ,cW,ay,az,aA,aC⟩:=vF am.out ab aG aH;obtain rfl:aI=bQ:=(by injection cW);replace ay:=z3 HB.out ay;replace az:=z3 HB.out az;replace aA:=z3 HB.out aA;replace aC:=z3 HB.out aC;replace aG:=eq_true aG;replace aH:=eq_true aH)|((with_reducible refine qP (b:= .append) (xs:= #[.tmp 70,.tmp 75]) rfl ?_);at_builtin;refine Kd.R_append k63 (w0:=w) w.heap.size rfl (.tmp 70) (.tmp 75) 31 63 (.agg #[(.string ⟨#[]⟩),(.int .i64 0),(.string ⟨#[]⟩),(.bool false)]) 48 rfl Tryz.underlying31 info63 rfl yd_ yo_ bG bF (⟨(qA l0 ab).f0,(qA l0 ab).f1,(qA l0 ab).f2,(qA l0 ab).f3⟩:S63) [.string ((qA l0 ab).f0),.int .i64 ((qA l0 ab).f1),.string ((qA l0 ab).f2),.bool ((qA l0 ab).f3)] (fun k_=>k_≠ag) (fun _=>False) rfl rfl ?aP (fun _ hk=>hk.elim) ?aF ?aO ?aB ?aS ?aL ?_;(case aP=>exact k63_mkM _ _ _ (⟨(qA l0 ab).f0,(qA l0 ab).f1,(qA l0 ab).f2,(qA l0 ab).f3⟩:S63));(case aB=>exact zb);(case aF=>exact(fun k_ hk=>Kd.freshB (g:=ag) (o:= .cells #[.string ac,.int .i64 ad,.string ae,.bool af] 63 (0,0)) (zB aa.out) k_ hk));(case aO=>exact(zR av.out));(case aS=>exact(qE zb));(case aL=>have:=dI.out;omega);intro eB fa ho hb hg hat;rw[<-dK.out] at ho;replace aa:=zz (zK aa hg (Kd.R_away av.out (fun _ hk=>hk)));replace HB:=zz (hb);have dL:=zz (ho);clear av;clear ho hb hg hat));try go_wp2_with(first|((with_reducible refine qP (b:= .append) (xs:= #[.tmp 58,.tmp 60]) rfl ?_);at_builtin;refine Kd.R_append k63 (w0:=w) w.heap.size rfl (.tmp 58) (.tmp 60) 31 63 (.agg #[(.string ⟨#[]⟩),(.int .i64 0),(.string ⟨#[]⟩),(.bool false)]) 48 rfl Tryz.underlying31 info63 rfl yd_ yo_ u7 ao (⟨ac,ad,ae,af⟩:S63) [.string ac,.int .i64 ad,.string ae,.bool af] (fun k_=>k_≠ag) (fun _=>False) rfl rfl ?aP (fun _ hk=>hk.elim) ?aF ?aO ?aB ?aS ?aL ?_;(case aP=>exact k63_mkM _ _ _ (⟨ac,ad,ae,af⟩:S63));(case aB=>exact zb);(case aF=>exact(fun k_ hk=>Kd.freshB (g:=ag) (o:= .cells #[.string ac,.int .i64 ad,.string ae,.bool af] 63 (0,0)) (zB aa.out) k_ hk));(case aO=>exact(zR ah.out));(case aS=>exact(qE zb));(case aL=>have:=bK.out;omega);intro bG e9 ho hb hg hat;rw[<-bL.out] at ho;replace aa:=zz (zK aa hg (Kd.R_away ah.out (fun _ hk=>hk)));replace HB:=zz (hb);have av:=zz (ho);clear ah;clear ho hb hg hat;have ar:0<=(ab:Int):=z2;have au:ab<(l0.length:Int):=z2;obtain⟨aI,aE,ai,aj,ak,al⟩:=vF am.out ab ar au;cases aE;replace ai:=z3 HB.out ai;replace aj:=z3 HB.out aj;replace ak:=z3 HB.out ak;replace al:=z3 HB.out al;replace ar:=eq_true ar;replace au:=eq_true au;obtain⟨df,dh,di,dj,dk,dl,dm,dn⟩:=zc4 aa.out;have aG:0<=(ab:Int):=z2;have aH:ab<(l0.length:Int):=z2;obtain⟨bQ,cW,ay,az,aA,aC⟩:=vF am.out ab aG aH;obtain rfl:aI=bQ:=(by injection cW);replace ay:=z3 HB.out ay;replace az:=z3 HB.out az;replace aA:=z3 HB.out aA;replace aC:=z3 HB.out aC;replace aG:=eq_true aG;replace aH:=eq_true aH)|((with_reducible refine qP (b:= .append) (xs:= #[.tmp 70,.tmp 75]) rfl ?_);at_builtin;refine Kd.R_append k63 (w0:=w) w.heap.size rfl (.tmp 70) (.tmp 75) 31 63 (.agg #[(.string ⟨#[]⟩),(.int .i64 0),(.string ⟨#[]⟩),(.bool false)]) 48 rfl Tryz.underlying31 info63 rfl yd_ yo_ bG bF (⟨(qA l0 ab).f0,(qA l0 ab).f1,(qA l0 ab).f2,(qA l0 ab).f3⟩:S63) [.string ((qA l0 ab).f0),.int .i64 ((qA l0 ab).f1),.string ((qA l0 ab).f2),.bool ((qA l0 ab).f3)] (fun k_=>k_≠ag) (fun _=>False) rfl rfl ?aP (fun _ hk=>hk.elim) ?aF ?aO ?aB ?aS ?aL ?_;(case aP=>exact k63_mkM _ _ _ (⟨(qA l0 ab).f0,(qA l0 ab).f1,(qA l0 ab).f2,(qA l0 ab).f3⟩:S63));(case aB=>exact zb);(case aF=>exact(fun k_ hk=>Kd.freshB (g:=ag) (o:= .cells #[.string ac,.int .i64 ad,.string ae,.bool af] 63 (0,0)) (zB aa.out) k_ hk));(case aO=>exact(zR av.out));(case aS=>exact(qE zb));(case aL=>have:=dI.out;omega);intro eB fa ho hb hg hat;rw[<-dK.out] at ho;replace aa:=zz (zK aa hg (Kd.R_away av.out (fun _ hk=>hk)));replace HB:=zz (hb);have dL:=zz (ho);clear av;clear ho hb hg hat)))
        go_roundg bE
        case measure=>exact yM3 bM bN bD
        case rel=>exact⟨(eA),(true),(wrap64 (ab+1)),zr,zr,H',⟨yM3 bM bN bD⟩,⟨zR dL.out⟩,⟨zB aa.out⟩,⟨zb⟩⟩
       replace d0:=Bool.eq_false_iff.mpr d0;subst d0;rw[if_neg (show¬(false=true) by decide)] at H;replace H:=yAD H;obtain⟨gm,H⟩:=H;replace H:=yAD H;obtain⟨gn,H⟩:=H;refine yC H ?_ ?_<;>clear H<;>intro eC H
       ·obtain⟨eM,eN⟩:=zq eC;clear eC;have H':=zz H;clear H;have fj:=yt (0<=(ab:Int));have fk:=yt (ab<(l0.length:Int));obtain⟨d1,dV,bj,bk,bn,bo⟩:=vF am.out ab z2 z2;cases dV;replace bj:=z3 HB.out bj;replace bk:=z3 HB.out bk;replace bn:=z3 HB.out bn;replace bo:=z3 HB.out bo;obtain⟨fU,fV,fW,fX,fY,fZ,f4,f5⟩:=zc4 aa.out;go_wp2;repeat(go_quiet (fail);try go_wp2)
        go_roundg bE
        case measure=>exact yM3 bM bN bD
        case rel=>exact⟨(ao),(bq),(wrap64 (ab+1)),zr,zr,H',⟨yM3 bM bN bD⟩,⟨zR ah.out⟩,⟨zB aa.out⟩,⟨zb⟩⟩
       obtain⟨eM,eN⟩:=zw eC;replace H:=yA H;obtain⟨fb,H⟩:=H;have dM:=zz fb;clear fb;obtain⟨eD,dN⟩:∃y_:List (S63),y_=(ao++[(⟨(qA l0 ab).f0,(qA l0 ab).f1,(qA l0 ab).f2,(qA l0 ab).f3⟩:S63)]):=⟨_,rfl⟩
       replace H:(spec_l10Put.l0 bE l0 eD bq (wrap64 (ab+1)) ac ad ae af)=some (r1,r2):=yN0 dN H;have dO:=zz dN;clear dN;have H':=zz H;clear H;have fj:=yt (0<=(ab:Int));have fk:=yt (ab<(l0.length:Int));obtain⟨d1,dV,bj,bk,bn,bo⟩:=vF am.out ab z2 z2;cases dV;replace bj:=z3 HB.out bj;replace bk:=z3 HB.out bk;replace bn:=z3 HB.out bn;replace bo:=z3 HB.out bo;obtain⟨f6,f7,f8,f9,ga,gb,ge,gf⟩:=zc4 aa.out;have gu:=yt (0<=(ab:Int));have gv:=yt (ab<(l0.length:Int));obtain⟨eO,fl,dp,dq,dr,dt⟩:=vF am.out ab z2 z2;obtain rfl:d1=eO:=(by injection fl)
       replace dp:=z3 HB.out dp;replace dq:=z3 HB.out dq;replace dr:=z3 HB.out dr;replace dt:=z3 HB.out dt;go_wp2_with(first|((with_reducible refine qP (b:= .append) (xs:= #[.tmp 70,.tmp 75]) rfl ?_);at_builtin;refine Kd.R_append k63 (w0:=w) w.heap.size rfl (.tmp 70) (.tmp 75) 31 63 (.agg #[(.string ⟨#[]⟩),(.int .i64 0),(.string ⟨#[]⟩),(.bool false)]) 48 rfl Tryz.underlying31 info63 rfl yd_ yo_ u7 ao (⟨(qA l0 ab).f0,(qA l0 ab).f1,(qA l0 ab).f2,(qA l0 ab).f3⟩:S63) [.string ((qA l0 ab).f0),.int .i64 ((qA l0 ab).f1),.string ((qA l0 ab).f2),.bool ((qA l0 ab).f3)] (fun k_=>k_≠ag) (fun _=>False) rfl rfl ?aP (fun _ hk=>hk.elim) ?aF ?aO ?aB ?aS ?aL ?_;(case aP=>exact k63_mkM _ _ _ (⟨(qA l0 ab).f0,(qA l0 ab).f1,(qA l0 ab).f2,(qA l0 ab).f3⟩:S63));(case aB=>exact zb);(case aF=>exact(fun k_ hk=>Kd.freshB (g:=ag) (o:= .cells #[.string ac,.int .i64 ad,.string ae,.bool af] 63 (0,0)) (zB aa.out) k_ hk));(case aO=>exact(zR ah.out));(case aS=>exact(qE zb));(case aL=>have:=dM.out;omega);intro eE fc ho hb hg hat;rw[<-dO.out] at ho;replace aa:=zz (zK aa hg (Kd.R_away ah.out (fun _ hk=>hk)));replace HB:=zz (hb);have dP:=zz (ho);clear ah;clear ho hb hg hat))
       repeat(go_quiet (first|((with_reducible refine qP (b:= .append) (xs:= #[.tmp 70,.tmp 75]) rfl ?_);at_builtin;refine Kd.R_append k63 (w0:=w) w.heap.size rfl (.tmp 70) (.tmp 75) 31 63 (.agg #[(.string ⟨#[]⟩),(.int .i64 0),(.string ⟨#[]⟩),(.bool false)]) 48 rfl Tryz.underlying31 info63 rfl yd_ yo_ u7 ao (⟨(qA l0 ab).f0,(qA l0 ab).f1,(qA l0 ab).f2,(qA l0 ab).f3⟩:S63) [.string ((qA l0 ab).f0),.int .i64 ((qA l0 ab).f1),.string ((qA l0 ab).f2),.bool ((qA l0 ab).f3)] (fun k_=>k_≠ag) (fun _=>False) rfl rfl ?aP (fun _ hk=>hk.elim) ?aF ?aO ?aB ?aS ?aL ?_;(case aP=>exact k63_mkM _ _ _ (⟨(qA l0 ab).f0,(qA l0 ab).f1,(qA l0 ab).f2,(qA l0 ab).f3⟩:S63));(case aB=>exact zb);(case aF=>exact(fun k_ hk=>Kd.freshB (g:=ag) (o:= .cells #[.string ac,.int .i64 ad,.string ae,.bool af] 63 (0,0)) (zB aa.out) k_ hk));(case aO=>exact(zR ah.out));(case aS=>exact(qE zb));(case aL=>have:=dM.out;omega);intro eE fc ho hb hg hat;rw[<-dO.out] at ho;replace aa:=zz (zK aa hg (Kd.R_away ah.out (fun _ hk=>hk)));replace HB:=zz (hb);have dP:=zz (ho);clear ah;clear ho hb hg hat));try go_wp2_with(first|((with_reducible refine qP (b:= .append) (xs:= #[.tmp 70,.tmp 75]) rfl ?_);at_builtin;refine Kd.R_append k63 (w0:=w) w.heap.size rfl (.tmp 70) (.tmp 75) 31 63 (.agg #[(.string ⟨#[]⟩),(.int .i64 0),(.string ⟨#[]⟩),(.bool false)]) 48 rfl Tryz.underlying31 info63 rfl yd_ yo_ u7 ao (⟨(qA l0 ab).f0,(qA l0 ab).f1,(qA l0 ab).f2,(qA l0 ab).f3⟩:S63) [.string ((qA l0 ab).f0),.int .i64 ((qA l0 ab).f1),.string ((qA l0 ab).f2),.bool ((qA l0 ab).f3)] (fun k_=>k_≠ag) (fun _=>False) rfl rfl ?aP (fun _ hk=>hk.elim) ?aF ?aO ?aB ?aS ?aL ?_;(case aP=>exact k63_mkM _ _ _ (⟨(qA l0 ab).f0,(qA l0 ab).f1,(qA l0 ab).f2,(qA l0 ab).f3⟩:S63));(case aB=>exact zb);(case aF=>exact(fun k_ hk=>Kd.freshB (g:=ag) (o:= .cells #[.string ac,.int .i64 ad,.string ae,.bool af] 63 (0,0)) (zB aa.out) k_ hk));(case aO=>exact(zR ah.out));(case aS=>exact(qE zb));(case aL=>have:=dM.out;omega);intro eE fc ho hb hg hat;rw[<-dO.out] at ho;replace aa:=zz (zK aa hg (Kd.R_away ah.out (fun _ hk=>hk)));replace HB:=zz (hb);have dP:=zz (ho);clear ah;clear ho hb hg hat)))
       go_roundg bE
       case measure=>exact yM3 bM bN bD
       case rel=>exact⟨(eD),(bq),(wrap64 (ab+1)),zr,zr,H',⟨yM3 bM bN bD⟩,⟨zR dP.out⟩,⟨zB aa.out⟩,⟨zb⟩⟩
end Go.Proofs.YtgccknmddhbdgaaGreatDoor.Q
