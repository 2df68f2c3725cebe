import Derived.Test.YtgccknmddhbdgaaGreatDoorE15
namespace Go.Proofs.YtgccknmddhbdgaaGreatDoor.Q
open Go.RowKit W1 W2 W3
attribute [local go_sem] max2_int min2_int max_two min_two max_three min_three max_four min_four
attribute [local go_sem high] bl_leq bl_gtr bl_geq
set_option maxHeartbeats 8000000
set_option maxRecDepth 100000
section
abbrev impl_Wrap.I:=S61
abbrev impl_Wrap.E:=S63
abbrev impl_Wrap.rI(xs:List impl_Wrap.I)(i:Int):impl_Wrap.I:=qC xs i
abbrev impl_Wrap.rE(xs:List impl_Wrap.E)(i:Int):impl_Wrap.E:=qA xs i
abbrev impl_Wrap.rS(xs:List ByteArray)(i:Int):ByteArray:=rdOf ByteArray.empty xs i
def impl_Wrap.ne(a b:impl_Wrap.E):Bool:= !((a.f0.toList)==(b.f0.toList))||(!((a.f1)==(b.f1))||(!((a.f2.toList)==(b.f2.toList))||(!((a.f3)==(b.f3)))))
def impl_Wrap.lnk(p:ByteArray)(e:impl_Wrap.E):impl_Wrap.E:=if e.f1=1 then e else⟨e.f0,3,(p++(⟨#[47]⟩:ByteArray))++e.f0,false⟩
def impl_Wrap.fits(f o:List impl_Wrap.E)(p s:ByteArray):Bool:=MapE.room f s && MapE.room o s && decide (p.size+1<=9223372036854775807/\(p++(⟨#[47]⟩:ByteArray)).size+s.size<=9223372036854775807)
def impl_Wrap.out(o:List impl_Wrap.E):List impl_Wrap.E:=(impl_sorted.out (o.map (·.f0))).map fun u=>(MapE.get u o).getD MapE.z
def impl_Wrap.tail(k:Nat)(o:List impl_Wrap.E):Option (List impl_Wrap.E×Bool):=
 if o.length<4194304/\(o.all fun e=>decide (e.f0.size<=140737488355328))=true then(impl_TreeOk.f k (impl_Wrap.out o)).bind fun b=>(if b=true then some (impl_Wrap.out o,true) else some ([],false)) else none
mutual
def impl_Wrap.l0:Nat->List impl_Wrap.I->List ByteArray->List impl_Wrap.E->List impl_Wrap.E->Int->Option (List impl_Wrap.E×Bool)
 |0,_,_,_,_,_=>none
 |k+1,x0,x1,f,o,i=>if i<(x1.length:Int) then(if 0<=i then(impl_itemOf.f k x0 (impl_Wrap.rS x1 i)).bind fun t=>(if t<0 then some ([],false) else(if t<(x0.length:Int) then impl_Wrap.l1 k x0 x1 f o i (impl_Wrap.rI x0 t).f4 (impl_Wrap.rS x1 i) 0 else none)) else none) else impl_Wrap.tail k o
def impl_Wrap.l1:Nat->List impl_Wrap.I->List ByteArray->List impl_Wrap.E->List impl_Wrap.E->Int->List impl_Wrap.E->ByteArray->Int->Option (List impl_Wrap.E×Bool)
 |0,_,_,_,_,_,_,_,_=>none
 |k+1,x0,x1,f,o,i,t,p,n=>if n<(t.length:Int) then(if 0<=n then(if impl_Wrap.fits f o p (impl_Wrap.rE t n).f0=true then(if(MapE.get (impl_Wrap.rE t n).f0 f).isSome=true then(if impl_Wrap.ne ((MapE.get (impl_Wrap.rE t n).f0 f).getD MapE.z) (impl_Wrap.rE t n)=true then some ([],false) else impl_Wrap.l1 k x0 x1 f o i t p (wrap64 (n+1))) else impl_Wrap.l1 k x0 x1 (impl_Wrap.rE t n::f) (impl_Wrap.lnk p (impl_Wrap.rE t n)::o) i t p (wrap64 (n+1))) else none) else none) else impl_Wrap.l0 k x0 x1 f o (wrap64 (i+1))
end
def impl_Wrap.f(k:Nat)(l0:List impl_Wrap.I)(l1:List S99)(l2:List S94)(l3:List S96)(ps:List ByteArray):Option (List impl_Wrap.E×Bool):=
 (impl_WorldOk.f k l0 l1 l2 l3).bind fun b=>(if b=true then(if(ps.length:Int)>2000 then some ([],false) else impl_Wrap.l0 k l0 ps [] [] 0) else some ([],false))
attribute [local go_sem high] eqA63
theorem impl_Wrap.calls(k:Nat)(A0:Option Addr)(c0:Nat)(l0:List impl_Wrap.I)(A1:Option Addr)(c1:Nat)(l1:List S99)(A2:Option Addr)(c2:Nat)(l2:List S94)(A3:Option Addr)(c3:Nat)(l3:List S96)(A4:Option Addr)(c4:Nat)(ps:List ByteArray)(r1:List impl_Wrap.E)(r2:Bool)(w:World)(aV:Kd.C k61 w A0 l0.length l0)(ay:l0.length<=c0)(aW:Kd.C k99 w A1 l1.length l1)(aX:l1.length<=c1)(aY:Kd.C k94 w A2 l2.length l2)(aZ:l2.length<=c2)(a0:Kd.C k96 w A3 l3.length l3)(a1:l3.length<=c3)(a2:Kd.C Kd.string w A4 ps.length ps)(a3:ps.length<=c4)(hG_:GOK w)(h:impl_Wrap.f k l0 l1 l2 l3 ps=some (r1,r2)):
 Calls Tryz.prog 9 #[.agg #[.slice A0 l0.length c0,.slice A1 l1.length c1,.slice A2 l2.length c2,.slice A3 l3.length c3],.slice A4 ps.length c4] w fun e w'=>∃a4:Value,e= .returned (.tuple #[a4,.bool r2])/\Kd.R k63 63 w' w.heap.size (fun _=>True) a4 r1/\Below w.heap.size w w':=by
 have bO:=Tryz.underlying39;have bP:=Tryz.underlying63;have ai:=zz aV;have ap:=zz ay;have aC:=zz aW;have aD:=zz aX;have aE:=zz aY;have aG:=zz aZ;have aH:=zz a0;have aI:=zz a1;have bw:=zz a2;have bR:=zz a3;have HG:=zz hG_;clear aV ay aW aX aY aZ a0 a1 a2 a3 hG_;have HB:=yB w;unfold impl_Wrap.f at h;replace h:=zf h;obtain⟨t0,ar,H⟩:=h;replace ar:=zz ar;cases t0 with
 |false=>
  rw[if_neg yd_] at H;simp only[Option.some.injEq,Prod.mk.injEq] at H;obtain⟨rfl,rfl⟩:=H;go_enter Tryz.func9,Tryz.ntmps9;go_wp2_with(first|(refine zX 2 39 #[.slice A0 l0.length c0,.slice A1 l1.length c1,.slice A2 l2.length c2,.slice A3 l3.length c3] ?_;intro gb_ hg w1 hbox hb;have BK:=zz hbox;have GB:=zz ((zg:w.heap.size<=gb_));replace HB:=zz (zv zb hb);clear hb hbox hg;obtain⟨aa,ab,ac,ad⟩:=zy4 BK.out)|(refine zL 27 21 Tryz.func27 #[.agg #[.slice A0 l0.length c0,.slice A1 l1.length c1,.slice A2 l2.length c2,.slice A3 l3.length c3]] ?_;(with_reducible refine(impl_WorldOk.calls k _ _ l0 _ _ l1 _ _ l2 _ _ l3 _ _ ?s1 ap.out ?s3 aD.out ?s5 aG.out ?s7 aI.out ?s9 ar.out).mono ?_);(case s1=>exact zc ai.out);(case s3=>exact zc aC.out);(case s5=>exact zc aE.out);(case s7=>exact zc aH.out);(case s9=>exact zG);rintro e w2 ⟨rfl,hb⟩;refine⟨_,rfl,?_⟩;replace BK:=zz (zJ BK hb);replace HB:=zz (zv zb hb);clear aa ab ac ad;clear hb;obtain⟨aa,ab,ac,ad⟩:=zy4 BK.out))
  go_ret2
  exact⟨_,ze,Kd.R_nil _ _ _ _ _,zb⟩
 |true=>
  rw[if_pos rfl] at H;refine yC H ?_ ?_<;>clear H<;>intro cM H
  ·have cMb:=zgt cM;have bh:decide (2000<ps.length)=true:=z1 yo_;clear cM;simp only[Option.some.injEq,Prod.mk.injEq] at H;obtain⟨rfl,rfl⟩:=H;go_enter Tryz.func9,Tryz.ntmps9;go_wp2_with(first|(refine zX 2 39 #[.slice A0 l0.length c0,.slice A1 l1.length c1,.slice A2 l2.length c2,.slice A3 l3.length c3] ?_;intro gb_ hg w1 hbox hb;have BK:=zz hbox;have GB:=zz ((zg:w.heap.size<=gb_));replace HB:=zz (zv zb hb);clear hb hbox hg;obtain⟨aa,ab,ac,ad⟩:=zy4 BK.out)|(refine zL 27 21 Tryz.func27 #[.agg #[.slice A0 l0.length c0,.slice A1 l1.length c1,.slice A2 l2.length c2,.slice A3 l3.length c3]] ?_;(with_reducible refine(impl_WorldOk.calls k _ _ l0 _ _ l1 _ _ l2 _ _ l3 _ _ ?s1 ap.out ?s3 aD.out ?s5 aG.out ?s7 aI.out ?s9 ar.out).mono ?_);(case s1=>exact zc ai.out);(case s3=>exact zc aC.out);(case s5=>exact zc aE.out);(case s7=>exact zc aH.out);(case s9=>exact zG);rintro e w2 ⟨rfl,hb⟩;refine⟨_,rfl,?_⟩;replace BK:=zz (zJ BK hb);replace HB:=zz (zv zb hb);clear aa ab ac ad;clear hb;obtain⟨aa,ab,ac,ad⟩:=zy4 BK.out))
   go_ret2
   exact⟨_,ze,Kd.R_nil _ _ _ _ _,zb⟩
  have cMb:=zgtn cM;have bh:decide (2000<ps.length)=false:=z0 yo_;clear cM;have H':=zz H;clear H;go_enter Tryz.func9,Tryz.ntmps9;go_wp2_with(first|(refine zX 2 39 #[.slice A0 l0.length c0,.slice A1 l1.length c1,.slice A2 l2.length c2,.slice A3 l3.length c3] ?_;intro gb_ hg w1 hbox hb;have BK:=zz hbox;have GB:=zz ((zg:w.heap.size<=gb_));replace HB:=zz (zv zb hb);clear hb hbox hg;obtain⟨aa,ab,ac,ad⟩:=zy4 BK.out)|(refine zL 27 21 Tryz.func27 #[.agg #[.slice A0 l0.length c0,.slice A1 l1.length c1,.slice A2 l2.length c2,.slice A3 l3.length c3]] ?_;(with_reducible refine(impl_WorldOk.calls k _ _ l0 _ _ l1 _ _ l2 _ _ l3 _ _ ?s1 ap.out ?s3 aD.out ?s5 aG.out ?s7 aI.out ?s9 ar.out).mono ?_);(case s1=>exact zc ai.out);(case s3=>exact zc aC.out);(case s5=>exact zc aE.out);(case s7=>exact zc aH.out);(case s9=>exact zG);rintro e w2 ⟨rfl,hb⟩;refine⟨_,rfl,?_⟩;replace BK:=zz (zJ BK hb);replace HB:=zz (zv zb hb);clear aa ab ac ad;clear hb;obtain⟨aa,ab,ac,ad⟩:=zy4 BK.out)|((with_reducible refine gate_dst (N:=28) rfl ?_);refine MapE.make_event ?hg (N:=28) ?hd (t:=58) ?ho ?_;(case hd=>rfl);(case hg=>rfl);(case ho=>rfl);intro bf w_bf hbf hms hb;have HF:=zz hms;have Gbf:=zz (Nat.le_trans (qE zb) hbf);have NHF:=zz (show gb_≠bf from Nat.ne_of_lt (Nat.lt_of_lt_of_le (blk_lt (zB BK.out)) hbf));replace BK:=zz (zJ BK hb);replace HB:=zz (zv zb hb);clear aa ab ac ad;clear hb hbf hms;obtain⟨aa,ab,ac,ad⟩:=zy4 BK.out)|((with_reducible refine gate_dst (N:=29) rfl ?_);refine MapE.make_event ?hg (N:=29) ?hd (t:=58) ?ho ?_;(case hd=>rfl);(case hg=>rfl);(case ho=>rfl);intro bo w_bo hbf hms hb;have HO:=zz hms;have Gbo:=zz (Nat.le_trans (qE zb) hbf);have NHO:=zz (show gb_≠bo from Nat.ne_of_lt (Nat.lt_of_lt_of_le (blk_lt (zB BK.out)) hbf));have NE:=zz (show bf≠bo from Nat.ne_of_lt (Nat.lt_of_lt_of_le (MapE.MS.lt (MapE.zm HF.out)) hbf));replace HF:=zz (MapE.MS.below (MapE.zm HF.out) hb);replace BK:=zz (zJ BK hb);replace HB:=zz (zv zb hb);clear aa ab ac ad;clear hb hbf hms;obtain⟨aa,ab,ac,ad⟩:=zy4 BK.out))
  go_loopg[32] k (fun kq bz w'=>∃(i:Int) (f o:List impl_Wrap.E),bz= .int .i64 i/\qB (impl_Wrap.l0 kq l0 ps f o i=some (r1,r2))/\qB (kq<=k)/\qB (MapE.MS w' bf f)/\qB (MapE.MS w' bo o)/\qB (w'.heap[gb_]?=some (.cells #[.slice A0 l0.length c0,.slice A1 l1.length c1,.slice A2 l2.length c2,.slice A3 l3.length c3] 39 (0,0)))/\qB (Below w.heap.size w w'))
  case atStart=>exact⟨0,[],[],zr,H',⟨Nat.le_refl _⟩,⟨MapE.zm HF.out⟩,⟨MapE.zm HO.out⟩,⟨zB BK.out⟩,⟨zb⟩⟩
  case round=>
   clear H' HF HO BK HB aa ab ac ad;obtain⟨i,f,o,rfl,HA,af,HF,HO,BK,HB⟩:=hrel;obtain⟨aa,ab,ac,ad⟩:=zy4 BK.out;cases gk with
   |zero=>exact absurd HA.out (by simp[impl_Wrap.l0])
   |succ k1=>
    have H:=HA.out;clear HA;simp only[impl_Wrap.l0] at H;refine yCn H ?_ ?_<;>clear H<;>intro q1 H
    ·have bA:=z0 q1;clear q1;obtain⟨wb,hwb⟩:∃z,z=wr:=⟨_,rfl⟩
     subst hwb;unfold impl_Wrap.tail at H;replace H:=yA H;obtain⟨e1,H⟩:=H;have OL:=zz e1.1;have OS:=zz e1.2;clear e1;replace H:=yf H;obtain⟨bt,AT_,H⟩:=H;have HE:=zz H;clear H aa ab ac ad HF BK;have HBW:=zz HB.out;have HBL:=zz (MapE.MS.lt HO.out);replace HB:=yB wb;obtain⟨i0,hi,az,aA,hz2⟩:=info_parts info9;have bB:=zz (And.intro hi (And.intro az (And.intro aA hz2)));clear hi az aA hz2;go_wp2_with(first|(refine yL Kd.string 9 88 ?_;intro bC w6 a5 hb hg_ hnew_;have HN:=zz (Ss.row0 (Kd.qU a5 (qE zb)));replace HO:=zz (MapE.MS.below (MapE.zm HO.out) hb);replace HB:=zz (zv zb hb);clear hb hg_ a5 hnew_)|(at_range;refine wpList_range_own _ rfl _ 58 rfl 9 63 MapSet.keyed Tryz.underlying58 _ bo _ _ rfl HO.out ?_;intro w7 av aJ bD;have HZ:=zz (World.ownsMap.size_le HO.out);generalize hD:MapE.of o=D0 at av HZ;have a6:=Lib.hid hD;clear hD;have HRG:=zz av;have bi:=zz (HB.out.size);replace HB:=zz (HB.out.grown aJ HB.out.size (fun j hj=>by cases hj));have HRW:=zz (World.ownsRow.kept HN.out aJ (by by_cases e_:(bC:Value).ownBlock=none;exact .inl e_;exact .inr e_));clear av aJ bD HO HN))
     go_frame
     go_loopw[15] (fun v wr=>∃(left:Lit->Bool) (cnt:Nat) (ss:List (List UInt8)),wr.ranges Tryz.prog 9 MapE.rv bo w6.heap.size o.length D0 left cnt/\ss.length+cnt<=Maps.size D0/\wr.ownsRow wb.heap.size 9 1 v ss.length (ss.map encStr)/\Collected D0 left ss/\Below wb.heap.size wb wr) (fun _ wr=>wr.rangeLeft bo w6.heap.size)
     case atStart=>exact⟨_,_,[],HRG.out,by simp,HRW.out,Collected.start D0,HB.out⟩
     case round=>
      obtain⟨left,cnt,ss,hrg,hcs,hrow,hC,hnx⟩:=hrel;have hlen:ss.length+cnt<4194304:=by have:=HZ.out;have:=OL.out;omega
      go_wp2_with(at_next;refine wpList_next_ranges _ rfl _ rfl 9 MapSet.keyed MapE.rv encStr MapE.val (fun key kl hk=>by obtain⟨x,hx,_⟩:=Maps.keyOf_str Tryz.underlying9 hk;exact⟨x,hx⟩) (fun v y hv=>by obtain⟨c,rfl,_⟩:=MapE.rv_inv hv;exact⟨c,rfl⟩) bo w6.heap.size o.length _ _ _ rfl hrg ?_ ?_)
      ·intro ay a7;have HP:=(List.perm_ext_iff_of_nodup hC.1 (impl_sorted.dd_nodup (o.map (·.f0)))).2 fun x=>by
        rw[hC.2 x,a7,<-a6.out,MapE.has_x,impl_sorted.dd_mem];simp only[List.mem_map,and_true];exact⟨fun⟨e,he,h⟩=>⟨_,⟨e,he,rfl⟩,h⟩,fun⟨_,⟨e,he,r⟩,h⟩=>⟨e,he,by rw[r];exact h⟩⟩
       have HFF:=zz (Ss.keys_f (ds:=o.map (·.f0)) (by rw[List.length_map];exact OL.out) (by simpa[List.all_map] using OS.out) HP yo_);have HSL:=zz (show(impl_sorted.out (o.map (·.f0))).length<4194304 by unfold impl_sorted.out;rw[List.length_map,List.length_mergeSort,<-HP.length_eq];omega);have HN:=zz (Ss.R_row hrow);have HO:=zz (show MapE.MS _ bo o from a6.out ▸ hrg.owns);replace HB:=zz hnx;clear ay a7 hrow hnx hC hcs hrg hlen HP;obtain⟨L0,a8⟩:∃L:List ByteArray,L=ss.map (fun x=>(⟨x.toArray⟩:ByteArray)):=⟨_,rfl⟩
       rw[<-a8] at HN HFF;clear a8;obtain⟨S,hS⟩:∃S,S=impl_sorted.out (o.map (·.f0)):=⟨_,rfl⟩
       rw[<-hS] at HFF HSL;have HSS:=zz hS;clear hS;obtain⟨A,cp,hv⟩:=Kd.qW HN.out;subst hv;go_wp2_with(first|(refine yL k63 63 99 ?_;intro bS w8 hoT hb hg_ hnew_;have HT:=zz (Kd.qU hoT (qE zb));replace HO:=zz (MapE.MS.below (MapE.zm HO.out) hb);replace HN:=zz (Kd.vH (zR HN.out) hb);replace HB:=zz (zv zb hb);clear hb hg_ hoT hnew_)|(refine zL 29 101 Tryz.func29 #[.slice A L0.length cp] ?_;(with_reducible refine(impl_sortedSet.calls A cp L0 S _ (Kd.qH (zR HN.out)).2.2 (Kd.qH HN.out).2.1 HFF.out).mono ?_);rintro e w9 ⟨v9,rfl,ho,hb⟩;refine⟨_,rfl,?_⟩;have HS:=zz (Kd.qU ho (qE zb));replace HO:=zz (MapE.MS.below (MapE.zm HO.out) hb);replace HT:=zz (Kd.vH (zR HT.out) hb);replace HB:=zz (zv zb hb);clear ho hb HN;obtain⟨A9,c9,e9⟩:=Kd.qW HS.out;subst e9))
       go_loopg[17,103] (S.length+1) (fun kq bE bj w'=>∃(x:Int) (X:List impl_Wrap.E),bj= .int .i64 x/\qB (0<=x/\x<=S.length/\x+kq=S.length+1/\X=(S.take x.toNat).map fun u=>(MapE.get u o).getD MapE.z)/\qB (MapE.MS w' bo o)/\qB (Kd.R Kd.string 9 w' wb.heap.size (fun _=>True) (.slice A9 S.length c9) S)/\qB (Kd.R k63 63 w' wb.heap.size (fun _=>True) bE X)/\qB (Below wb.heap.size wb w'))
       case atStart=>exact⟨0,[],zr,⟨⟨by omega,by omega,by omega,rfl⟩⟩,⟨MapE.zm HO.out⟩,⟨zR HS.out⟩,⟨zR HT.out⟩,⟨zb⟩⟩
       case round=>
        clear HO HS HT HB;obtain⟨x,X,rfl,HX,HO,HS,HT,HB⟩:=hrel;cases gk with
        |zero=>exact absurd HX.out.2.2.1 (by have:=HX.out.2.1;omega)
        |succ k3=>
         have HXl:=zz (show X.length=x.toNat by rw[HX.out.2.2.2,List.length_map,List.length_take];have:=HX.out.1;have:=HX.out.2.1;omega);by_cases f1:x<(S.length:Int)
         case neg=>
          have bF:=z0 f1;have eX:X=impl_Wrap.out o:=by rw[HX.out.2.2.2,List.take_of_length_le yo_,HSS.out];rfl
          clear f1;rw[<-eX] at AT_ HE;obtain⟨AX,cX,eT⟩:=Kd.qW HT.out;subst eT;cases bt with
          |true=>
           rw[if_pos rfl] at HE;have he:=HE.out;simp only[Option.some.injEq,Prod.mk.injEq] at he;obtain⟨rfl,rfl⟩:=he;go_wp2_with(first|(refine zL 30 115 Tryz.func30 #[.slice AX X.length cX] ?_;(with_reducible refine(impl_TreeOk.calls k1 _ _ X _ _ ?s1 ?s2 (GOK.below HG.out (zv HBW.out zb)) AT_.out).mono ?_);(case s1=>exact(Kd.qH (zR HT.out)).2.2);(case s2=>exact(Kd.qH HT.out).2.1);rintro e bG ⟨rfl,hb⟩;refine⟨_,rfl,?_⟩;replace HT:=zz (Kd.vH (zR HT.out) hb);replace HB:=zz (zv zb hb);clear hb))
           go_ret2
           exact⟨.slice AX X.length cX,ze,by rw[<-eX];exact Kd.qU (zR HT.out) HBW.out.size,zv HBW.out zb⟩
          |false=>
           rw[if_neg yd_] at HE;have he:=HE.out;simp only[Option.some.injEq,Prod.mk.injEq] at he;obtain⟨rfl,rfl⟩:=he;go_wp2_with(first|(refine zL 30 115 Tryz.func30 #[.slice AX X.length cX] ?_;(with_reducible refine(impl_TreeOk.calls k1 _ _ X _ _ ?s1 ?s2 (GOK.below HG.out (zv HBW.out zb)) AT_.out).mono ?_);(case s1=>exact(Kd.qH (zR HT.out)).2.2);(case s2=>exact(Kd.qH HT.out).2.1);rintro e bG ⟨rfl,hb⟩;refine⟨_,rfl,?_⟩;replace HT:=zz (Kd.vH (zR HT.out) hb);replace HB:=zz (zv zb hb);clear hb))
           go_ret2
           exact⟨_,ze,Kd.R_nil _ _ _ _ _,zv HBW.out zb⟩
         have bF:=z1 f1;have f0:=HX.out.1;have bT:=z1 f0;obtain⟨adN,eN,hxN⟩:=Kd.vA (Kd.qH HS.out).2.2 x f0 f1;cases eN;obtain⟨u,hu⟩:∃u,u=rdOf ByteArray.empty S x:=⟨_,rfl⟩
         have huS:S[x.toNat]?=some u:=by
          rw[hu];show _=some (S.getD x.toNat _);rw[List.getD_eq_getElem?_getD,List.getElem?_eq_getElem yo_];rfl
         rw[<-hu] at hxN;have HU:=zz (show u.size<=140737488355328 from MapE.out_size OS.out (HSS.out ▸ List.mem_of_getElem? huS));obtain⟨y,hy⟩:∃y,(MapE.get u o).getD MapE.z=y:=⟨_,rfl⟩
         have HY:=zz hy;have HXW:=zz (show wrap64 (x+1)=x+1 from by have h2:=HSL.out;simp[wrap64,IntKind.wrap];omega);have HXL:=zz (show X.length<2932031007402 by have h1:=HXl.out;have h2:=HSL.out;omega);have HXN:=zz (show X++[y]=(S.take (x+1).toNat).map fun u=>(MapE.get u o).getD MapE.z from by
          rw[show(x+1).toNat=x.toNat+1 by omega,List.take_add_one,huS,List.map_append,<-HX.out.2.2.2];simp[hy])
         clear hu huS hy;have bH:=zz f1;have HTB:=zz (Kd.R_base HT.out);replace f1:=eq_true f1;replace f0:=eq_true f0;go_wp2_with(first|((with_reducible refine MapE.gate_get (t:=58) (m:=108) (k:=109) (c:=false) rfl ?_);refine MapE.get_some rfl rfl rfl rfl (MapE.zm HO.out) HU.out HY.out ?_)|((with_reducible refine qP (b:= .append) (xs:= #[.tmp 107,.tmp 111]) rfl ?_);at_builtin;refine Kd.R_append k63 (w0:=wb) wb.heap.size rfl (.tmp 107) (.tmp 111) 31 63 (.agg #[(.string ⟨#[]⟩),(.int .i64 0),(.string ⟨#[]⟩),(.bool false)]) 48 rfl Tryz.underlying31 info63 rfl yd_ yo_ u17 X y [.string y.f0,.int .i64 y.f1,.string y.f2,.bool y.f3] (fun _=>True) (fun _=>False) rfl rfl ?aP (fun _ hk=>hk.elim) ?aF ?aO ?aB ?aS ?aL ?_;(case aP=>exact k63_mkM _ _ _ y);(case aB=>exact zb);(case aF=>exact(fun _ _=>trivial));(case aO=>exact(zR HT.out));(case aS=>exact(qE zb));(case aL=>have h9:=HXL.out;omega);intro bU bV ho hb hg hat;replace HO:=zz (MapE.MS.kept (MapE.zm HO.out) hg (fun e=>by have h1:=HTB.out bo e.symm;have h2:=HBL.out;omega));replace HS:=zz (Kd.R_over' (zR HS.out) (Kd.R_typed (zR HT.out)) (fun q hq=>by cases hq with|head=>decide|tail _ h=>cases h) hg);replace HB:=zz hb;replace HT:=zz ho;clear ho hb hg hat))
         go_roundg k3
         case measure=>omega
         case rel=>exact⟨wrap64 (x+1),X++[y],zr,⟨⟨by rw[HXW.out];have:=HX.out.1;omega,by rw[HXW.out];have:=bH.out;omega,by rw[HXW.out];have:=HX.out.2.2.1;omega,by rw[HXW.out];exact HXN.out⟩⟩,⟨MapE.zm HO.out⟩,⟨zR HS.out⟩,⟨zR HT.out⟩,⟨zb⟩⟩
      ·intro x c kl yd yp w2 bk hkey hlk hv hat aK hlt au a9 hen;obtain⟨x',ex,rfl,_⟩:=Maps.keyOf_str Tryz.underlying9 hkey;obtain rfl:x=x':=encStr_inj ex;have ah:=hrow.kept au (Or.inr (row_ne_iter hrow hrg).symm);have bW:=Lib.hid a9;have hbl:=HBL.out;obtain⟨hi,az,aA,hz2⟩:=bB.out;clear a9;unfold MapE.val at hen;go_wp2_with(at_builtin;refine wpList_append_own_at _ rfl _ _ 28 rfl wb.heap.size 9 i0 (.string ⟨#[]⟩) 1 16 Tryz.underlying28 hi az aA hz2 rfl yd_ _ _ _ rfl (ah.alloc _) ⟨w2.heap.size,0,none⟩ 1 1 [encStr x] rfl rfl (cell_one_new _ _ _) (by simp[Value.oneCell',encStr]) (by unfold maxLen at*;omega) yo_ (by have:=hnx.size;have:=au.size;simp;omega) ?_;intro v' w3 hown' ba bN bQ;go_frame)
       have aM:=(aK.alloc _).kept ba (row_ne_low ah hbl) (row_ne_iter ah aK);go_roundw
       case rel=>
        refine⟨_,bk,ss++[x],aM,by simp;omega,by simpa using hown',hC.step hlk hat,?_⟩;exact((hnx.grown au hnx.size (fun j hj=>by cases hj;exact bi.out)).alloc (by have:=hnx.size;have:=au.size;omega) _).grown ba (by have:=hnx.size;have:=au.size;simp;omega) (fun j hj=>(ah.lt j hj).1)
       case measure=>rw[aM.left_eq,hrg.left_eq];exact hlt
    have bA:=z1 q1;replace H:=yA H;obtain⟨q2,H⟩:=H;have bX:=z1 q2;obtain⟨adS,eS,hxS⟩:=Kd.vA bw.out i q2 q1;cases eS;replace hxS:=z3 HB.out hxS;obtain⟨p,hp⟩:∃y,y=impl_Wrap.rS ps i:=⟨_,rfl⟩
    have hp':rdOf ByteArray.empty ps i=p:=hp.symm;rw[hp'] at hxS;rw[<-hp] at H;clear hp hp';replace H:=yf H;obtain⟨t,bb,H⟩:=H;replace q1:=eq_true q1;replace q2:=eq_true q2;refine yC H ?_ ?_<;>clear H<;>intro q3 H
    ·have bI:=z1 q3;clear q3;simp only[Option.some.injEq,Prod.mk.injEq] at H;obtain⟨rfl,rfl⟩:=H;go_wp2_with(first|(refine zL 28 39 Tryz.func28 #[.slice A0 l0.length c0,.string p] ?_;(with_reducible refine(impl_itemOf.calls k1 _ _ l0 p t _ ?s1 ap.out bb.out).mono ?_);(case s1=>exact zc ai.out);rintro e w7 ⟨rfl,hb⟩;refine⟨_,rfl,?_⟩;replace HF:=zz (MapE.MS.below (MapE.zm HF.out) hb);replace HO:=zz (MapE.MS.below (MapE.zm HO.out) hb);replace BK:=zz (zJ BK hb);replace HB:=zz (zv zb hb);clear aa ab ac ad;clear hb;obtain⟨aa,ab,ac,ad⟩:=zy4 BK.out))
     go_ret2
     exact⟨_,ze,Kd.R_nil _ _ _ _ _,zb⟩
    have bI:=z0 q3;replace H:=yA H;obtain⟨q4,H⟩:=H;have bY:=z1 q4;have q5:0<=t:=by omega
    have bZ:=z1 q5;obtain⟨adI,b0,b1,b2,b3,eI,aN,aQ,aR,aT,ae,bn,bq,aw,ax⟩:=at_T61 ai.out t q5 q4;cases eI;clear aN aQ aR aT bn bq q3;have HXI:=zz ae;replace ae:=z3 HB.out ae;obtain⟨T,hT⟩:∃y,y=(impl_Wrap.rI l0 t).f4:=⟨_,rfl⟩
    have hT':(qC l0 t).f4=T:=hT.symm;rw[hT'] at ae aw ax HXI;rw[<-hT] at H;clear hT hT';have HRT:=zz ax;have HCT:=zz aw;have H':=zz H;clear H ax aw;replace q4:=eq_true q4;replace q5:=eq_true q5;go_wp2_with(first|(refine zL 28 39 Tryz.func28 #[.slice (some adI) l0.length c0,.string p] ?_;(with_reducible refine(impl_itemOf.calls k1 _ _ l0 p t _ ?s1 ap.out bb.out).mono ?_);(case s1=>exact zc ai.out);rintro e w7 ⟨rfl,hb⟩;refine⟨_,rfl,?_⟩;replace HF:=zz (MapE.MS.below (MapE.zm HF.out) hb);replace HO:=zz (MapE.MS.below (MapE.zm HO.out) hb);replace BK:=zz (zJ BK hb);replace HB:=zz (zv zb hb);clear aa ab ac ad;clear hb;obtain⟨aa,ab,ac,ad⟩:=zy4 BK.out;have aU:=z3 HB.out HXI.out))
    go_loopg[49] k1 (fun kq bJ w'=>∃(n:Int) (f o:List impl_Wrap.E),bJ= .int .i64 n/\qB (impl_Wrap.l1 kq l0 ps f o i T p n=some (r1,r2))/\qB (kq<=k1)/\qB (MapE.MS w' bf f)/\qB (MapE.MS w' bo o)/\qB (w'.heap[gb_]?=some (.cells #[.slice (some adI) l0.length c0,.slice A1 l1.length c1,.slice A2 l2.length c2,.slice A3 l3.length c3] 39 (0,0)))/\qB (Below w.heap.size w w'))
    case atStart=>exact⟨0,f,o,zr,H',⟨Nat.le_refl _⟩,⟨MapE.zm HF.out⟩,⟨MapE.zm HO.out⟩,⟨zB BK.out⟩,⟨zb⟩⟩
    case round=>
     clear H' HF HO BK HB aa ab ac ad hxS ae aU;obtain⟨n,f,o,rfl,HA,ag,HF,HO,BK,HB⟩:=hrel;obtain⟨aa,ab,ac,ad⟩:=zy4 BK.out;cases gk with
     |zero=>exact absurd HA.out (by simp[impl_Wrap.l1])
     |succ k2=>
      have H:=HA.out;clear HA;simp only[impl_Wrap.l1] at H;refine yCn H ?_ ?_<;>clear H<;>intro d1 H
      ·have bK:=z0 d1;clear d1;have H':=zz H;clear H;go_wp2;go_roundg k2
       case measure=>exact yM2 af ag
       case rel=>exact⟨wrap64 (i+1),f,o,zr,H',⟨yM2 af ag⟩,⟨MapE.zm HF.out⟩,⟨MapE.zm HO.out⟩,⟨zB BK.out⟩,⟨zb⟩⟩
      have bK:=z1 d1;replace H:=yA H;obtain⟨d2,H⟩:=H;have b4:=z1 d2;obtain⟨adE,eE,al,am,an,ao⟩:=vF HRT.out n d2 d1;cases eE;replace al:=z3 HB.out al;replace am:=z3 HB.out am;replace an:=z3 HB.out an;replace ao:=z3 HB.out ao;obtain⟨y,hy⟩:∃y,y=impl_Wrap.rE T n:=⟨_,rfl⟩
      have hy':qA T n=y:=hy.symm;rw[hy'] at al am an ao;rw[<-hy] at H;clear hy hy';replace d1:=eq_true d1;replace d2:=eq_true d2;replace H:=yA H;obtain⟨d3,H⟩:=H;simp only[impl_Wrap.fits,MapE.room,Bool.and_eq_true,decide_eq_true_eq] at d3;obtain⟨⟨⟨aj,bc⟩,⟨_,bd⟩⟩,b5,b6⟩:=d3;cases ak:MapE.get y.f0 f with
      |some g=>
       simp only[ak,Option.isSome_some,if_true,Option.getD_some] at H;refine yC H ?_ ?_<;>clear H<;>intro d5 H
       ·simp only[Option.some.injEq,Prod.mk.injEq] at H;obtain⟨rfl,rfl⟩:=H;unfold impl_Wrap.ne at d5;go_wp2_with(first|((with_reducible refine MapE.gate_get (t:=58) (m:=54) (k:=56) (c:=true) rfl ?_);refine MapE.look_some rfl rfl rfl rfl (MapE.zm HF.out) aj ak ?_))
        go_ret2
        exact⟨_,ze,Kd.R_nil _ _ _ _ _,zb⟩
       replace d5:=Bool.eq_false_iff.mpr d5;unfold impl_Wrap.ne at d5;have H':=zz H;clear H;go_wp2_with(first|((with_reducible refine MapE.gate_get (t:=58) (m:=54) (k:=56) (c:=true) rfl ?_);refine MapE.look_some rfl rfl rfl rfl (MapE.zm HF.out) aj ak ?_))
       go_roundg k2
       case measure=>exact yM2 af ag
       case rel=>exact⟨wrap64 (n+1),f,o,zr,H',⟨yM2 af ag⟩,⟨MapE.zm HF.out⟩,⟨MapE.zm HO.out⟩,⟨zB BK.out⟩,⟨zb⟩⟩
      |none=>
       simp only[ak,Option.isSome_none,Bool.false_eq_true,if_false] at H;have NEF:=zz (show wr.heap.size≠bf from Nat.ne_of_gt (MapE.MS.lt HF.out));have NEO:=zz (show wr.heap.size≠bo from Nat.ne_of_gt (MapE.MS.lt HO.out));have be:=zz (show MapE.room f y.f0=true from decide_eq_true ⟨aj,bc⟩);have bg:=zz (show MapE.room o y.f0=true from decide_eq_true ⟨aj,bd⟩);clear bc bd;unfold impl_Wrap.lnk at H;by_cases d6:y.f1=1
       ·simp only[if_pos d6] at H;have H':=zz H;clear H;obtain⟨bL,bM⟩:=zq d6;clear d6;go_wp2_with(first|((with_reducible refine MapE.gate_get (t:=58) (m:=54) (k:=56) (c:=true) rfl ?_);refine MapE.look_none rfl rfl rfl rfl (MapE.zm HF.out) aj ak ?_)|((with_reducible refine MapE.gate_put (t:=58) (m:=64) (k:=66) rfl ?_);refine MapE.put_event (e:=y) rfl rfl rfl rfl rfl rfl (MapE.zm HF.out) be.out ?_;intro wp_bf hms hg;have BE:=zz (MapE.kept_blk (blk_alloc (blk_new wr _) _) hg NEF.out);replace HO:=zz (MapE.MS.kept (MapE.zm HO.out) hg (fun e=>NE.out (Option.some.inj e).symm));replace BK:=zz (zK BK hg (fun e=>NHF.out (Option.some.inj e)));replace HB:=zz (MapSet.grown zb hg Gbf.out);replace HF:=zz hms;clear hms hg;obtain⟨br,bs,bu,bv⟩:=zy4 BE.out)|((with_reducible refine MapE.gate_put (t:=58) (m:=71) (k:=73) rfl ?_);refine MapE.put_event (e:=y) rfl rfl rfl rfl rfl rfl (MapE.zm HO.out) bg.out ?_;intro wp_bo hms hg;replace HF:=zz (MapE.MS.kept (MapE.zm HF.out) hg (fun e=>NE.out (Option.some.inj e)));replace BK:=zz (zK BK hg (fun e=>NHO.out (Option.some.inj e)));replace HB:=zz (MapSet.grown zb hg Gbo.out);replace HO:=zz hms;clear hms hg))
        go_roundg k2
        case measure=>exact yM2 af ag
        case rel=>exact⟨wrap64 (n+1),y::f,y::o,zr,H',⟨yM2 af ag⟩,⟨MapE.zm HF.out⟩,⟨MapE.zm HO.out⟩,⟨zB BK.out⟩,⟨zb⟩⟩
       simp only[if_neg d6] at H;have H':=zz H;clear H;obtain⟨bL,bM⟩:=zw d6;clear d6;go_wp2_with(first|((with_reducible refine MapE.gate_get (t:=58) (m:=54) (k:=56) (c:=true) rfl ?_);refine MapE.look_none rfl rfl rfl rfl (MapE.zm HF.out) aj ak ?_)|((with_reducible refine MapE.gate_put (t:=58) (m:=64) (k:=66) rfl ?_);refine MapE.put_event (e:=y) rfl rfl rfl rfl rfl rfl (MapE.zm HF.out) be.out ?_;intro wp_bf hms hg;have BE:=zz (MapE.kept_blk (blk_alloc (blk_new wr _) _) hg NEF.out);replace HO:=zz (MapE.MS.kept (MapE.zm HO.out) hg (fun e=>NE.out (Option.some.inj e).symm));replace BK:=zz (zK BK hg (fun e=>NHF.out (Option.some.inj e)));replace HB:=zz (MapSet.grown zb hg Gbf.out);replace HF:=zz hms;clear hms hg;obtain⟨br,bs,bu,bv⟩:=zy4 BE.out)|((with_reducible refine MapE.gate_put (t:=58) (m:=75) (k:=77) rfl ?_);refine MapE.put_event (e:=⟨y.f0,3,(p++(⟨#[47]⟩:ByteArray))++y.f0,false⟩) rfl rfl rfl rfl rfl rfl (MapE.zm HO.out) bg.out ?_;intro wp_bo hms hg;replace HF:=zz (MapE.MS.kept (MapE.zm HF.out) hg (fun e=>NE.out (Option.some.inj e)));replace BK:=zz (zK BK hg (fun e=>NHO.out (Option.some.inj e)));replace HB:=zz (MapSet.grown zb hg Gbo.out);replace HO:=zz hms;clear hms hg))
       go_roundg k2
       case measure=>exact yM2 af ag
       case rel=>exact⟨wrap64 (n+1),y::f,_::o,zr,H',⟨yM2 af ag⟩,⟨MapE.zm HF.out⟩,⟨MapE.zm HO.out⟩,⟨zB BK.out⟩,⟨zb⟩⟩
end
end Go.Proofs.YtgccknmddhbdgaaGreatDoor.Q
