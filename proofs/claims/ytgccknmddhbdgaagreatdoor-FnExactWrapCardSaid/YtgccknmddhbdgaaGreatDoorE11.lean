import Derived.Test.YtgccknmddhbdgaaGreatDoorE06
import Derived.Sort.KeysCollected
import Derived.Maps.RangeWalk
import Derived.Sort.OwnSorted
import Derived.Lib.Hide
namespace Go.Proofs.YtgccknmddhbdgaaGreatDoor.Q
open Go.RowKit W1 W2 W3
attribute [local go_sem] max2_int min2_int max_two min_two max_three min_three max_four min_four
attribute [local go_sem high] bl_leq bl_gtr bl_geq
set_option maxHeartbeats 8000000
set_option maxRecDepth 100000
def strings_Contains.f(a0 a1:ByteArray):Option Bool:=if a0.size<4294967281 then some (Lib.contains a0.data.toList a1.data.toList) else none
theorem strings_Contains.calls(a0 a1:ByteArray)(r:Bool)(w:World)(hG_:GOK w)(h:strings_Contains.f a0 a1=some r):
 Calls Tryz.prog 121 #[.string a0,.string a1] w fun e w'=>e= .returned (.bool r)/\vB w w':=by
 unfold strings_Contains.f at h;split at h
 ·rename_i hc
  obtain rfl:=Option.some.inj h;obtain⟨m,hm⟩:=hG_.out;exact(Tryz.strings_Contains a0 a1 m w hc hm).mono fun e w' ⟨he,hw⟩=>⟨he,hw ▸ vB.refl w⟩
 ·exact absurd h (by simp)
namespace impl_sorted
open Go.WideMaps Go.Maps Go.Sort
def dd:List ByteArray->List (List UInt8)
 |[]=>[]
 |s::ds=>if s.data.toList ∈ dd ds then dd ds else s.data.toList::dd ds
theorem dd_mem(x:List UInt8):∀ds,x ∈ dd ds↔ ∃s ∈ ds,s.data.toList=x
 |[]=>by simp[dd]
 |s::ds=>by
  have ih:=dd_mem x ds;unfold dd;split
  ·rename_i h
   rw[ih];constructor
   ·rintro⟨t,ht,e⟩;exact⟨t,List.mem_cons_of_mem _ ht,e⟩
   ·rintro⟨t,ht,e⟩;rcases List.mem_cons.1 ht with rfl|ht
    ·exact(ih.1 (e ▸ h))
    ·exact⟨t,ht,e⟩
  ·rw[List.mem_cons,ih];constructor
   ·rintro(e|⟨t,ht,e⟩)
    ·exact⟨s,List.mem_cons_self ..,e.symm⟩
    ·exact⟨t,List.mem_cons_of_mem _ ht,e⟩
   ·rintro⟨t,ht,e⟩;rcases List.mem_cons.1 ht with rfl|ht
    ·exact .inl e.symm
    ·exact .inr ⟨t,ht,e⟩
theorem dd_nodup:∀ds,(dd ds).Nodup
 |[]=>List.nodup_nil
 |s::ds=>by
  unfold dd;split
  ·exact dd_nodup ds
  ·rename_i h
   exact List.nodup_cons.2 ⟨h,dd_nodup ds⟩
theorem has_dd(x:List UInt8):∀ds,Maps.has (MapSet.of ds) (.string x)=true↔ ∃s ∈ ds,s.data.toList=x
 |[]=>by simp[MapSet.of,has_eq]
 |s::ds=>by
  have ih:=has_dd x ds;unfold MapSet.of;by_cases h:x=s.data.toList
  ·subst h;rw[has_put_same (MapSet.isMap ds) (show WideAt.IsKeyLit (.string s.data.toList) from trivial)];exact⟨fun _=>⟨s,List.mem_cons_self ..,rfl⟩,fun _=>rfl⟩
  ·have hne:(Lit.string x)≠ .string s.data.toList:=fun e=>h (by injection e);rw[has_put_other hne,ih];constructor
   ·rintro⟨t,ht,e⟩;exact⟨t,List.mem_cons_of_mem _ ht,e⟩
   ·rintro⟨t,ht,e⟩;rcases List.mem_cons.1 ht with rfl|ht
    ·exact absurd e.symm h
    ·exact⟨t,ht,e⟩
def out(ds:List ByteArray):List ByteArray:=((dd ds).mergeSort leB).map fun l=>⟨l.toArray⟩
def f(ds:List ByteArray):Option (List ByteArray):=if ds.length<4194304 then some (out ds) else none
theorem encs_out(L:List (List UInt8)):encs Value.string (L.map fun l=>(⟨l.toArray⟩:ByteArray))=L.map encStr:=by
 simp[encs,encStr]
theorem R_out{w w':World}{v:Value}{ds:List ByteArray}{ss:List (List UInt8)}(hp:ss.Perm (dd ds))(h:w'.ownsRow w.heap.size 9 1 v ss.length ((ss.mergeSort leB).map encStr)):Kd.R Kd.string 9 w' w.heap.size (fun _=>True) v (out ds):=by
 rw[mergeSort_of_perm hp] at h;refine Kd.R_of_own ?_ (fun _ _=>trivial);unfold out;rw[encs_out];simpa[hp.length_eq] using h
theorem calls(b:Nat)(ds r:List ByteArray)(w:World)(hM:MapSet.MS w b ds)(h:f ds=some r):
 Calls Tryz.prog 122 #[.map (some b)] w fun e w'=>∃af:Value,e= .returned af/\Kd.R Kd.string 9 w' w.heap.size (fun _=>True) af r/\Below w.heap.size w w':=by
 unfold f at h;split at h
 case isFalse=>exact absurd h (by simp)
 case isTrue hlen=>
 obtain rfl:=Option.some.inj h;have hbl:=World.ownsMap.lt hM;have hsz:=World.ownsMap.size_le hM;obtain⟨i0,hi,al,am,hz2⟩:=info_parts info9;unfold MapSet.MS at hM;generalize hD:MapSet.of ds=D0 at hM hsz;have an:=Lib.hid hD;clear hD h;go_enter Tryz.func122,Tryz.ntmps122;go_wp2_with(at_range;refine wpList_range_own _ rfl _ 110 rfl 9 3 MapSet.keyed Tryz.underlying110 _ b ds.length _ rfl hM ?_;intro w0 aj ao av)
 go_frame
 go_loopw[3] (fun v wr=>∃(left:Lit->Bool) (cnt:Nat) (ss:List (List UInt8)),wr.ranges Tryz.prog 9 (plainElem (H:=Unit) Tryz.prog 3) b w.heap.size ds.length D0 left cnt/\ss.length+cnt<=Maps.size D0/\
  wr.ownsRow w.heap.size 9 1 v ss.length (ss.map encStr)/\Collected D0 left ss/\Below w.heap.size w wr)
  (fun _ wr=>wr.rangeLeft b w.heap.size)
 case atStart=>
  exact⟨_,_,[],aj,by simp,World.ownsRow_nil _ _ _ _,Collected.start D0,(Below.refl _ _).grown ao (Nat.le_refl _) (fun j hj=>by cases hj)⟩
 case round=>
  obtain⟨left,cnt,ss,hrg,hcs,hrow,hC,hnx⟩:=hrel;go_wp2_with(at_next;refine wpList_next_ranges _ rfl _ rfl 9 MapSet.keyed (plainElem Tryz.prog 3) encStr (Value.int .i64) (fun key kl hk=>by obtain⟨x,hx,_⟩:=Maps.keyOf_str Tryz.underlying9 hk;exact⟨x,hx⟩) (fun v y hv=>by obtain⟨c,rfl,_⟩:=plainElem_int_inv Tryz.underlying3 hv;exact⟨c,rfl⟩) b w.heap.size ds.length _ _ _ rfl hrg ?_ ?_)
  ·intro ag ac;have hp:ss.Perm (dd ds):=(List.perm_ext_iff_of_nodup hC.1 (dd_nodup ds)).2 fun x=>by
    rw[hC.2 x,ac,<-an.out,has_dd,dd_mem];simp
   have hP:=Lib.hid hp;rcases hrow.2 with⟨rfl,hnil⟩|⟨g,cap,cur,rfl,hbase,hb,h1,h2,h3,h4⟩
   ·have hN:=Lib.hid hnil;clear hp hnil ag ac;go_wp2_with(go_at_call 133;refine(Tryz.slices_Sort_string_none _ _ _).mono ?_;rintro e w' ⟨rfl,rfl⟩)
    go_ret;refine⟨.slice none 0 0,rfl,R_out hP.out ?_,hnx⟩;have e0:ss=[]:=List.length_eq_zero_iff.1 hN.out;subst e0;simpa using World.ownsRow_nil w' w.heap.size 9 1
   ·have hH:Holds encStr _ g 0 ss.toArray:=holds_of_block hb (by simpa using h4);have hgl:=(Array.getElem?_eq_some_iff.1 hb).1;have hc:=Tryz.slices_Sort_string g 0 cap ss _ hH hgl (by omega);have ap:=Lib.hid hbase;clear hp ag ac;go_wp2_with(go_at_call 133;refine hc.mono ?_;rintro e w' ⟨rfl,nn,os,rfl⟩)
    go_ret;exact⟨_,rfl,R_out hP.out (ownsRow_sorted (by simp) hbase hb h1 h2 h3),hnx.grown (grownBy_sorted _) hnx.size (fun j hj=>by cases hj;exact ap.out)⟩
  ·intro x c kl yd yp w2 ak hkey hlk hv hat ad hlt ab ah hen;obtain⟨x',ex,rfl,_⟩:=Maps.keyOf_str Tryz.underlying9 hkey;obtain rfl:x=x':=encStr_inj ex;have aa:=hrow.kept ab (Or.inr (row_ne_iter hrow hrg).symm);have aw:=Lib.hid ah;clear ah;go_wp2_with(at_builtin;refine wpList_append_own_at _ rfl _ _ 28 rfl w.heap.size 9 i0 (.string ⟨#[]⟩) 1 16 Tryz.underlying28 hi al am hz2 rfl (by decide) _ _ _ rfl (aa.alloc _) ⟨w2.heap.size,0,none⟩ 1 1 [encStr x] rfl rfl (cell_one_new _ _ _) (by simp[Value.oneCell',encStr]) (by unfold maxLen at*;omega) (by omega) (by have:=hnx.size;have:=ab.size;simp;omega) ?_;intro v' w3 hown' ai ar au;go_frame)
   have ae:=(ad.alloc _).kept ai (row_ne_low aa hbl) (row_ne_iter aa ad);go_roundw
   case rel=>
    refine⟨_,ak,ss++[x],ae,by simp;omega,by simpa using hown',hC.step hlk hat,?_⟩;exact((hnx.grown ab hnx.size (fun j hj=>by cases hj;exact Nat.le_refl _)).alloc (by have:=hnx.size;have:=ab.size;omega) _).grown ai (by have:=hnx.size;have:=ab.size;simp;omega) (fun j hj=>(aa.lt j hj).1)
   case measure=>rw[ae.left_eq,hrg.left_eq];exact hlt
end impl_sorted
mutual
def impl_RefsIn.j0:Nat->List (S63)->List ByteArray->Bool->Option (List ByteArray)
 |0,_,_,_=>none
 |k+1,x0,x1,ak=>if ak=true then(some ([]:List ByteArray)) else(impl_RefsIn.l0 k x0 ([]:List ByteArray) x1 (x1.length:Int) 0)
def impl_RefsIn.l0:Nat->List (S63)->List ByteArray->List ByteArray->Int->Int->Option (List ByteArray)
 |0,_,_,_,_,_=>none
 |k+1,x0,x5,ab,ac,aa=>if aa<ac then(if 0<=aa then(if aa<(ab.length:Int) then((impl_AddressOk.f k (rdOf ByteArray.empty ab aa)).bind fun ag=>(if ag=true then(impl_RefsIn.l1 k x0 x5 (rdOf ByteArray.empty ab aa) ab ac aa x0 (x0.length:Int) 0) else(impl_RefsIn.l0 k x0 x5 ab ac (wrap64 (aa+1))))) else(none)) else(none)) else((impl_sorted.f x5).bind fun ah=>(some ah))
def impl_RefsIn.l1:Nat->List (S63)->List ByteArray->ByteArray->List ByteArray->Int->Int->List (S63)->Int->Int->Option (List ByteArray)
 |0,_,_,_,_,_,_,_,_,_=>none
 |k+1,x0,x5,x7,ab,ac,aa,ae,af,ad=>if ad<af then(if 0<=ad then(if ad<(ae.length:Int) then(if 0<=13 then(if 13<=(x7.size:Int) then((strings_Contains.f ((qA ae ad).f2) (x7.extract 0 13)).bind fun ai=>(if ai=true then((MapSet.put x5 x7).bind fun aj=>(impl_RefsIn.l0 k x0 aj ab ac (wrap64 (aa+1)))) else(impl_RefsIn.l1 k x0 x5 x7 ab ac aa ae af (wrap64 (ad+1))))) else(none)) else(none)) else(none)) else(none)) else(impl_RefsIn.l0 k x0 x5 ab ac (wrap64 (aa+1)))
end
def impl_RefsIn.f(k:Nat)(l0:List (S63))(l1:List ByteArray):Option (List ByteArray):=(impl_TreeOk.f k l0).bind fun aa=>(if aa=true then(impl_RefsIn.j0 k l0 l1 (decide ((l1.length:Int)>2000))) else(impl_RefsIn.j0 k l0 l1 true))
theorem impl_RefsIn.calls(k:Nat)(A0:Option Addr)(c0:Nat)(l0:List (S63))(A1:Option Addr)(c1:Nat)(l1:List ByteArray)(r:List ByteArray)(w:World)(bg:Kd.C k63 w A0 l0.length l0)(bh:l0.length<=c0)(bi:Kd.C Kd.string w A1 l1.length l1)(bj:l1.length<=c1)(hG_:GOK w)(H:impl_RefsIn.f k l0 l1=some r):
 Calls Tryz.prog 107 #[.slice A0 l0.length c0,.slice A1 l1.length c1] w fun e w'=>∃bk:Value,e= .returned (bk)/\Kd.R Kd.string 9 w' w.heap.size (fun _=>True) bk r/\Below w.heap.size w w':=by
 have bN:=Tryz.underlying63;have HG:=zz hG_;clear hG_;have ak:=zz bg;have aA:=zz bh;clear bg bh;have aB:=zz bi;have bO:=zz bj;clear bi bj;have HB:=yB w;unfold impl_RefsIn.f at H;have a2:=zz H;clear H;go_enter Tryz.func107,Tryz.ntmps107
 go_upto_region 1 with(fail)
 repeat(go_quiet (fail);go_upto_region 1 with(fail))
 go_cut [17] (fun bD wc=>∃(kq:Nat) (ay:Bool),bD= .bool ay/\qB (impl_RefsIn.j0 kq l0 l1 ay=some r)/\qB (kq<=k)/\qB (Below w.heap.size w wc))
 case first=>
  have H:=a2.out;clear a2;replace H:=zf H;obtain⟨bu,bn,H⟩:=H;try dsimp only at H
  have A4:=zz bn;clear bn;by_cases c5:bu=true
  ·subst c5;rw[if_pos rfl] at H;have H':=zz H;clear H;go_wp2_with(first|(go_at_call 30;(with_reducible refine(impl_TreeOk.calls k _ _ l0 true _ ?s1 ?s2 ?s3 A4.out).mono ?_);(case s1=>exact zc ak.out);(case s2=>exact aA.out);(case s3=>exact zG);rintro e w6 ⟨rfl,hb⟩;replace HB:=zz (zv zb hb);(try clear hb);(try clear hi)))
   repeat(go_quiet (first|(go_at_call 30;(with_reducible refine(impl_TreeOk.calls k _ _ l0 true _ ?s1 ?s2 ?s3 A4.out).mono ?_);(case s1=>exact zc ak.out);(case s2=>exact aA.out);(case s3=>exact zG);rintro e w6 ⟨rfl,hb⟩;replace HB:=zz (zv zb hb);(try clear hb);(try clear hi)));try go_wp2_with(first|(go_at_call 30;(with_reducible refine(impl_TreeOk.calls k _ _ l0 true _ ?s1 ?s2 ?s3 A4.out).mono ?_);(case s1=>exact zc ak.out);(case s2=>exact aA.out);(case s3=>exact zG);rintro e w6 ⟨rfl,hb⟩;replace HB:=zz (zv zb hb);(try clear hb);(try clear hi))))
   go_meet
   case rel=>exact⟨_,(decide ((l1.length:Int)>2000)),zr,H',⟨by first|omega|exact Nat.le_refl _⟩,⟨zb⟩⟩
  ·replace c5:=Bool.eq_false_iff.mpr c5;subst c5;rw[if_neg (show¬(false=true) by decide)] at H;have H':=zz H;clear H;go_wp2_with(first|(go_at_call 30;(with_reducible refine(impl_TreeOk.calls k _ _ l0 false _ ?s1 ?s2 ?s3 A4.out).mono ?_);(case s1=>exact zc ak.out);(case s2=>exact aA.out);(case s3=>exact zG);rintro e w7 ⟨rfl,hb⟩;replace HB:=zz (zv zb hb);(try clear hb);(try clear hi)))
   repeat(go_quiet (first|(go_at_call 30;(with_reducible refine(impl_TreeOk.calls k _ _ l0 false _ ?s1 ?s2 ?s3 A4.out).mono ?_);(case s1=>exact zc ak.out);(case s2=>exact aA.out);(case s3=>exact zG);rintro e w7 ⟨rfl,hb⟩;replace HB:=zz (zv zb hb);(try clear hb);(try clear hi)));try go_wp2_with(first|(go_at_call 30;(with_reducible refine(impl_TreeOk.calls k _ _ l0 false _ ?s1 ?s2 ?s3 A4.out).mono ?_);(case s1=>exact zc ak.out);(case s2=>exact aA.out);(case s3=>exact zG);rintro e w7 ⟨rfl,hb⟩;replace HB:=zz (zv zb hb);(try clear hb);(try clear hi))))
   go_meet
   case rel=>exact⟨_,(true),zr,H',⟨by first|omega|exact Nat.le_refl _⟩,⟨zb⟩⟩
 case rest=>
  clear a2;try clear c1
  try clear c5
  obtain⟨kq,ay,rfl,HA,ar,HB⟩:=hcut;cases kq with
  |zero=>exact absurd HA.out (by simp[impl_RefsIn.j0])
  |succ bo=>
   have H:=HA.out;clear HA;simp only[impl_RefsIn.j0] at H;by_cases c8:ay=true
   ·subst c8;rw[if_pos rfl] at H;obtain rfl:=zi H;go_wp2;repeat(go_quiet (fail);try go_wp2)
    go_ret;exact⟨_,ze,by first|exact Kd.R_nil _ _ _ _ _|exact Kd.N_nil _ _ _ _ _|exact Kd.V_nil _ _ _ _ _|exact Kd.Q_nil _ _ _ _ _|exact Kd.S_nil _ _ _ _ _,zb⟩
   replace c8:=Bool.eq_false_iff.mpr c8;subst c8;rw[if_neg (show¬(false=true) by decide)] at H;have H':=zz H;clear H;go_wp2_with(first|(refine zN 18 ?_;refine MapSet.make_event ?hg (N:=18) ?hd (t:=110) ?ho ?_;(case hd=>rfl);(case hg=>rfl);(case ho=>rfl);intro bm wm hbm hms hb;have HBM:=zz (Nat.le_trans (qE zb) hbm);have HM:=zz hms;have al:=zz (zv zb hb);have HW:=yB w;clear HB hb hbm hms;have HB:=al;clear al))
   repeat(go_quiet (fail);try go_wp2)
   go_loopg[21] bo (fun kq bE w'=>∃(am:List ByteArray) (aa:Int),bE= .int .i64 aa/\qB (impl_RefsIn.l0 kq l0 am l1 (l1.length:Int) aa=some r)/\qB (kq<=bo)/\qB (Below w.heap.size w w')/\qB (MapSet.MS w' bm am))
   case atStart=>exact⟨([]:List ByteArray),(0),zr,H',⟨Nat.le_refl _⟩,⟨zb⟩,⟨HM.out.below (by repeat(first|exact Below.refl _ _|apply qS|apply qQ|apply qK))⟩⟩
   case round=>
    clear H';try clear c1
    try clear c5
    try clear c8
    try clear HM
    obtain⟨am,aa,rfl,HA,au,HB,HM_⟩:=hrel;have HM:=HM_;clear HM_
    rename World=>w
    have ac:=HB;replace HW:=zz (zv HW.out HB.out);replace ak:=zz (Kd.qD ak.out HB.out);replace aB:=zz (Kd.qD aB.out HB.out);replace HG:=zz (GOK.below HG.out HB.out);clear HB;have HB:=yB w;cases gk with
    |zero=>exact absurd HA.out (by simp[impl_RefsIn.l0])
    |succ k2=>
     have H:=HA.out;clear HA;simp only[impl_RefsIn.l0] at H;refine yDn H ?_ ?_<;>clear H<;>intro bv H
     ·replace H:=zf H;obtain⟨aY,a3,H⟩:=H;try dsimp only at H
      have a4:=zz a3;clear a3;obtain rfl:=zi H;go_wp2_with(first|(go_at_call 122;(with_reducible refine(impl_sorted.calls _ am aY _ (HM.out.below zb) a4.out).mono ?_);rintro e bq ⟨a5,rfl,av,hb⟩;have aV:=zz (Kd.qU av (qE zb));replace HB:=zz (zv zb hb);(try clear hb);(try clear av)))
      repeat(go_quiet (first|(go_at_call 122;(with_reducible refine(impl_sorted.calls _ am aY _ (HM.out.below zb) a4.out).mono ?_);rintro e bq ⟨a5,rfl,av,hb⟩;have aV:=zz (Kd.qU av (qE zb));replace HB:=zz (zv zb hb);(try clear hb);(try clear av)));try go_wp2_with(first|(go_at_call 122;(with_reducible refine(impl_sorted.calls _ am aY _ (HM.out.below zb) a4.out).mono ?_);rintro e bq ⟨a5,rfl,av,hb⟩;have aV:=zz (Kd.qU av (qE zb));replace HB:=zz (zv zb hb);(try clear hb);(try clear av))))
      go_ret;exact⟨_,ze,Kd.qU (zR aV.out) HW.out.size,zv HW.out zb⟩
     replace H:=yAD H;obtain⟨bc,H⟩:=H;replace H:=yAD H;obtain⟨bd,H⟩:=H;replace H:=zf H;obtain⟨bw,a6,H⟩:=H;try dsimp only at H
     have aC:=zz a6;clear a6;by_cases aX:bw=true
     case neg=>
      replace aX:=Bool.eq_false_iff.mpr aX;subst aX;rw[if_neg (show¬(false=true) by decide)] at H;have H':=zz H;clear H;have an:0<=(aa:Int):=z2;have ao:aa<(l1.length:Int):=z2;obtain⟨be,aZ,af⟩:=Kd.vA aB.out aa an ao;cases aZ;replace af:=z3 HB.out af;replace an:=eq_true an;replace ao:=eq_true ao;go_wp2_with(first|(go_at_call 62;(with_reducible refine(impl_AddressOk.calls k2 (rdOf ByteArray.empty l1 aa) false _ aC.out).mono ?_);rintro e w' ⟨rfl,⟨nd,rfl⟩⟩;(try first|exact⟨rfl,_,World.drewN_drewN _ _ _⟩|exact⟨rfl,_,Eq.trans (World.drewN_drewN _ _ _) (congrArg (World.drewN _) (Nat.add_assoc _ _ _))⟩)))
      repeat(go_quiet (first|(go_at_call 62;(with_reducible refine(impl_AddressOk.calls k2 (rdOf ByteArray.empty l1 aa) false _ aC.out).mono ?_);rintro e w' ⟨rfl,⟨nd,rfl⟩⟩;(try first|exact⟨rfl,_,World.drewN_drewN _ _ _⟩|exact⟨rfl,_,Eq.trans (World.drewN_drewN _ _ _) (congrArg (World.drewN _) (Nat.add_assoc _ _ _))⟩)));try go_wp2_with(first|(go_at_call 62;(with_reducible refine(impl_AddressOk.calls k2 (rdOf ByteArray.empty l1 aa) false _ aC.out).mono ?_);rintro e w' ⟨rfl,⟨nd,rfl⟩⟩;(try first|exact⟨rfl,_,World.drewN_drewN _ _ _⟩|exact⟨rfl,_,Eq.trans (World.drewN_drewN _ _ _) (congrArg (World.drewN _) (Nat.add_assoc _ _ _))⟩))))
      go_roundg k2
      case measure=>exact yM2 ar au
      case rel=>exact⟨(am),(wrap64 (aa+1)),zr,H',⟨yM2 ar au⟩,⟨zv ac.out zb⟩,⟨HM.out.below zb⟩⟩
     subst aX;rw[if_pos rfl] at H;have H':=zz H;clear H;have an:0<=(aa:Int):=z2;have ao:aa<(l1.length:Int):=z2;obtain⟨be,aZ,af⟩:=Kd.vA aB.out aa an ao;cases aZ;replace af:=z3 HB.out af;replace an:=eq_true an;replace ao:=eq_true ao;go_wp2_with(first|(go_at_call 62;(with_reducible refine(impl_AddressOk.calls k2 (rdOf ByteArray.empty l1 aa) true _ aC.out).mono ?_);rintro e w' ⟨rfl,⟨nd,rfl⟩⟩;(try first|exact⟨rfl,_,World.drewN_drewN _ _ _⟩|exact⟨rfl,_,Eq.trans (World.drewN_drewN _ _ _) (congrArg (World.drewN _) (Nat.add_assoc _ _ _))⟩)))
     repeat(go_quiet (first|(go_at_call 62;(with_reducible refine(impl_AddressOk.calls k2 (rdOf ByteArray.empty l1 aa) true _ aC.out).mono ?_);rintro e w' ⟨rfl,⟨nd,rfl⟩⟩;(try first|exact⟨rfl,_,World.drewN_drewN _ _ _⟩|exact⟨rfl,_,Eq.trans (World.drewN_drewN _ _ _) (congrArg (World.drewN _) (Nat.add_assoc _ _ _))⟩)));try go_wp2_with(first|(go_at_call 62;(with_reducible refine(impl_AddressOk.calls k2 (rdOf ByteArray.empty l1 aa) true _ aC.out).mono ?_);rintro e w' ⟨rfl,⟨nd,rfl⟩⟩;(try first|exact⟨rfl,_,World.drewN_drewN _ _ _⟩|exact⟨rfl,_,Eq.trans (World.drewN_drewN _ _ _) (congrArg (World.drewN _) (Nat.add_assoc _ _ _))⟩))))
     go_loopg[30] k2 (fun kq bF w'=>∃(az:List ByteArray) (ab:Int),bF= .int .i64 ab/\qB (impl_RefsIn.l1 kq l0 az (rdOf ByteArray.empty l1 aa) l1 (l1.length:Int) aa l0 (l0.length:Int) ab=some r)/\qB (kq<=k2)/\qB (Below w.heap.size w w')/\qB (MapSet.MS w' bm az))
     case atStart=>exact⟨(am),(0),zr,H',⟨Nat.le_refl _⟩,⟨zb⟩,⟨HM.out.below zb⟩⟩
     case round=>
      clear H';try clear c1
      try clear c5
      try clear c8
      try clear bv
      try clear bc
      try clear bd
      try clear aX
      try clear af
      try clear an
      try clear ao
      try clear HM
      obtain⟨az,ab,rfl,HA,aD,HB,HM_⟩:=hrel;have HM:=HM_;clear HM_
      rename World=>w
      have aW:=HB;replace HW:=zz (zv HW.out HB.out);replace ac:=zz (zv ac.out HB.out);replace ak:=zz (Kd.qD ak.out HB.out);replace HG:=zz (GOK.below HG.out HB.out);clear HB;have HB:=yB w;cases gk with
      |zero=>exact absurd HA.out (by simp[impl_RefsIn.l1])
      |succ k3=>
       have H:=HA.out;clear HA;simp only[impl_RefsIn.l1] at H;refine yDn H ?_ ?_<;>clear H<;>intro bG H
       ·have H':=zz H;clear H;go_wp2;repeat(go_quiet (fail);try go_wp2)
        go_roundg k3
        case measure=>exact yM3 ar au aD
        case rel=>exact⟨(az),(wrap64 (aa+1)),zr,H',⟨yM3 ar au aD⟩,⟨zv ac.out zb⟩,⟨HM.out.below zb⟩⟩
       replace H:=yAD H;obtain⟨bH,H⟩:=H;replace H:=yAD H;obtain⟨bI,H⟩:=H;replace H:=yA H;obtain⟨a7,H⟩:=H;have bJ:=eq_true a7;have bK:=z1 a7;clear a7;replace H:=yA H;obtain⟨a8,H⟩:=H;have bL:=eq_true a8;have bM:=z1 a8;clear a8;replace H:=zf H;obtain⟨bz,a9,H⟩:=H;try dsimp only at H
       have aE:=zz a9;clear a9;by_cases a1:bz=true
       case neg=>
        replace a1:=Bool.eq_false_iff.mpr a1;subst a1;rw[if_neg (show¬(false=true) by decide)] at H;have H':=zz H;clear H;have bA:=yt (0<=(ab:Int));have bB:=yt (ab<(l0.length:Int));obtain⟨bf,a0,ag,ah,ai,aj⟩:=vF ak.out ab z2 z2;cases a0;replace ag:=z3 HB.out ag;replace ah:=z3 HB.out ah;replace ai:=z3 HB.out ai;replace aj:=z3 HB.out aj;go_wp2_with(first|(refine zN 9 ?_;(try(refine z4 ?_;dsimp only));refine zX 9 63 #[.string (⟨#[]⟩:ByteArray),.int .i64 0,.string (⟨#[]⟩:ByteArray),.bool false] ?_;intro ad hg br hbox hb;have ae:=zz (hbox);have ap:=zz ((zg:w.heap.size<=ad));replace HB:=zz (zv zb hb);clear hb hbox hg;obtain⟨aF,aG,aH,aI,aJ,aK,aL,aM⟩:=zc4 ae.out)|(go_at_call 121;(with_reducible refine(strings_Contains.calls ((qA l0 ab).f2) ((rdOf ByteArray.empty l1 aa).extract 0 13) false _ ?s1 aE.out).mono ?_);(case s1=>exact zG);rintro e w' ⟨rfl,⟨nd,rfl⟩⟩;(try first|exact⟨rfl,_,World.drewN_drewN _ _ _⟩|exact⟨rfl,_,Eq.trans (World.drewN_drewN _ _ _) (congrArg (World.drewN _) (Nat.add_assoc _ _ _))⟩)))
        repeat(go_quiet (first|(refine zN 9 ?_;(try(refine z4 ?_;dsimp only));refine zX 9 63 #[.string (⟨#[]⟩:ByteArray),.int .i64 0,.string (⟨#[]⟩:ByteArray),.bool false] ?_;intro ad hg br hbox hb;have ae:=zz (hbox);have ap:=zz ((zg:w.heap.size<=ad));replace HB:=zz (zv zb hb);clear hb hbox hg;obtain⟨aF,aG,aH,aI,aJ,aK,aL,aM⟩:=zc4 ae.out)|(go_at_call 121;(with_reducible refine(strings_Contains.calls ((qA l0 ab).f2) ((rdOf ByteArray.empty l1 aa).extract 0 13) false _ ?s1 aE.out).mono ?_);(case s1=>exact zG);rintro e w' ⟨rfl,⟨nd,rfl⟩⟩;(try first|exact⟨rfl,_,World.drewN_drewN _ _ _⟩|exact⟨rfl,_,Eq.trans (World.drewN_drewN _ _ _) (congrArg (World.drewN _) (Nat.add_assoc _ _ _))⟩)));try go_wp2_with(first|(refine zN 9 ?_;(try(refine z4 ?_;dsimp only));refine zX 9 63 #[.string (⟨#[]⟩:ByteArray),.int .i64 0,.string (⟨#[]⟩:ByteArray),.bool false] ?_;intro ad hg br hbox hb;have ae:=zz (hbox);have ap:=zz ((zg:w.heap.size<=ad));replace HB:=zz (zv zb hb);clear hb hbox hg;obtain⟨aF,aG,aH,aI,aJ,aK,aL,aM⟩:=zc4 ae.out)|(go_at_call 121;(with_reducible refine(strings_Contains.calls ((qA l0 ab).f2) ((rdOf ByteArray.empty l1 aa).extract 0 13) false _ ?s1 aE.out).mono ?_);(case s1=>exact zG);rintro e w' ⟨rfl,⟨nd,rfl⟩⟩;(try first|exact⟨rfl,_,World.drewN_drewN _ _ _⟩|exact⟨rfl,_,Eq.trans (World.drewN_drewN _ _ _) (congrArg (World.drewN _) (Nat.add_assoc _ _ _))⟩))))
        go_roundg k3
        case measure=>exact yM3 ar au aD
        case rel=>exact⟨(az),(wrap64 (ab+1)),zr,H',⟨yM3 ar au aD⟩,⟨zv aW.out zb⟩,⟨HM.out.below zb⟩⟩
       subst a1;rw[if_pos rfl] at H;replace H:=zf H;obtain⟨bC,ba,H⟩:=H;try dsimp only at H
       have bb:=zz ba;clear ba;have H':=zz H;clear H;have bA:=yt (0<=(ab:Int));have bB:=yt (ab<(l0.length:Int));obtain⟨bf,a0,ag,ah,ai,aj⟩:=vF ak.out ab z2 z2;cases a0;replace ag:=z3 HB.out ag;replace ah:=z3 HB.out ah;replace ai:=z3 HB.out ai;replace aj:=z3 HB.out aj;go_wp2_with(first|(refine zN 9 ?_;(try(refine z4 ?_;dsimp only));refine zX 9 63 #[.string (⟨#[]⟩:ByteArray),.int .i64 0,.string (⟨#[]⟩:ByteArray),.bool false] ?_;intro ad hg bs hbox hb;have ae:=zz (hbox);have ap:=zz ((zg:w.heap.size<=ad));replace HB:=zz (zv zb hb);clear hb hbox hg;obtain⟨aN,aO,aP,aQ,aR,aS,aT,aU⟩:=zc4 ae.out)|(go_at_call 121;(with_reducible refine(strings_Contains.calls ((qA l0 ab).f2) ((rdOf ByteArray.empty l1 aa).extract 0 13) true _ ?s1 aE.out).mono ?_);(case s1=>exact zG);rintro e w' ⟨rfl,⟨nd,rfl⟩⟩;(try first|exact⟨rfl,_,World.drewN_drewN _ _ _⟩|exact⟨rfl,_,Eq.trans (World.drewN_drewN _ _ _) (congrArg (World.drewN _) (Nat.add_assoc _ _ _))⟩))|((with_reducible refine MapSet.gate_put (t:=110) (m:=39) (k:=40) rfl ?_);refine MapSet.put_event rfl rfl rfl rfl (HM.out.below zb) bb.out ?_;intro wput hms hg;have al:=zz hms;have aw:=zz (MapSet.grown (zv ac.out zb) hg HBM.out);have ax:=zz (MapSet.grown (zv HW.out zb) hg HBM.out);clear HM HB HW ac aW hms hg;have HM:=al;have ac:=aw;have HW:=ax;clear al aw ax;rename World=>w;have HB:=yB w))
       repeat(go_quiet (first|(refine zN 9 ?_;(try(refine z4 ?_;dsimp only));refine zX 9 63 #[.string (⟨#[]⟩:ByteArray),.int .i64 0,.string (⟨#[]⟩:ByteArray),.bool false] ?_;intro ad hg bs hbox hb;have ae:=zz (hbox);have ap:=zz ((zg:w.heap.size<=ad));replace HB:=zz (zv zb hb);clear hb hbox hg;obtain⟨aN,aO,aP,aQ,aR,aS,aT,aU⟩:=zc4 ae.out)|(go_at_call 121;(with_reducible refine(strings_Contains.calls ((qA l0 ab).f2) ((rdOf ByteArray.empty l1 aa).extract 0 13) true _ ?s1 aE.out).mono ?_);(case s1=>exact zG);rintro e w' ⟨rfl,⟨nd,rfl⟩⟩;(try first|exact⟨rfl,_,World.drewN_drewN _ _ _⟩|exact⟨rfl,_,Eq.trans (World.drewN_drewN _ _ _) (congrArg (World.drewN _) (Nat.add_assoc _ _ _))⟩))|((with_reducible refine MapSet.gate_put (t:=110) (m:=39) (k:=40) rfl ?_);refine MapSet.put_event rfl rfl rfl rfl (HM.out.below zb) bb.out ?_;intro wput hms hg;have al:=zz hms;have aw:=zz (MapSet.grown (zv ac.out zb) hg HBM.out);have ax:=zz (MapSet.grown (zv HW.out zb) hg HBM.out);clear HM HB HW ac aW hms hg;have HM:=al;have ac:=aw;have HW:=ax;clear al aw ax;rename World=>w;have HB:=yB w));try go_wp2_with(first|(refine zN 9 ?_;(try(refine z4 ?_;dsimp only));refine zX 9 63 #[.string (⟨#[]⟩:ByteArray),.int .i64 0,.string (⟨#[]⟩:ByteArray),.bool false] ?_;intro ad hg bs hbox hb;have ae:=zz (hbox);have ap:=zz ((zg:w.heap.size<=ad));replace HB:=zz (zv zb hb);clear hb hbox hg;obtain⟨aN,aO,aP,aQ,aR,aS,aT,aU⟩:=zc4 ae.out)|(go_at_call 121;(with_reducible refine(strings_Contains.calls ((qA l0 ab).f2) ((rdOf ByteArray.empty l1 aa).extract 0 13) true _ ?s1 aE.out).mono ?_);(case s1=>exact zG);rintro e w' ⟨rfl,⟨nd,rfl⟩⟩;(try first|exact⟨rfl,_,World.drewN_drewN _ _ _⟩|exact⟨rfl,_,Eq.trans (World.drewN_drewN _ _ _) (congrArg (World.drewN _) (Nat.add_assoc _ _ _))⟩))|((with_reducible refine MapSet.gate_put (t:=110) (m:=39) (k:=40) rfl ?_);refine MapSet.put_event rfl rfl rfl rfl (HM.out.below zb) bb.out ?_;intro wput hms hg;have al:=zz hms;have aw:=zz (MapSet.grown (zv ac.out zb) hg HBM.out);have ax:=zz (MapSet.grown (zv HW.out zb) hg HBM.out);clear HM HB HW ac aW hms hg;have HM:=al;have ac:=aw;have HW:=ax;clear al aw ax;rename World=>w;have HB:=yB w)))
       go_roundg k3
       case measure=>exact yM3 ar au aD
       case rel=>exact⟨(bC),(wrap64 (aa+1)),zr,H',⟨yM3 ar au aD⟩,⟨zv ac.out zb⟩,⟨HM.out.below zb⟩⟩
def spec_l10Has.l0:Nat->ByteArray->ByteArray->Int->Option (Bool)
 |0,_,_,_=>none
 |k+1,x0,x1,x5=>if(wrap64 (x5+(x1.size:Int)))<=(x0.size:Int) then(if 0<=x5 then(if x5<=(wrap64 (x5+(x1.size:Int))) then(if(x0.extract (x5:Int).toNat ((wrap64 (x5+(x1.size:Int))):Int).toNat).toList=x1.toList then(some true) else(spec_l10Has.l0 k x0 x1 (wrap64 (x5+1)))) else(none)) else(none)) else(some false)
def spec_l10Has.f(k:Nat)(a0:ByteArray)(a1:ByteArray):Option (Bool):=spec_l10Has.l0 k a0 a1 0
theorem spec_l10Has.calls(k:Nat)(a0:ByteArray)(a1:ByteArray)(r:Bool)(w:World)(H:spec_l10Has.f k a0 a1=some r):
 Calls Tryz.prog 116 #[.string a0,.string a1] w fun e w'=>e= .returned (.bool r)/\vB w w':=by
 unfold spec_l10Has.f at H;have H':=zz H;clear H;go_enter Tryz.func116,Tryz.ntmps116;go_wp2;go_loopg[5] k (fun kq v5 w'=>∃(aa:Int),v5= .int .i64 aa/\qB (spec_l10Has.l0 kq a0 a1 aa=some r)/\qB (kq<=k)/\vB w w')
 case atStart=>exact⟨(0),zr,H',⟨Nat.le_refl _⟩,yD0⟩
 case round=>
  clear H';obtain⟨aa,rfl,HA,ab,⟨m1,rfl⟩⟩:=hrel;cases gk with
  |zero=>exact absurd HA.out (by simp[spec_l10Has.l0])
  |succ k1=>
   have H:=HA.out;clear HA;simp only[spec_l10Has.l0] at H;refine yDn H ?_ ?_<;>clear H<;>intro ae H
   ·obtain rfl:=zi H;exact yr
   replace H:=yA H;obtain⟨c4,H⟩:=H;have af:=eq_true c4;have ag:=z1 c4;clear c4;replace H:=yA H;obtain⟨c5,H⟩:=H;have ah:=eq_true c5;have ai:=z1 c5;have aj:=eq_true (z2:(wrap64 (aa+(a1.size:Int)))<=(a0.size:Int));refine yC H ?_ ?_<;>clear H<;>intro c7 H
   ·obtain⟨ac,ad⟩:=zq c7;clear c7;obtain rfl:=zi H;exact yr
   obtain⟨ac,ad⟩:=zw c7;have H':=zz H;clear H;go_wp2;go_roundg k1
   case measure=>exact yM1 ab
   case rel=>exact⟨(wrap64 (aa+1)),zr,H',⟨yM1 ab⟩,yD0⟩
def spec_l3Add.l0:Nat->List ByteArray->ByteArray->Int->Option (List ByteArray)
 |0,_,_,_=>none
 |k+1,x0,x1,x5=>if x5<(x0.length:Int) then(if 0<=x5 then(if(Op.bytesLess ((rdOf ByteArray.empty x0 x5).toList) x1.toList)=true then(spec_l3Add.l0 k x0 x1 (wrap64 (x5+1))) else(if(rdOf ByteArray.empty x0 x5).toList=x1.toList then(some x0) else((some (([]:List ByteArray):List ByteArray)).bind fun aa=>(if x5<=(x0.length:Int) then((some (x0.take (x5:Int).toNat:List ByteArray)).bind fun ab=>(if aa.length+ab.length<8796093022208 then((some (aa++ab:List ByteArray)).bind fun ac=>(if ac.length<8796093022208 then((some (ac++[x1]:List ByteArray)).bind fun ad=>((some (x0.drop (x5:Int).toNat:List ByteArray)).bind fun ae=>(if ad.length+ae.length<8796093022208 then(some (ad++ae)) else(none)))) else(none))) else(none))) else(none))))) else(none)) else((some (([]:List ByteArray):List ByteArray)).bind fun af=>(if 0<=x5 then(if x5<=(x0.length:Int) then((some (x0.take (x5:Int).toNat:List ByteArray)).bind fun ag=>(if af.length+ag.length<8796093022208 then((some (af++ag:List ByteArray)).bind fun ah=>(if ah.length<8796093022208 then((some (ah++[x1]:List ByteArray)).bind fun ai=>((some (x0.drop (x5:Int).toNat:List ByteArray)).bind fun aj=>(if ai.length+aj.length<8796093022208 then(some (ai++aj)) else(none)))) else(none))) else(none))) else(none)) else(none)))
def spec_l3Add.f(k:Nat)(l0:List ByteArray)(a1:ByteArray):Option (List ByteArray):=spec_l3Add.l0 k l0 a1 0
def spec_l3Add.T7:Bool×List (List Nat×List Nat):=(true,[([],[]),([],[]),([1],[1]),([0,2],[0,2]),([],[]),([],[]),([4,5],[4,5]),([3,6,3],[3,6]),([7,7,0,1,2,3,4,5,6,7],[7])])
def spec_l3Add.B7:List Nat:=[0,0,2,7,0,0,48,127,255]
theorem spec_l3Add.tab7:rtab .any (opsOf Tryz.f117 7)=spec_l3Add.T7:=by kernel_rfl
theorem spec_l3Add.bits7:waitsOk spec_l3Add.T7.2 spec_l3Add.B7=true:=by kernel_rfl
theorem spec_l3Add.calls(k:Nat)(ac:Nat->Prop)(aw:Value)(l0:List ByteArray)(a1:ByteArray)(r:List ByteArray)(w0 w:World)(hB:Below w0.heap.size w0 w)(cF:Kd.R Kd.string 9 w w0.heap.size ac aw l0)(h:spec_l3Add.f k l0 a1=some r):
 Calls Tryz.prog 117 #[aw,.string a1] w fun e w'=>∃cb:Value,e= .returned (cb)/\Kd.R Kd.string 9 w' w0.heap.size (fun k_=>(ac k_\/w.heap.size<=k_)) cb r/\Below w0.heap.size w0 w'/\Kept w w' (fun k_=>ac k_):=by
 have cG:=zz (show Kd.R Kd.string 9 w w0.heap.size (fun k_=>(ac k_\/w.heap.size<=k_)) aw l0 from Kd.qM cF (fun k_ hk=>(.inl hk)));have HK:=zz (Kept.refl w (fun k_=>ac k_));have dp:=zz hB.size;have HB:=zz hB;clear hB;unfold spec_l3Add.f at h;have H:=h;clear h;have H':=zz H;clear H;go_enter Tryz.func117,Tryz.ntmps117;go_wp2;go_loopg[5] k (fun kq v5 w'=>∃(aa:Int),v5= .int .i64 aa/\qB (spec_l3Add.l0 kq l0 a1 aa=some r)/\qB (kq<=k)/\qB (Kd.R Kd.string 9 w' w0.heap.size (fun k_=>(ac k_\/w.heap.size<=k_)) aw l0)/\qB (Kept w w' (fun k_=>ac k_))/\qB (Below w0.heap.size w0 w'))
 case atStart=>exact⟨(0),zr,H',⟨Nat.le_refl _⟩,⟨zR cG.out⟩,⟨by repeat(first|(with_reducible first|exact HK.out|apply Kept.alloc|apply Kept.drewN|apply Kept.drew)|exact HK.out)⟩,⟨zb⟩⟩
 case round=>
  clear H';obtain⟨aa,rfl,HA,cc,ab,HK,HB⟩:=hrel;cases gk with
  |zero=>exact absurd HA.out (by simp[spec_l3Add.l0])
  |succ k1=>
   have H:=HA.out;clear HA;simp only[spec_l3Add.l0] at H;refine yD H ?_ ?_<;>clear H<;>intro cZ H
   ·replace H:=yAD H;obtain⟨c6,H⟩:=H;refine yC H ?_ ?_<;>clear H<;>intro c5 H
    ·have cq:(Op.bytesLess ((rdOf ByteArray.empty l0 aa).toList) a1.toList)=true:=c5;clear c5;have H':=zz H;clear H;obtain⟨dq,dr,cH⟩:=Kd.qW ab.out;subst cH;have al:0<=(aa:Int):=z2;have am:aa<(l0.length:Int):=z2;obtain⟨ad,aJ,aN⟩:=Kd.vA (Kd.qH ab.out).2.2 aa al am;cases aJ;replace al:=eq_true al;replace am:=eq_true am;go_wp2;go_roundg k1
     case measure=>exact yM1 cc
     case rel=>exact⟨(wrap64 (aa+1)),zr,H',⟨yM1 cc⟩,⟨zR ab.out⟩,⟨by repeat(first|(with_reducible first|exact HK.out|apply Kept.alloc|apply Kept.drewN|apply Kept.drew)|exact HK.out)⟩,⟨zb⟩⟩
    have cq:(Op.bytesLess ((rdOf ByteArray.empty l0 aa).toList) a1.toList)=false:=by simpa using c5
    clear c5;refine yC H ?_ ?_<;>clear H<;>intro c7 H
    ·obtain⟨cr,cu⟩:=zq c7;clear c7;obtain rfl:=zi H;obtain⟨dt,du,cI⟩:=Kd.qW ab.out;subst cI;have al:0<=(aa:Int):=z2;have am:aa<(l0.length:Int):=z2;obtain⟨ad,aJ,aN⟩:=Kd.vA (Kd.qH ab.out).2.2 aa al am;cases aJ;replace al:=eq_true al;replace am:=eq_true am;have au:0<=(aa:Int):=z2;have av:aa<(l0.length:Int):=z2;obtain⟨aU,ba,bz⟩:=Kd.vA (Kd.qH ab.out).2.2 aa au av;obtain rfl:ad=aU:=(by injection ba)
     replace au:=eq_true au;replace av:=eq_true av;go_wp2;go_ret;exact⟨_,ze,zR ab.out,zb,yK⟩
    obtain⟨cr,cu⟩:=zw c7;obtain⟨bb,aV⟩:∃y_:List ByteArray,y_=(([]:List ByteArray)):=⟨_,rfl⟩
    replace H:(if aa<=(l0.length:Int) then((some (l0.take (aa:Int).toNat:List ByteArray)).bind fun ai=>(if bb.length+ai.length<8796093022208 then((some (bb++ai:List ByteArray)).bind fun aW=>(if aW.length<8796093022208 then((some (aW++[a1]:List ByteArray)).bind fun aX=>((some (l0.drop (aa:Int).toNat:List ByteArray)).bind fun ae=>(if aX.length+ae.length<8796093022208 then(some (aX++ae)) else(none)))) else(none))) else(none))) else(none))=some r:=yN0 aV H;have bn:=zz aV;clear aV;have c8:=eq_true (z2:0<=aa);replace H:=yA H;obtain⟨bA,H⟩:=H;have cL:=eq_true bA;have cM:=z1 bA;clear bA;replace H:=yN H;obtain⟨ai,ax,H⟩:=H;replace H:=yA H;obtain⟨cd,H⟩:=H;have bV:=zz cd;clear cd;replace H:=yN H;obtain⟨aW,bW,H⟩:=H;replace H:=yA H;obtain⟨ce,H⟩:=H;have bX:=zz ce;clear ce;replace H:=yN H;obtain⟨aX,bY,H⟩:=H;have cN:=eq_true (z2:0<=aa);have cO:=eq_true (z2:aa<=(l0.length:Int));replace H:=yN H;obtain⟨ae,aH,H⟩:=H;replace H:=yA H;obtain⟨cf,H⟩:=H;have bZ:=zz cf;clear cf;replace H:=yN H;obtain⟨c9,b0,H⟩:=H;obtain rfl:=zi H;obtain⟨da,af,cv⟩:=Kd.qW ab.out;subst cv;have al:0<=(aa:Int):=z2;have am:aa<(l0.length:Int):=z2;obtain⟨ad,aJ,aN⟩:=Kd.vA (Kd.qH ab.out).2.2 aa al am;cases aJ;replace al:=eq_true al;replace am:=eq_true am;have au:0<=(aa:Int):=z2;have av:aa<(l0.length:Int):=z2;obtain⟨aU,ba,bz⟩:=Kd.vA (Kd.qH ab.out).2.2 aa au av;obtain rfl:ad=aU:=(by injection ba)
    replace au:=eq_true au;replace av:=eq_true av;try go_wp2_with(first|(refine yL Kd.string 9 34 ?_;intro cw dv aC hb hg_ hnew_;clear hg_ hnew_;(first|rw[<-bn.out] at aC|(simp only[Int.reduceToNat] at aC;rw[<-bn.out] at aC));have aY:=zz (Kd.qU (Kd.R_new' (Kd.R_newM (M:=fun k_=>(ac k_\/w.heap.size<=k_)) aC yK1 (fun k_ h_=> .inr h_)) (Kd.R_lt (zR ab.out))) (qE zb));replace ab:=zz (Kd.R_elder' (zR ab.out) (Kd.R_base aC) hb);replace HK:=zz (Kept.below (S:=(fun k_=>ac k_)) yK hb);replace HB:=zz (zv zb hb);clear hb aC;have bB:(aa:Int)<=((l0.length:Int):Int):=z2;obtain⟨db,bo,_,b1,_⟩:=info_parts info9;have aQ:l0.length<=af:=(Kd.qH ab.out).2.1;have bC:Kd.C Kd.string _ (some ad) l0.length l0:=(Kd.qH ab.out).2.2;have bD:=cut_to (P:=Tryz.prog) 28 9 .i64 Tryz.underlying28 bo (some ad) l0.length af aa (z2) bB aQ;have bc:=Kd.C_take (m:=(aa:Int).toNat) bC yo_;have bd:ai.length=(aa:Int).toNat:=(by rw[ax.out,List.length_take];omega);rw[<-ax.out] at bc;rw[<-bd] at bD;have an:=zz bc;have cP:=zz (show ai.length<=af from by omega);clear bc bC aQ bo b1;have dc:=zz bd;clear bd;have be:=zz (show(aa:Int).toNat<=l0.length from by omega);replace bB:=eq_true bB)|((with_reducible refine qP (b:= .append) (xs:= #[.tmp 34,.tmp 37]) rfl ?_);at_builtin;refine Kd.R_append_rows Kd.string (w0:=w0) w0.heap.size rfl (.tmp 34) (.tmp 37) 28 9 (.string ⟨#[]⟩) 16 rfl Tryz.underlying28 info9 rfl yd_ yo_ cw bb ai _ _ _ (fun k_=>(ac k_\/w.heap.size<=k_)/\some k_≠(.slice (some ad) l0.length af:Value).ownBlock) (fun _=>False) rfl rfl ?aO ?aR (fun _ _ h=>h) (fun _ h=>h.elim) ?aF ?aB ?aS ?aL ?_;(case aR=>repeat(first|exact(by repeat(first|(with_reducible exact an.out)|(with_reducible refine Kd.C_alloc ?_ _)|(with_reducible refine Kd.C_drewN ?_ _)|(with_reducible refine Kd.C_drew ?_)|exact an.out))|(with_reducible refine Kd.C_alloc ?_ _)|(with_reducible refine Kd.C_drewN ?_ _)|(with_reducible refine Kd.C_drew ?_)));(case aB=>exact zb);(case aF=>exact(fun k_ hk=>⟨(.inr (Nat.le_trans yK1 hk)),Kd.fresh' (Kd.R_lt (zR ab.out)) k_ hk⟩));(case aO=>exact(by(with_reducible repeat(first|apply Kd.vE|apply Kd.vD|apply Kd.qZ));exact Kd.qM aY.out (fun _ hk=>⟨hk.1.1,hk.2⟩)));(case aS=>exact(qE zb));(case aL=>have:=bV.out;omega);intro cx cg ho hb hg hat;rw[<-bW.out] at ho;replace HB:=zz (hb);replace HK:=zz (Kept.of_grown (S:=(fun k_=>ac k_)) hg yK (fun k_ e_=>(aY.out.1 k_ e_).1.1));replace an:=zz ((show Kd.C Kd.string cg (some ad) ai.length ai from by rw[ax.out];exact Kd.C_take (m:=(aa:Int).toNat) ((Kd.qH (Kd.R_after (ok:=(fun k_=>(ac k_\/w.heap.size<=k_))) (zR ab.out) hg hat)).2.2) be.out));replace ab:=zz (Kd.R_after (ok:=(fun k_=>(ac k_\/w.heap.size<=k_))) (zR ab.out) hg hat);have ap:=zz (ho);clear aY;clear ho hb hg hat))
    replace ab:=zz (Kd.qZ ab.out);replace ap:=zz (Kd.qZ ap.out);replace an:=zz (Kd.C_drew an.out);replace HK:=zz (Kept.drew HK.out);replace HB:=zz (qK HB.out);have bE:(aa:Int)<=((l0.length:Int):Int):=z2;obtain⟨de,bq,_,br,_⟩:=info_parts info9;have aD:l0.length<=af:=(Kd.qH ab.out).2.1;have bF:Kd.C Kd.string _ (some ad) l0.length l0:=(Kd.qH ab.out).2.2;have cy:(0:Int)<=(aa:Int):=z2;have bG:=cut_from (P:=Tryz.prog) 28 9 .i64 Tryz.underlying28 bq 1 br (some ad) l0.length af aa cy bE;have aK:=Kd.C_drop (m:=(aa:Int).toNat) (c:=af) bF yo_ aD;obtain⟨bH,aZ⟩:∃A1,A1=(if af=(aa:Int).toNat then(some ad) else((some ad):Option Addr).map (·.add ((aa:Int).toNat*1))):=⟨_,rfl⟩
    obtain⟨cJ,bf⟩:∃c1,c1=af - (aa:Int).toNat:=⟨_,rfl⟩
    have a0:ae.length=l0.length - (aa:Int).toNat:=(by rw[aH.out,List.length_drop]<;>omega)
    rw[show(l0).drop (aa:Int).toNat=ae from aH.out.symm] at aK;replace aK:Kd.C Kd.string _ bH ae.length ae:=(by rw[aZ];exact aK)
    rw[<-a0,<-aZ,<-bf] at bG;have ay:=zz aK;have cQ:=zz (show ae.length<=cJ from by rw[a0,bf];exact Nat.sub_le_sub_right aD _);clear aK bF aD bq br bf;have df:=zz a0;have bI:=zz aZ;clear a0 aZ;have bJ:=zz (show(aa:Int).toNat<=l0.length from by omega);replace bE:=eq_true bE;refine start_ (n:=9) (S:=fun w'=>True) (ds:=[]) (bp 0 9) zk rfl rfl trivial (fun hHeld=>?_);refine with_tabW spec_l3Add.tab7 spec_l3Add.bits7 (fun HT_ HW_=>?_);generalize cg.drew=dw at ab ap an HK HB ay hHeld⊢;refine zp 0 39 (bp 1 8) ?_;refine zp 1 40 (bp 2 7) ?_;refine zp 4 43 (bm 9 19) ?_;refine zp 5 44 (bm 9 51) ?_;refine zp 6 45 (bm 9 115) ?_;refine zo 2 41 (bm 9 119) fun K hK=>?_;refine value_ (w1:=?_) (v:=?_) (by rfl) rfl ?_ ?_;rotate_left 2
    ·go_simp;constructor
     ·rfl
     ·rfl
    refine hK.out _ _ trivial (fun hHeld=>?_);clear hK K;refine zn 41 ?_;refine zo 3 42 (bp 7 2) fun K hK=>?_;refine Kd.R_append_step Kd.string (w0:=w0) w0.heap.size (by rfl) (.tmp 39) (.tmp 41) 28 9 (.string ⟨#[]⟩) 16 rfl Tryz.underlying28 info9 rfl yd_ yo_ cx aW a1 [.string a1] (fun k_=>(ac k_\/w.heap.size<=k_)/\some k_≠(.slice (some ad) l0.length af:Value).ownBlock) (fun _=>False) rfl rfl ?aP (fun _ hk=>hk.elim) ?aF ?aO ?aB ?aS ?aL ?_
    (case aP=>exact rfl)
    (case aB=>exact zb)
    (case aF=>exact(fun k_ hk=>⟨(.inr (Nat.le_trans yK1 hk)),Kd.fresh' (Kd.R_lt (zR ab.out)) k_ hk⟩))
    (case aO=>exact(zR ap.out))
    (case aS=>exact(qE zb))
    (case aL=>have:=bX.out;omega)
    intro cz ch ho hb hg hat;rw[<-bY.out] at ho;replace HB:=zz (hb);replace HK:=zz (Kept.of_grown (S:=(fun k_=>ac k_)) hg yK (fun k_ e_=>(ap.out.1 k_ e_).1));replace an:=zz ((show Kd.C Kd.string ch (some ad) ai.length ai from by rw[ax.out];exact Kd.C_take (m:=(aa:Int).toNat) ((Kd.qH (Kd.R_after (ok:=(fun k_=>(ac k_\/w.heap.size<=k_))) (zR ab.out) hg hat)).2.2) be.out));replace ay:=zz ((show Kd.C Kd.string ch bH ae.length ae from by rw[aH.out,bI.out];exact Kd.C_drop (m:=(aa:Int).toNat) (c:=af) ((Kd.qH (Kd.R_after (ok:=(fun k_=>(ac k_\/w.heap.size<=k_))) (zR ab.out) hg hat)).2.2) bJ.out ((Kd.qH (Kd.R_after (ok:=(fun k_=>(ac k_\/w.heap.size<=k_))) (zR ab.out) hg hat)).2.1)));replace ab:=zz (Kd.R_after (ok:=(fun k_=>(ac k_\/w.heap.size<=k_))) (zR ab.out) hg hat);have a2:=zz (ho);clear ap;clear ho hb hg hat;refine hK.out _ _ trivial (fun hHeld=>?_);clear hK K;refine zn 42 ?_;refine zo 7 46 (bp 8 1) fun K hK=>?_;refine Kd.R_append_rows_step Kd.string (w0:=w0) w0.heap.size (by rfl) (.tmp 42) (.tmp 45) 28 9 (.string ⟨#[]⟩) 16 rfl Tryz.underlying28 info9 rfl yd_ yo_ cz aX ae _ _ _ (fun k_=>(ac k_\/w.heap.size<=k_)/\some k_≠(.slice (some ad) l0.length af:Value).ownBlock) (fun _=>False) rfl rfl ?aO ?aR (fun _ _ h=>h) (fun _ h=>h.elim) ?aF ?aB ?aS ?aL ?_
    (case aR=>repeat(first|exact(by repeat(first|(with_reducible exact ay.out)|(with_reducible refine Kd.C_alloc ?_ _)|(with_reducible refine Kd.C_drewN ?_ _)|(with_reducible refine Kd.C_drew ?_)|exact ay.out))|(with_reducible refine Kd.C_alloc ?_ _)|(with_reducible refine Kd.C_drewN ?_ _)|(with_reducible refine Kd.C_drew ?_)))
    (case aB=>exact zb)
    (case aF=>exact(fun k_ hk=>⟨(.inr (Nat.le_trans yK1 hk)),Kd.fresh' (Kd.R_lt (zR ab.out)) k_ hk⟩))
    (case aO=>exact(zR a2.out))
    (case aS=>exact(qE zb))
    (case aL=>have:=bZ.out;omega)
    intro dh ci ho hb hg hat;rw[<-b0.out] at ho;replace HB:=zz (hb);replace HK:=zz (Kept.of_grown (S:=(fun k_=>ac k_)) hg yK (fun k_ e_=>(a2.out.1 k_ e_).1));replace an:=zz ((show Kd.C Kd.string ci (some ad) ai.length ai from by rw[ax.out];exact Kd.C_take (m:=(aa:Int).toNat) ((Kd.qH (Kd.R_after (ok:=(fun k_=>(ac k_\/w.heap.size<=k_))) (zR ab.out) hg hat)).2.2) be.out));replace ay:=zz ((show Kd.C Kd.string ci bH ae.length ae from by rw[aH.out,bI.out];exact Kd.C_drop (m:=(aa:Int).toNat) (c:=af) ((Kd.qH (Kd.R_after (ok:=(fun k_=>(ac k_\/w.heap.size<=k_))) (zR ab.out) hg hat)).2.2) bJ.out ((Kd.qH (Kd.R_after (ok:=(fun k_=>(ac k_\/w.heap.size<=k_))) (zR ab.out) hg hat)).2.1)));replace ab:=zz (Kd.R_after (ok:=(fun k_=>(ac k_\/w.heap.size<=k_))) (zR ab.out) hg hat);have b2:=zz (ho);clear a2;clear ho hb hg hat;refine hK.out _ _ trivial (fun hHeld=>?_);clear hK K;refine zn 46 ?_;refine zp 8 4 (bp 9 0) ?_;refine done_ (done_of HT_.out zk) ?_;try go_wp2
    go_ret;exact⟨_,ze,by(with_reducible repeat(first|apply Kd.vE|apply Kd.vD|apply Kd.qZ));exact Kd.qM b2.out (fun _ hk=>hk.1),zb,yK⟩
   obtain⟨bg,a3⟩:∃y_:List ByteArray,y_=(([]:List ByteArray)):=⟨_,rfl⟩
   replace H:(if 0<=aa then(if aa<=(l0.length:Int) then((some (l0.take (aa:Int).toNat:List ByteArray)).bind fun aj=>(if bg.length+aj.length<8796093022208 then((some (bg++aj:List ByteArray)).bind fun a4=>(if a4.length<8796093022208 then((some (a4++[a1]:List ByteArray)).bind fun a5=>((some (l0.drop (aa:Int).toNat:List ByteArray)).bind fun ag=>(if a5.length+ag.length<8796093022208 then(some (a5++ag)) else(none)))) else(none))) else(none))) else(none)) else(none))=some r:=yN0 a3 H;have bs:=zz a3;clear a3;replace H:=yA H;obtain⟨bK,H⟩:=H;have cR:=eq_true bK;have cS:=z1 bK;clear bK;replace H:=yA H;obtain⟨bL,H⟩:=H;have cT:=eq_true bL;have cU:=z1 bL;clear bL;replace H:=yN H;obtain⟨aj,az,H⟩:=H;replace H:=yA H;obtain⟨cj,H⟩:=H;have b3:=zz cj;clear cj;replace H:=yN H;obtain⟨a4,b4,H⟩:=H;replace H:=yA H;obtain⟨ck,H⟩:=H;have b5:=zz ck;clear ck;replace H:=yN H;obtain⟨a5,b6,H⟩:=H;have cV:=eq_true (z2:0<=aa);have cW:=eq_true (z2:aa<=(l0.length:Int));replace H:=yN H;obtain⟨ag,aI,H⟩:=H;replace H:=yA H;obtain⟨cm,H⟩:=H;have b7:=zz cm;clear cm;replace H:=yN H;obtain⟨di,b8,H⟩:=H;obtain rfl:=zi H;obtain⟨ak,ah,cA⟩:=Kd.qW ab.out;subst cA;try go_wp2_with(first|(refine yL Kd.string 9 34 ?_;intro cB dx aE hb hg_ hnew_;clear hg_ hnew_;(first|rw[<-bs.out] at aE|(simp only[Int.reduceToNat] at aE;rw[<-bs.out] at aE));have a6:=zz (Kd.qU (Kd.R_new' (Kd.R_newM (M:=fun k_=>(ac k_\/w.heap.size<=k_)) aE yK1 (fun k_ h_=> .inr h_)) (Kd.R_lt (zR ab.out))) (qE zb));replace ab:=zz (Kd.R_elder' (zR ab.out) (Kd.R_base aE) hb);replace HK:=zz (Kept.below (S:=(fun k_=>ac k_)) yK hb);replace HB:=zz (zv zb hb);clear hb aE;have bM:(aa:Int)<=((l0.length:Int):Int):=z2;obtain⟨dj,bu,_,b9,_⟩:=info_parts info9;have aT:l0.length<=ah:=(Kd.qH ab.out).2.1;have bN:Kd.C Kd.string _ ak l0.length l0:=(Kd.qH ab.out).2.2;have bO:=cut_to (P:=Tryz.prog) 28 9 .i64 Tryz.underlying28 bu ak l0.length ah aa (z2) bM aT;have bh:=Kd.C_take (m:=(aa:Int).toNat) bN yo_;have bi:aj.length=(aa:Int).toNat:=(by rw[az.out,List.length_take];omega);rw[<-az.out] at bh;rw[<-bi] at bO;have ao:=zz bh;have cX:=zz (show aj.length<=ah from by omega);clear bh bN aT bu b9;have dk:=zz bi;clear bi;have bj:=zz (show(aa:Int).toNat<=l0.length from by omega);replace bM:=eq_true bM)|((with_reducible refine qP (b:= .append) (xs:= #[.tmp 34,.tmp 37]) rfl ?_);at_builtin;refine Kd.R_append_rows Kd.string (w0:=w0) w0.heap.size rfl (.tmp 34) (.tmp 37) 28 9 (.string ⟨#[]⟩) 16 rfl Tryz.underlying28 info9 rfl yd_ yo_ cB bg aj _ _ _ (fun k_=>(ac k_\/w.heap.size<=k_)/\some k_≠(.slice ak l0.length ah:Value).ownBlock) (fun _=>False) rfl rfl ?aO ?aR (fun _ _ h=>h) (fun _ h=>h.elim) ?aF ?aB ?aS ?aL ?_;(case aR=>repeat(first|exact(by repeat(first|(with_reducible exact ao.out)|(with_reducible refine Kd.C_alloc ?_ _)|(with_reducible refine Kd.C_drewN ?_ _)|(with_reducible refine Kd.C_drew ?_)|exact ao.out))|(with_reducible refine Kd.C_alloc ?_ _)|(with_reducible refine Kd.C_drewN ?_ _)|(with_reducible refine Kd.C_drew ?_)));(case aB=>exact zb);(case aF=>exact(fun k_ hk=>⟨(.inr (Nat.le_trans yK1 hk)),Kd.fresh' (Kd.R_lt (zR ab.out)) k_ hk⟩));(case aO=>exact(by(with_reducible repeat(first|apply Kd.vE|apply Kd.vD|apply Kd.qZ));exact Kd.qM a6.out (fun _ hk=>⟨hk.1.1,hk.2⟩)));(case aS=>exact(qE zb));(case aL=>have:=b3.out;omega);intro cC cn ho hb hg hat;rw[<-b4.out] at ho;replace HB:=zz (hb);replace HK:=zz (Kept.of_grown (S:=(fun k_=>ac k_)) hg yK (fun k_ e_=>(a6.out.1 k_ e_).1.1));replace ao:=zz ((show Kd.C Kd.string cn ak aj.length aj from by rw[az.out];exact Kd.C_take (m:=(aa:Int).toNat) ((Kd.qH (Kd.R_after (ok:=(fun k_=>(ac k_\/w.heap.size<=k_))) (zR ab.out) hg hat)).2.2) bj.out));replace ab:=zz (Kd.R_after (ok:=(fun k_=>(ac k_\/w.heap.size<=k_))) (zR ab.out) hg hat);have ar:=zz (ho);clear a6;clear ho hb hg hat))
   replace ab:=zz (Kd.qZ ab.out);replace ar:=zz (Kd.qZ ar.out);replace ao:=zz (Kd.C_drew ao.out);replace HK:=zz (Kept.drew HK.out);replace HB:=zz (qK HB.out);have bP:(aa:Int)<=((l0.length:Int):Int):=z2;obtain⟨dl,bv,_,bw,_⟩:=info_parts info9;have aG:l0.length<=ah:=(Kd.qH ab.out).2.1;have bQ:Kd.C Kd.string _ ak l0.length l0:=(Kd.qH ab.out).2.2;have cD:(0:Int)<=(aa:Int):=z2;have bR:=cut_from (P:=Tryz.prog) 28 9 .i64 Tryz.underlying28 bv 1 bw ak l0.length ah aa cD bP;have aM:=Kd.C_drop (m:=(aa:Int).toNat) (c:=ah) bQ yo_ aG;obtain⟨bS,a7⟩:∃A1,A1=(if ah=(aa:Int).toNat then ak else(ak:Option Addr).map (·.add ((aa:Int).toNat*1))):=⟨_,rfl⟩
   obtain⟨cK,bk⟩:∃c1,c1=ah - (aa:Int).toNat:=⟨_,rfl⟩
   have a8:ag.length=l0.length - (aa:Int).toNat:=(by rw[aI.out,List.length_drop]<;>omega)
   rw[show(l0).drop (aa:Int).toNat=ag from aI.out.symm] at aM;replace aM:Kd.C Kd.string _ bS ag.length ag:=(by rw[a7];exact aM)
   rw[<-a8,<-a7,<-bk] at bR;have aA:=zz aM;have cY:=zz (show ag.length<=cK from by rw[a8,bk];exact Nat.sub_le_sub_right aG _);clear aM bQ aG bv bw bk;have dm:=zz a8;have bT:=zz a7;clear a8 a7;have bU:=zz (show(aa:Int).toNat<=l0.length from by omega);replace bP:=eq_true bP;refine start_ (n:=9) (S:=fun w'=>True) (ds:=[]) (bp 0 9) zk rfl rfl trivial (fun hHeld=>?_);refine with_tabW spec_l3Add.tab7 spec_l3Add.bits7 (fun HT_ HW_=>?_);generalize cn.drew=dy at ab ar ao HK HB aA hHeld⊢;refine zp 0 39 (bp 1 8) ?_;refine zp 1 40 (bp 2 7) ?_;refine zp 4 43 (bm 9 19) ?_;refine zp 5 44 (bm 9 51) ?_;refine zp 6 45 (bm 9 115) ?_;refine zo 2 41 (bm 9 119) fun K hK=>?_;refine value_ (w1:=?_) (v:=?_) (by rfl) rfl ?_ ?_;rotate_left 2
   ·go_simp;constructor
    ·rfl
    ·rfl
   refine hK.out _ _ trivial (fun hHeld=>?_);clear hK K;refine zn 41 ?_;refine zo 3 42 (bp 7 2) fun K hK=>?_;refine Kd.R_append_step Kd.string (w0:=w0) w0.heap.size (by rfl) (.tmp 39) (.tmp 41) 28 9 (.string ⟨#[]⟩) 16 rfl Tryz.underlying28 info9 rfl yd_ yo_ cC a4 a1 [.string a1] (fun k_=>(ac k_\/w.heap.size<=k_)/\some k_≠(.slice ak l0.length ah:Value).ownBlock) (fun _=>False) rfl rfl ?aP (fun _ hk=>hk.elim) ?aF ?aO ?aB ?aS ?aL ?_
   (case aP=>exact rfl)
   (case aB=>exact zb)
   (case aF=>exact(fun k_ hk=>⟨(.inr (Nat.le_trans yK1 hk)),Kd.fresh' (Kd.R_lt (zR ab.out)) k_ hk⟩))
   (case aO=>exact(zR ar.out))
   (case aS=>exact(qE zb))
   (case aL=>have:=b5.out;omega)
   intro cE co ho hb hg hat;rw[<-b6.out] at ho;replace HB:=zz (hb);replace HK:=zz (Kept.of_grown (S:=(fun k_=>ac k_)) hg yK (fun k_ e_=>(ar.out.1 k_ e_).1));replace ao:=zz ((show Kd.C Kd.string co ak aj.length aj from by rw[az.out];exact Kd.C_take (m:=(aa:Int).toNat) ((Kd.qH (Kd.R_after (ok:=(fun k_=>(ac k_\/w.heap.size<=k_))) (zR ab.out) hg hat)).2.2) bj.out));replace aA:=zz ((show Kd.C Kd.string co bS ag.length ag from by rw[aI.out,bT.out];exact Kd.C_drop (m:=(aa:Int).toNat) (c:=ah) ((Kd.qH (Kd.R_after (ok:=(fun k_=>(ac k_\/w.heap.size<=k_))) (zR ab.out) hg hat)).2.2) bU.out ((Kd.qH (Kd.R_after (ok:=(fun k_=>(ac k_\/w.heap.size<=k_))) (zR ab.out) hg hat)).2.1)));replace ab:=zz (Kd.R_after (ok:=(fun k_=>(ac k_\/w.heap.size<=k_))) (zR ab.out) hg hat);have a9:=zz (ho);clear ar;clear ho hb hg hat;refine hK.out _ _ trivial (fun hHeld=>?_);clear hK K;refine zn 42 ?_;refine zo 7 46 (bp 8 1) fun K hK=>?_;refine Kd.R_append_rows_step Kd.string (w0:=w0) w0.heap.size (by rfl) (.tmp 42) (.tmp 45) 28 9 (.string ⟨#[]⟩) 16 rfl Tryz.underlying28 info9 rfl yd_ yo_ cE a5 ag _ _ _ (fun k_=>(ac k_\/w.heap.size<=k_)/\some k_≠(.slice ak l0.length ah:Value).ownBlock) (fun _=>False) rfl rfl ?aO ?aR (fun _ _ h=>h) (fun _ h=>h.elim) ?aF ?aB ?aS ?aL ?_
   (case aR=>repeat(first|exact(by repeat(first|(with_reducible exact aA.out)|(with_reducible refine Kd.C_alloc ?_ _)|(with_reducible refine Kd.C_drewN ?_ _)|(with_reducible refine Kd.C_drew ?_)|exact aA.out))|(with_reducible refine Kd.C_alloc ?_ _)|(with_reducible refine Kd.C_drewN ?_ _)|(with_reducible refine Kd.C_drew ?_)))
   (case aB=>exact zb)
   (case aF=>exact(fun k_ hk=>⟨(.inr (Nat.le_trans yK1 hk)),Kd.fresh' (Kd.R_lt (zR ab.out)) k_ hk⟩))
   (case aO=>exact(zR a9.out))
   (case aS=>exact(qE zb))
   (case aL=>have:=b7.out;omega)
   intro dn cp ho hb hg hat;rw[<-b8.out] at ho;replace HB:=zz (hb);replace HK:=zz (Kept.of_grown (S:=(fun k_=>ac k_)) hg yK (fun k_ e_=>(a9.out.1 k_ e_).1));replace ao:=zz ((show Kd.C Kd.string cp ak aj.length aj from by rw[az.out];exact Kd.C_take (m:=(aa:Int).toNat) ((Kd.qH (Kd.R_after (ok:=(fun k_=>(ac k_\/w.heap.size<=k_))) (zR ab.out) hg hat)).2.2) bj.out));replace aA:=zz ((show Kd.C Kd.string cp bS ag.length ag from by rw[aI.out,bT.out];exact Kd.C_drop (m:=(aa:Int).toNat) (c:=ah) ((Kd.qH (Kd.R_after (ok:=(fun k_=>(ac k_\/w.heap.size<=k_))) (zR ab.out) hg hat)).2.2) bU.out ((Kd.qH (Kd.R_after (ok:=(fun k_=>(ac k_\/w.heap.size<=k_))) (zR ab.out) hg hat)).2.1)));have ca:=zz (ho);clear a9;clear ho hb hg hat;refine hK.out _ _ trivial (fun hHeld=>?_);clear hK K;refine zn 46 ?_;refine zp 8 4 (bp 9 0) ?_;refine done_ (done_of HT_.out zk) ?_;try go_wp2
   go_ret;exact⟨_,ze,by(with_reducible repeat(first|apply Kd.vE|apply Kd.vD|apply Kd.qZ));exact Kd.qM ca.out (fun _ hk=>hk.1),zb,yK⟩
mutual
def spec_l10Refs.l0:Nat->List (S63)->List ByteArray->List ByteArray->Int->Option (List ByteArray)
 |0,_,_,_,_=>none
 |k+1,x0,x1,x5,x6=>if x6<(x1.length:Int) then(if 0<=x6 then((spec_AddressOk.f k (rdOf ByteArray.empty x1 x6)).bind fun aa=>(if aa=true then(spec_l10Refs.l1 k x0 x1 x5 x6 0) else(spec_l10Refs.l0 k x0 x1 x5 (wrap64 (x6+1))))) else(none)) else(some x5)
def spec_l10Refs.l1:Nat->List (S63)->List ByteArray->List ByteArray->Int->Int->Option (List ByteArray)
 |0,_,_,_,_,_=>none
 |k+1,x0,x1,x5,x6,x7=>if x7<(x0.length:Int) then(if 0<=x7 then(if 0<=x6 then(if x6<(x1.length:Int) then(if 0<=13 then(if 13<=((rdOf ByteArray.empty x1 x6).size:Int) then((spec_l10Has.f k ((qA x0 x7).f2) ((rdOf ByteArray.empty x1 x6).extract 0 13)).bind fun ab=>(if ab=true then((spec_l3Add.f k x5 (rdOf ByteArray.empty x1 x6)).bind fun ac=>(spec_l10Refs.l0 k x0 x1 ac (wrap64 (x6+1)))) else(spec_l10Refs.l1 k x0 x1 x5 x6 (wrap64 (x7+1))))) else(none)) else(none)) else(none)) else(none)) else(none)) else(spec_l10Refs.l0 k x0 x1 x5 (wrap64 (x6+1)))
end
def spec_l10Refs.f(k:Nat)(l0:List (S63))(l1:List ByteArray):Option (List ByteArray):=spec_l10Refs.l0 k l0 l1 (([]:List ByteArray)) 0
theorem spec_l10Refs.calls(k:Nat)(A0:Option Addr)(c0:Nat)(l0:List (S63))(A1:Option Addr)(c1:Nat)(l1:List ByteArray)(r:List ByteArray)(w:World)(a0:Kd.C k63 w A0 l0.length l0)(a1:l0.length<=c0)(a2:Kd.C Kd.string w A1 l1.length l1)(a3:l1.length<=c1)(H:spec_l10Refs.f k l0 l1=some r):
 Calls Tryz.prog 99 #[.slice A0 l0.length c0,.slice A1 l1.length c1] w fun e w'=>∃a4:Value,e= .returned (a4)/\Kd.R Kd.string 9 w' w.heap.size (fun _=>True) a4 r/\Below w.heap.size w w':=by
 have a5:=zz a0;have bo:=zz a1;clear a0 a1;have aC:=zz a2;have bq:=zz a3;clear a2 a3;have HB:=yB w;unfold spec_l10Refs.f at H;obtain⟨aR,aI⟩:∃y_:List ByteArray,y_=(([]:List ByteArray)):=⟨_,rfl⟩
 replace H:(spec_l10Refs.l0 k l0 l1 aR 0)=some r:=yN0 aI H;have av:=zz aI;clear aI;have H':=zz H;clear H;go_enter Tryz.func99,Tryz.ntmps99;go_wp2_with(first|(refine yL Kd.string 9 8 ?_;intro aS w3 af hb hg_ hnew_;clear hg_ hnew_;(first|rw[<-av.out] at af|(simp only[Int.reduceToNat] at af;rw[<-av.out] at af));have aJ:=zz (Kd.qU af (qE zb));replace HB:=zz (zv zb hb);clear hb af))
 repeat(go_quiet (first|(refine yL Kd.string 9 8 ?_;intro aS w3 af hb hg_ hnew_;clear hg_ hnew_;(first|rw[<-av.out] at af|(simp only[Int.reduceToNat] at af;rw[<-av.out] at af));have aJ:=zz (Kd.qU af (qE zb));replace HB:=zz (zv zb hb);clear hb af));try go_wp2_with(first|(refine yL Kd.string 9 8 ?_;intro aS w3 af hb hg_ hnew_;clear hg_ hnew_;(first|rw[<-av.out] at af|(simp only[Int.reduceToNat] at af;rw[<-av.out] at af));have aJ:=zz (Kd.qU af (qE zb));replace HB:=zz (zv zb hb);clear hb af)))
 go_loopg[5,6] k (fun kq v5 v6 w'=>∃(aD:List ByteArray) (aa:Int),v6= .int .i64 aa/\qB (spec_l10Refs.l0 kq l0 l1 aD aa=some r)/\qB (kq<=k)/\qB (Kd.R Kd.string 9 w' w.heap.size (fun _=>True) v5 aD)/\qB (Below w.heap.size w w'))
 case atStart=>exact⟨(aR),(0),zr,H',⟨Nat.le_refl _⟩,⟨zR aJ.out⟩,⟨zb⟩⟩
 case round=>
  clear H';try clear c1
  obtain⟨aD,aa,rfl,HA,aA,ac,HB⟩:=hrel;cases gk with
  |zero=>exact absurd HA.out (by simp[spec_l10Refs.l0])
  |succ k1=>
   have H:=HA.out;clear HA;simp only[spec_l10Refs.l0] at H;refine yDn H ?_ ?_<;>clear H<;>intro a8 H
   ·obtain rfl:=zi H;go_wp2;repeat(go_quiet (fail);try go_wp2)
    go_ret;exact⟨_,ze,zR ac.out,zb⟩
   replace H:=yAD H;obtain⟨a9,H⟩:=H;replace H:=zf H;obtain⟨ba,a6,H⟩:=H;try dsimp only at H
   have A7:=zz a6;clear a6;by_cases c8:ba=true
   case neg=>
    replace c8:=Bool.eq_false_iff.mpr c8;subst c8;rw[if_neg (show¬(false=true) by decide)] at H;have H':=zz H;clear H;have ao:0<=(aa:Int):=z2;have ap:aa<(l1.length:Int):=z2;obtain⟨aw,aN,ag⟩:=Kd.vA aC.out aa ao ap;cases aN;replace ag:=z3 HB.out ag;replace ao:=eq_true ao;replace ap:=eq_true ap;go_wp2_with(first|(go_at_call 49;(with_reducible refine(spec_AddressOk.calls k1 (rdOf ByteArray.empty l1 aa) false _ A7.out).mono ?_);rintro e w' ⟨rfl,⟨nd,rfl⟩⟩;(try first|exact⟨rfl,_,World.drewN_drewN _ _ _⟩|exact⟨rfl,_,Eq.trans (World.drewN_drewN _ _ _) (congrArg (World.drewN _) (Nat.add_assoc _ _ _))⟩)))
    repeat(go_quiet (first|(go_at_call 49;(with_reducible refine(spec_AddressOk.calls k1 (rdOf ByteArray.empty l1 aa) false _ A7.out).mono ?_);rintro e w' ⟨rfl,⟨nd,rfl⟩⟩;(try first|exact⟨rfl,_,World.drewN_drewN _ _ _⟩|exact⟨rfl,_,Eq.trans (World.drewN_drewN _ _ _) (congrArg (World.drewN _) (Nat.add_assoc _ _ _))⟩)));try go_wp2_with(first|(go_at_call 49;(with_reducible refine(spec_AddressOk.calls k1 (rdOf ByteArray.empty l1 aa) false _ A7.out).mono ?_);rintro e w' ⟨rfl,⟨nd,rfl⟩⟩;(try first|exact⟨rfl,_,World.drewN_drewN _ _ _⟩|exact⟨rfl,_,Eq.trans (World.drewN_drewN _ _ _) (congrArg (World.drewN _) (Nat.add_assoc _ _ _))⟩))))
    go_roundg k1
    case measure=>exact yM1 aA
    case rel=>exact⟨(aD),(wrap64 (aa+1)),zr,H',⟨yM1 aA⟩,⟨zR ac.out⟩,⟨zb⟩⟩
   subst c8;rw[if_pos rfl] at H;have H':=zz H;clear H;have ao:0<=(aa:Int):=z2;have ap:aa<(l1.length:Int):=z2;obtain⟨aw,aN,ag⟩:=Kd.vA aC.out aa ao ap;cases aN;replace ag:=z3 HB.out ag;replace ao:=eq_true ao;replace ap:=eq_true ap;go_wp2_with(first|(go_at_call 49;(with_reducible refine(spec_AddressOk.calls k1 (rdOf ByteArray.empty l1 aa) true _ A7.out).mono ?_);rintro e w' ⟨rfl,⟨nd,rfl⟩⟩;(try first|exact⟨rfl,_,World.drewN_drewN _ _ _⟩|exact⟨rfl,_,Eq.trans (World.drewN_drewN _ _ _) (congrArg (World.drewN _) (Nat.add_assoc _ _ _))⟩)))
   repeat(go_quiet (first|(go_at_call 49;(with_reducible refine(spec_AddressOk.calls k1 (rdOf ByteArray.empty l1 aa) true _ A7.out).mono ?_);rintro e w' ⟨rfl,⟨nd,rfl⟩⟩;(try first|exact⟨rfl,_,World.drewN_drewN _ _ _⟩|exact⟨rfl,_,Eq.trans (World.drewN_drewN _ _ _) (congrArg (World.drewN _) (Nat.add_assoc _ _ _))⟩)));try go_wp2_with(first|(go_at_call 49;(with_reducible refine(spec_AddressOk.calls k1 (rdOf ByteArray.empty l1 aa) true _ A7.out).mono ?_);rintro e w' ⟨rfl,⟨nd,rfl⟩⟩;(try first|exact⟨rfl,_,World.drewN_drewN _ _ _⟩|exact⟨rfl,_,Eq.trans (World.drewN_drewN _ _ _) (congrArg (World.drewN _) (Nat.add_assoc _ _ _))⟩))))
   go_loopg[5,7] k1 (fun kq v5 v7 w'=>∃(ae:List ByteArray) (ab:Int),v7= .int .i64 ab/\qB (spec_l10Refs.l1 kq l0 l1 ae aa ab=some r)/\qB (kq<=k1)/\qB (Kd.R Kd.string 9 w' w.heap.size (fun _=>True) v5 ae)/\qB (Below w.heap.size w w'))
   case atStart=>exact⟨(aD),(0),zr,H',⟨Nat.le_refl _⟩,⟨zR ac.out⟩,⟨zb⟩⟩
   case round=>
    clear H';try clear c1
    try clear a8
    try clear a9
    try clear c8
    try clear ag
    try clear ao
    try clear ap
    obtain⟨ae,ab,rfl,HA,aG,ac,HB⟩:=hrel;cases gk with
    |zero=>exact absurd HA.out (by simp[spec_l10Refs.l1])
    |succ k2=>
     have H:=HA.out;clear HA;simp only[spec_l10Refs.l1] at H;refine yDn H ?_ ?_<;>clear H<;>intro bn H
     ·have H':=zz H;clear H;go_wp2;repeat(go_quiet (fail);try go_wp2)
      go_roundg k2
      case measure=>exact yM2 aA aG
      case rel=>exact⟨(ae),(wrap64 (aa+1)),zr,H',⟨yM2 aA aG⟩,⟨zR ac.out⟩,⟨zb⟩⟩
     replace H:=yAD H;obtain⟨be,H⟩:=H;replace H:=yAD H;obtain⟨bf,H⟩:=H;replace H:=yAD H;obtain⟨bg,H⟩:=H;replace H:=yA H;obtain⟨aT,H⟩:=H;have bh:=eq_true aT;have bi:=z1 aT;clear aT;replace H:=yA H;obtain⟨aU,H⟩:=H;have bj:=eq_true aU;have bk:=z1 aU;clear aU;replace H:=zf H;obtain⟨bb,aV,H⟩:=H;try dsimp only at H
     have aH:=zz aV;clear aV;by_cases aQ:bb=true
     case neg=>
      replace aQ:=Bool.eq_false_iff.mpr aQ;subst aQ;rw[if_neg (show¬(false=true) by decide)] at H;have H':=zz H;clear H;have bc:=yt (0<=(ab:Int));have bd:=yt (ab<(l0.length:Int));obtain⟨aZ,aO,aj,ak,al,am⟩:=vF a5.out ab z2 z2;cases aO;replace aj:=z3 HB.out aj;replace ak:=z3 HB.out ak;replace al:=z3 HB.out al;replace am:=z3 HB.out am;have ax:0<=(aa:Int):=z2;have ay:aa<(l1.length:Int):=z2;obtain⟨aK,aP,an⟩:=Kd.vA aC.out aa ax ay;obtain rfl:aw=aK:=(by injection aP)
      replace an:=z3 HB.out an;replace ax:=eq_true ax;replace ay:=eq_true ay;go_wp2_with(first|(go_at_call 116;(with_reducible refine(spec_l10Has.calls k2 ((qA l0 ab).f2) ((rdOf ByteArray.empty l1 aa).extract 0 13) false _ aH.out).mono ?_);rintro e w' ⟨rfl,⟨nd,rfl⟩⟩;(try first|exact⟨rfl,_,World.drewN_drewN _ _ _⟩|exact⟨rfl,_,Eq.trans (World.drewN_drewN _ _ _) (congrArg (World.drewN _) (Nat.add_assoc _ _ _))⟩)))
      repeat(go_quiet (first|(go_at_call 116;(with_reducible refine(spec_l10Has.calls k2 ((qA l0 ab).f2) ((rdOf ByteArray.empty l1 aa).extract 0 13) false _ aH.out).mono ?_);rintro e w' ⟨rfl,⟨nd,rfl⟩⟩;(try first|exact⟨rfl,_,World.drewN_drewN _ _ _⟩|exact⟨rfl,_,Eq.trans (World.drewN_drewN _ _ _) (congrArg (World.drewN _) (Nat.add_assoc _ _ _))⟩)));try go_wp2_with(first|(go_at_call 116;(with_reducible refine(spec_l10Has.calls k2 ((qA l0 ab).f2) ((rdOf ByteArray.empty l1 aa).extract 0 13) false _ aH.out).mono ?_);rintro e w' ⟨rfl,⟨nd,rfl⟩⟩;(try first|exact⟨rfl,_,World.drewN_drewN _ _ _⟩|exact⟨rfl,_,Eq.trans (World.drewN_drewN _ _ _) (congrArg (World.drewN _) (Nat.add_assoc _ _ _))⟩))))
      go_roundg k2
      case measure=>exact yM2 aA aG
      case rel=>exact⟨(ae),(wrap64 (ab+1)),zr,H',⟨yM2 aA aG⟩,⟨zR ac.out⟩,⟨zb⟩⟩
     subst aQ;rw[if_pos rfl] at H;replace H:=zf H;obtain⟨aL,aW,H⟩:=H;try dsimp only at H
     have aX:=zz aW;clear aW;have H':=zz H;clear H;have bc:=yt (0<=(ab:Int));have bd:=yt (ab<(l0.length:Int));obtain⟨aZ,aO,aj,ak,al,am⟩:=vF a5.out ab z2 z2;cases aO;replace aj:=z3 HB.out aj;replace ak:=z3 HB.out ak;replace al:=z3 HB.out al;replace am:=z3 HB.out am;have ax:0<=(aa:Int):=z2;have ay:aa<(l1.length:Int):=z2;obtain⟨aK,aP,an⟩:=Kd.vA aC.out aa ax ay;obtain rfl:aw=aK:=(by injection aP)
     replace an:=z3 HB.out an;replace ax:=eq_true ax;replace ay:=eq_true ay;go_wp2_with(first|(go_at_call 116;(with_reducible refine(spec_l10Has.calls k2 ((qA l0 ab).f2) ((rdOf ByteArray.empty l1 aa).extract 0 13) true _ aH.out).mono ?_);rintro e w' ⟨rfl,⟨nd,rfl⟩⟩;(try first|exact⟨rfl,_,World.drewN_drewN _ _ _⟩|exact⟨rfl,_,Eq.trans (World.drewN_drewN _ _ _) (congrArg (World.drewN _) (Nat.add_assoc _ _ _))⟩);have ah:0<=(aa:Int):=z2;have ai:aa<(l1.length:Int):=z2;obtain⟨az,aE,ad⟩:=Kd.vA aC.out aa ah ai;obtain rfl:aw=az:=(by injection aE);replace ad:=z3 HB.out ad;replace ah:=eq_true ah;replace ai:=eq_true ai;obtain⟨ar,au,aF⟩:=Kd.qW ac.out;subst aF)|(go_at_call 117;(with_reducible refine(spec_l3Add.calls k2 (fun k_=>some k_=(.slice ar ae.length au:Value).ownBlock) (.slice ar ae.length au) ae (rdOf ByteArray.empty l1 aa) aL w _ ?s1 ?s2 aX.out).mono ?_);(case s1=>repeat(first|(with_reducible first|exact HB.out|apply qS|apply qQ|apply qK)|exact HB.out));(case s2=>exact Kd.R_tight rfl ac.out);rintro e a7 ⟨aY,rfl,aB,hb,hkp⟩;have aM:=zz (Kd.qM (ok':=fun k_=>True) aB (fun k_ hk_=>trivial));replace HB:=zz (hb);clear ac;(try clear hb);(try clear hkp);(try clear aB)))
     repeat(go_quiet (first|(go_at_call 116;(with_reducible refine(spec_l10Has.calls k2 ((qA l0 ab).f2) ((rdOf ByteArray.empty l1 aa).extract 0 13) true _ aH.out).mono ?_);rintro e w' ⟨rfl,⟨nd,rfl⟩⟩;(try first|exact⟨rfl,_,World.drewN_drewN _ _ _⟩|exact⟨rfl,_,Eq.trans (World.drewN_drewN _ _ _) (congrArg (World.drewN _) (Nat.add_assoc _ _ _))⟩);have ah:0<=(aa:Int):=z2;have ai:aa<(l1.length:Int):=z2;obtain⟨az,aE,ad⟩:=Kd.vA aC.out aa ah ai;obtain rfl:aw=az:=(by injection aE);replace ad:=z3 HB.out ad;replace ah:=eq_true ah;replace ai:=eq_true ai;obtain⟨ar,au,aF⟩:=Kd.qW ac.out;subst aF)|(go_at_call 117;(with_reducible refine(spec_l3Add.calls k2 (fun k_=>some k_=(.slice ar ae.length au:Value).ownBlock) (.slice ar ae.length au) ae (rdOf ByteArray.empty l1 aa) aL w _ ?s1 ?s2 aX.out).mono ?_);(case s1=>repeat(first|(with_reducible first|exact HB.out|apply qS|apply qQ|apply qK)|exact HB.out));(case s2=>exact Kd.R_tight rfl ac.out);rintro e a7 ⟨aY,rfl,aB,hb,hkp⟩;have aM:=zz (Kd.qM (ok':=fun k_=>True) aB (fun k_ hk_=>trivial));replace HB:=zz (hb);clear ac;(try clear hb);(try clear hkp);(try clear aB)));try go_wp2_with(first|(go_at_call 116;(with_reducible refine(spec_l10Has.calls k2 ((qA l0 ab).f2) ((rdOf ByteArray.empty l1 aa).extract 0 13) true _ aH.out).mono ?_);rintro e w' ⟨rfl,⟨nd,rfl⟩⟩;(try first|exact⟨rfl,_,World.drewN_drewN _ _ _⟩|exact⟨rfl,_,Eq.trans (World.drewN_drewN _ _ _) (congrArg (World.drewN _) (Nat.add_assoc _ _ _))⟩);have ah:0<=(aa:Int):=z2;have ai:aa<(l1.length:Int):=z2;obtain⟨az,aE,ad⟩:=Kd.vA aC.out aa ah ai;obtain rfl:aw=az:=(by injection aE);replace ad:=z3 HB.out ad;replace ah:=eq_true ah;replace ai:=eq_true ai;obtain⟨ar,au,aF⟩:=Kd.qW ac.out;subst aF)|(go_at_call 117;(with_reducible refine(spec_l3Add.calls k2 (fun k_=>some k_=(.slice ar ae.length au:Value).ownBlock) (.slice ar ae.length au) ae (rdOf ByteArray.empty l1 aa) aL w _ ?s1 ?s2 aX.out).mono ?_);(case s1=>repeat(first|(with_reducible first|exact HB.out|apply qS|apply qQ|apply qK)|exact HB.out));(case s2=>exact Kd.R_tight rfl ac.out);rintro e a7 ⟨aY,rfl,aB,hb,hkp⟩;have aM:=zz (Kd.qM (ok':=fun k_=>True) aB (fun k_ hk_=>trivial));replace HB:=zz (hb);clear ac;(try clear hb);(try clear hkp);(try clear aB))))
     go_roundg k2
     case measure=>exact yM2 aA aG
     case rel=>exact⟨(aL),(wrap64 (aa+1)),zr,H',⟨yM2 aA aG⟩,⟨zR aM.out⟩,⟨zb⟩⟩
end Go.Proofs.YtgccknmddhbdgaaGreatDoor.Q
