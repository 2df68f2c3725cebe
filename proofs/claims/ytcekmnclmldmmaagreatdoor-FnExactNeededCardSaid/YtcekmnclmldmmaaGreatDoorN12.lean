import Derived.Test.YtcekmnclmldmmaaGreatDoorN06
import Derived.Sort.KeysCollected
import Derived.Maps.RangeWalk
import Derived.Sort.OwnSorted
import Derived.Lib.Hide
set_option linter.unusedVariables false
set_option linter.unusedSimpArgs false
namespace Go.Proofs.YtcekmnclmldmmaaGreatDoor.Q
open Go.RowKit W1 W2 W3
attribute [local go_sem] max2_int min2_int max_two min_two max_three min_three max_four min_four
attribute [local go_sem high] bl_leq bl_gtr bl_geq
set_option maxHeartbeats 8000000
set_option maxRecDepth 100000
def strings_Contains.f(a0 a1:ByteArray):Option Bool:=if a0.size<4294967281 then some (Lib.contains a0.data.toList a1.data.toList) else none
theorem strings_Contains.calls(a0 a1:ByteArray)(r:Bool)(w:World)(hG_:GOK w)(h:strings_Contains.f a0 a1=some r):
 Calls Tryz.prog 148 #[.string a0,.string a1] w fun e w'=>e= .returned (.bool r)∧qE w w':=by
 unfold strings_Contains.f at h
 split at h
 ·rename_i hc
  obtain rfl:=Option.some.inj h
  obtain⟨m,hm⟩:=hG_.out
  exact(Tryz.strings_Contains a0 a1 m w hc hm).mono fun e w' ⟨he,hw⟩=>⟨he,hw ▸ qE.refl w⟩
 ·exact absurd h (by simp)
namespace impl_sorted
open Go.WideMaps Go.Maps Go.Sort
def dd:List ByteArray→List (List UInt8)
 |[]=>[]
 |s::ds=>if s.data.toList ∈ dd ds then dd ds else s.data.toList::dd ds
theorem dd_mem(x:List UInt8):∀ds,x ∈ dd ds↔ ∃s ∈ ds,s.data.toList=x
 |[]=>by simp[dd]
 |s::ds=>by
  have ih:=dd_mem x ds
  unfold dd
  split
  ·rename_i h
   rw[ih]
   constructor
   ·rintro⟨t,ht,e⟩;exact⟨t,List.mem_cons_of_mem _ ht,e⟩
   ·rintro⟨t,ht,e⟩
    rcases List.mem_cons.1 ht with rfl|ht
    ·exact(ih.1 (e ▸ h))
    ·exact⟨t,ht,e⟩
  ·rw[List.mem_cons,ih]
   constructor
   ·rintro(e|⟨t,ht,e⟩)
    ·exact⟨s,List.mem_cons_self ..,e.symm⟩
    ·exact⟨t,List.mem_cons_of_mem _ ht,e⟩
   ·rintro⟨t,ht,e⟩
    rcases List.mem_cons.1 ht with rfl|ht
    ·exact .inl e.symm
    ·exact .inr ⟨t,ht,e⟩
theorem dd_nodup:∀ds,(dd ds).Nodup
 |[]=>List.nodup_nil
 |s::ds=>by
  unfold dd
  split
  ·exact dd_nodup ds
  ·rename_i h
   exact List.nodup_cons.2 ⟨h,dd_nodup ds⟩
theorem has_dd(x:List UInt8):∀ds,Maps.has (MapSet.of ds) (.string x)=true↔ ∃s ∈ ds,s.data.toList=x
 |[]=>by simp[MapSet.of,has_eq]
 |s::ds=>by
  have ih:=has_dd x ds
  unfold MapSet.of
  by_cases h:x=s.data.toList
  ·subst h
   rw[has_put_same (MapSet.isMap ds) (show WideAt.IsKeyLit (.string s.data.toList) from trivial)]
   exact⟨fun _=>⟨s,List.mem_cons_self ..,rfl⟩,fun _=>rfl⟩
  ·have hne:(Lit.string x)≠ .string s.data.toList:=fun e=>h (by injection e)
   rw[has_put_other hne,ih]
   constructor
   ·rintro⟨t,ht,e⟩;exact⟨t,List.mem_cons_of_mem _ ht,e⟩
   ·rintro⟨t,ht,e⟩
    rcases List.mem_cons.1 ht with rfl|ht
    ·exact absurd e.symm h
    ·exact⟨t,ht,e⟩
def out(ds:List ByteArray):List ByteArray:=((dd ds).mergeSort leB).map fun l=>⟨l.toArray⟩
def f(ds:List ByteArray):Option (List ByteArray):=if ds.length<4194304 then some (out ds) else none
theorem encs_out(L:List (List UInt8)):encs Value.string (L.map fun l=>(⟨l.toArray⟩:ByteArray))=L.map encStr:=by
 simp[encs,encStr]
theorem R_out{w w':World}{v:Value}{ds:List ByteArray}{ss:List (List UInt8)}(hp:ss.Perm (dd ds))(h:w'.ownsRow w.heap.size 9 1 v ss.length ((ss.mergeSort leB).map encStr)):Kd.R Kd.string 9 w' w.heap.size (fun _=>True) v (out ds):=by
 rw[mergeSort_of_perm hp] at h
 refine Kd.R_of_own ?_ (fun _ _=>trivial)
 unfold out
 rw[encs_out]
 simpa[hp.length_eq] using h
theorem calls(b:Nat)(ds r:List ByteArray)(w:World)(hM:MapSet.MS w b ds)(h:f ds=some r):
 Calls Tryz.prog 149 #[.map (some b)] w fun e w'=>∃v0_:Value,e= .returned v0_∧Kd.R Kd.string 9 w' w.heap.size (fun _=>True) v0_ r∧Below w.heap.size w w':=by
 unfold f at h
 split at h
 case isFalse=>exact absurd h (by simp)
 case isTrue hlen=>
 obtain rfl:=Option.some.inj h
 have hbl:=World.ownsMap.lt hM
 have hsz:=World.ownsMap.size_le hM
 obtain⟨i0,hi,hz0,hz1,hz2⟩:=info_parts info9
 unfold MapSet.MS at hM
 generalize hD:MapSet.of ds=D0 at hM hsz
 have hD0:=Lib.hid hD
 clear hD h
 go_enter Tryz.func149,Tryz.ntmps149
 go_wp2_with(at_range;refine wpList_range_own _ rfl _ 136 rfl 9 3 MapSet.keyed Tryz.underlying136 _ b ds.length _ rfl hM ?_;intro w0 hrg0 hg0 hs0)
 go_frame
 go_loopw[3] (fun v wr=>∃(left:Lit→Bool) (cnt:Nat) (ss:List (List UInt8)),wr.ranges Tryz.prog 9 (plainElem (H:=Unit) Tryz.prog 3) b w.heap.size ds.length D0 left cnt∧ss.length+cnt≤Maps.size D0∧
  wr.ownsRow w.heap.size 9 1 v ss.length (ss.map encStr)∧Collected D0 left ss∧Below w.heap.size w wr)
  (fun _ wr=>wr.rangeLeft b w.heap.size)
 case atStart=>
  exact⟨_,_,[],hrg0,by simp,World.ownsRow_nil _ _ _ _,Collected.start D0,(Below.refl _ _).grown hg0 (Nat.le_refl _) (fun j hj=>by cases hj)⟩
 case round=>
  obtain⟨left,cnt,ss,hrg,hcs,hrow,hC,hnx⟩:=hrel
  go_wp2_with(at_next;refine wpList_next_ranges _ rfl _ rfl 9 MapSet.keyed (plainElem Tryz.prog 3) encStr (Value.int .i64) (fun key kl hk=>by obtain⟨x,hx,_⟩:=Maps.keyOf_str Tryz.underlying9 hk;exact⟨x,hx⟩) (fun v y hv=>by obtain⟨c,rfl,_⟩:=plainElem_int_inv Tryz.underlying3 hv;exact⟨c,rfl⟩) b w.heap.size ds.length _ _ _ rfl hrg ?_ ?_)
  ·intro hc0 hl0
   have hp:ss.Perm (dd ds):=(List.perm_ext_iff_of_nodup hC.1 (dd_nodup ds)).2 fun x=>by
    rw[hC.2 x,hl0,←hD0.out,has_dd,dd_mem];simp
   have hP:=Lib.hid hp
   rcases hrow.2 with⟨rfl,hnil⟩|⟨g,cap,cur,rfl,hbase,hb,h1,h2,h3,h4⟩
   ·have hN:=Lib.hid hnil
    clear hp hnil hc0 hl0
    go_wp2_with(go_at_call 162;refine(Tryz.slices_Sort_string_none _ _ _).mono ?_;rintro e w' ⟨rfl,rfl⟩)
    go_ret
    refine⟨.slice none 0 0,rfl,R_out hP.out ?_,hnx⟩
    have e0:ss=[]:=List.length_eq_zero_iff.1 hN.out
    subst e0
    simpa using World.ownsRow_nil w' w.heap.size 9 1
   ·have hH:Holds encStr _ g 0 ss.toArray:=holds_of_block hb (by simpa using h4)
    have hgl:=(Array.getElem?_eq_some_iff.1 hb).1
    have hc:=Tryz.slices_Sort_string g 0 cap ss _ hH hgl (by omega)
    have hB1:=Lib.hid hbase
    clear hp hc0 hl0
    go_wp2_with(go_at_call 162;refine hc.mono ?_;rintro e w' ⟨rfl,nn,os,rfl⟩)
    go_ret
    exact⟨_,rfl,R_out hP.out (ownsRow_sorted (by simp) hbase hb h1 h2 h3),hnx.grown (grownBy_sorted _) hnx.size (fun j hj=>by cases hj;exact hB1.out)⟩
  ·intro x c kl yd yp w2 cnt2 hkey hlk hv hat hrg2 hlt hg2 hs2 hen
   obtain⟨x',ex,rfl,_⟩:=Maps.keyOf_str Tryz.underlying9 hkey
   obtain rfl:x=x':=encStr_inj ex
   have hrow2:=hrow.kept hg2 (Or.inr (row_ne_iter hrow hrg).symm)
   have hS2:=Lib.hid hs2
   clear hs2
   go_wp2_with(at_builtin;refine wpList_append_own_at _ rfl _ _ 39 rfl w.heap.size 9 i0 (.string ⟨#[]⟩) 1 16 Tryz.underlying39 hi hz0 hz1 hz2 rfl (by decide) _ _ _ rfl (hrow2.alloc _) ⟨w2.heap.size,0,none⟩ 1 1 [encStr x] rfl rfl (cell_one_new _ _ _) (by simp[Value.oneCell',encStr]) (by unfold maxLen at*;omega) (by omega) (by have:=hnx.size;have:=hg2.size;simp;omega) ?_;intro v' w3 hown' hg3 hnil3 hat3;go_frame)
   have hrg3:=(hrg2.alloc _).kept hg3 (row_ne_low hrow2 hbl) (row_ne_iter hrow2 hrg2)
   go_roundw
   case rel=>
    refine⟨_,cnt2,ss++[x],hrg3,by simp;omega,by simpa using hown',hC.step hlk hat,?_⟩
    exact((hnx.grown hg2 hnx.size (fun j hj=>by cases hj;exact Nat.le_refl _)).alloc (by have:=hnx.size;have:=hg2.size;omega) _).grown hg3 (by have:=hnx.size;have:=hg2.size;simp;omega) (fun j hj=>(hrow2.lt j hj).1)
   case measure=>rw[hrg3.left_eq,hrg.left_eq];exact hlt
end impl_sorted
mutual
def impl_RefsIn.j0:Nat→List (S96)→List ByteArray→Bool→Option (List ByteArray)
 |0,_,_,_=>none
 |k+1,x0,x1,x17=>if x17=true then(some ([]:List ByteArray)) else(impl_RefsIn.l0 k x0 ([]:List ByteArray) x1 (x1.length:Int) 0)
def impl_RefsIn.l0:Nat→List (S96)→List ByteArray→List ByteArray→Int→Int→Option (List ByteArray)
 |0,_,_,_,_,_=>none
 |k+1,x0,x5,x19,x20,x21=>if x21<x20 then(if 0≤x21 then(if x21<(x19.length:Int) then((impl_AddressOk.f k (rdOf ByteArray.empty x19 x21)).bind fun t625=>(if t625=true then(impl_RefsIn.l1 k x0 x5 (rdOf ByteArray.empty x19 x21) x19 x20 x21 x0 (x0.length:Int) 0) else(impl_RefsIn.l0 k x0 x5 x19 x20 (wrap64 (x21+1))))) else(none)) else(none)) else((impl_sorted.f x5).bind fun t621=>(some t621))
def impl_RefsIn.l1:Nat→List (S96)→List ByteArray→ByteArray→List ByteArray→Int→Int→List (S96)→Int→Int→Option (List ByteArray)
 |0,_,_,_,_,_,_,_,_,_=>none
 |k+1,x0,x5,x7,x19,x20,x21,x28,x29,x30=>if x30<x29 then(if 0≤x30 then(if x30<(x28.length:Int) then(if 0≤13 then(if 13≤(x7.size:Int) then((strings_Contains.f ((qA x28 x30).f2) (x7.extract 0 13)).bind fun t628=>(if t628=true then((MapSet.put x5 x7).bind fun t629=>(impl_RefsIn.l0 k x0 t629 x19 x20 (wrap64 (x21+1)))) else(impl_RefsIn.l1 k x0 x5 x7 x19 x20 x21 x28 x29 (wrap64 (x30+1))))) else(none)) else(none)) else(none)) else(none)) else(impl_RefsIn.l0 k x0 x5 x19 x20 (wrap64 (x21+1)))
end
def impl_RefsIn.f(k:Nat)(l0:List (S96))(l1:List ByteArray):Option (List ByteArray):=(impl_TreeOk.f k l0).bind fun t620=>(if t620=true then(impl_RefsIn.j0 k l0 l1 (decide ((l1.length:Int)>2000))) else(impl_RefsIn.j0 k l0 l1 true))
theorem impl_RefsIn.calls(k:Nat)(A0:Option Addr)(c0:Nat)(l0:List (S96))(A1:Option Addr)(c1:Nat)(l1:List ByteArray)(r:List ByteArray)(w:World)(hr0:Kd.C k96 w A0 l0.length l0)(hc0:l0.length≤c0)(hr1:Kd.C Kd.string w A1 l1.length l1)(hc1:l1.length≤c1)(hG_:GOK w)(h:impl_RefsIn.f k l0 l1=some r):
 Calls Tryz.prog 127 #[.slice A0 l0.length c0,.slice A1 l1.length c1] w fun e w'=>∃v0_:Value,e= .returned (v0_)∧Kd.R Kd.string 9 w' w.heap.size (fun _=>True) v0_ r∧Below w.heap.size w w':=by
 have hu96:=Tryz.underlying96
 have HG:=zz hG_
 clear hG_
 have HR0:=zz hr0
 have HC0:=zz hc0
 clear hr0 hc0
 have HR1:=zz hr1
 have HC1:=zz hc1
 clear hr1 hc1
 have HB:=zz (Below.refl w.heap.size w)
 unfold impl_RefsIn.f at h
 have H:=h
 clear h
 have HC3:=zz H
 clear H
 go_enter Tryz.func127,Tryz.ntmps127
 go_upto_region 1 with(fail)
 repeat(go_quiet (fail);go_upto_region 1 with(fail))
 go_cut [17] (fun v17 wc=>∃(kq:Nat) (x17_2:Bool),v17= .bool x17_2∧qB (impl_RefsIn.j0 kq l0 l1 x17_2=some r)∧qB (kq≤k)∧qB (Below w.heap.size w wc))
 case first=>
  have H:=HC3.out
  clear HC3
  replace H:=zf H
  obtain⟨t620,A40,H⟩:=H
  try dsimp only at H
  have A4:=zz A40
  clear A40
  by_cases c5:t620=true
  ·subst c5
   rw[if_pos rfl] at H
   have H':=zz H
   clear H
   go_wp2_with(first|(go_at_call 66;(with_reducible refine(impl_TreeOk.calls k _ _ l0 true _ ?s1 ?s2 ?s3 A4.out).mono ?_);(case s1=>exact zc HR0.out);(case s2=>exact HC0.out);(case s3=>exact zG);rintro e w6 ⟨rfl,hb⟩;replace HB:=zz (zv zb hb);(try clear hb);(try clear hb2);(try clear hk);(try clear hi)))
   repeat(go_quiet (first|(go_at_call 66;(with_reducible refine(impl_TreeOk.calls k _ _ l0 true _ ?s1 ?s2 ?s3 A4.out).mono ?_);(case s1=>exact zc HR0.out);(case s2=>exact HC0.out);(case s3=>exact zG);rintro e w6 ⟨rfl,hb⟩;replace HB:=zz (zv zb hb);(try clear hb);(try clear hb2);(try clear hk);(try clear hi)));try go_wp2_with(first|(go_at_call 66;(with_reducible refine(impl_TreeOk.calls k _ _ l0 true _ ?s1 ?s2 ?s3 A4.out).mono ?_);(case s1=>exact zc HR0.out);(case s2=>exact HC0.out);(case s3=>exact zG);rintro e w6 ⟨rfl,hb⟩;replace HB:=zz (zv zb hb);(try clear hb);(try clear hb2);(try clear hk);(try clear hi))))
   go_meet
   case rel=>exact⟨_,(decide ((l1.length:Int)>2000)),zr,H',⟨by first|omega|exact Nat.le_refl _⟩,⟨zb⟩⟩
  ·replace c5:=Bool.eq_false_iff.mpr c5
   subst c5
   rw[if_neg (show¬(false=true) by decide)] at H
   have H':=zz H
   clear H
   go_wp2_with(first|(go_at_call 66;(with_reducible refine(impl_TreeOk.calls k _ _ l0 false _ ?s1 ?s2 ?s3 A4.out).mono ?_);(case s1=>exact zc HR0.out);(case s2=>exact HC0.out);(case s3=>exact zG);rintro e w7 ⟨rfl,hb⟩;replace HB:=zz (zv zb hb);(try clear hb);(try clear hb2);(try clear hk);(try clear hi)))
   repeat(go_quiet (first|(go_at_call 66;(with_reducible refine(impl_TreeOk.calls k _ _ l0 false _ ?s1 ?s2 ?s3 A4.out).mono ?_);(case s1=>exact zc HR0.out);(case s2=>exact HC0.out);(case s3=>exact zG);rintro e w7 ⟨rfl,hb⟩;replace HB:=zz (zv zb hb);(try clear hb);(try clear hb2);(try clear hk);(try clear hi)));try go_wp2_with(first|(go_at_call 66;(with_reducible refine(impl_TreeOk.calls k _ _ l0 false _ ?s1 ?s2 ?s3 A4.out).mono ?_);(case s1=>exact zc HR0.out);(case s2=>exact HC0.out);(case s3=>exact zG);rintro e w7 ⟨rfl,hb⟩;replace HB:=zz (zv zb hb);(try clear hb);(try clear hb2);(try clear hk);(try clear hi))))
   go_meet
   case rel=>exact⟨_,(true),zr,H',⟨by first|omega|exact Nat.le_refl _⟩,⟨zb⟩⟩
 case rest=>
  clear HC3
  try clear c1
  try clear p2
  try clear c5
  obtain⟨kq,x17_2,rfl,HA,HJ2,HB⟩:=hcut
  cases kq with
  |zero=>exact absurd HA.out (by simp[impl_RefsIn.j0])
  |succ kj2=>
   have H:=HA.out
   clear HA
   simp only[impl_RefsIn.j0] at H
   by_cases c8:x17_2=true
   ·subst c8
    rw[if_pos rfl] at H
    obtain rfl:=zi H
    go_wp2
    repeat(go_quiet (fail);try go_wp2)
    go_ret
    exact⟨_,ze,by first|exact Kd.R_nil _ _ _ _ _|exact Kd.N_nil _ _ _ _ _|exact Kd.V_nil _ _ _ _ _|exact Kd.Q_nil _ _ _ _ _|exact Kd.S_nil _ _ _ _ _,zb⟩
   replace c8:=Bool.eq_false_iff.mpr c8
   subst c8
   rw[if_neg (show¬(false=true) by decide)] at H
   have H':=zz H
   clear H
   go_wp2_with(first|(refine zN 18 ?_;refine MapSet.make_event ?hg (N:=18) ?hd (t:=136) ?ho ?_;(case hd=>rfl);(case hg=>rfl);(case ho=>rfl);intro bm wm hbm hms hb;have HBM:=zz (Nat.le_trans (qG zb) hbm);have HM:=zz hms;have n1_:=zz (zv zb hb);have HW:=zz (Below.refl w.heap.size w);clear HB hb hbm hms;have HB:=n1_;clear n1_))
   repeat(go_quiet (fail);try go_wp2)
   go_loopg[21] kj2 (fun kq v21 w'=>∃(x5_2:List ByteArray) (x21_2:Int),v21= .int .i64 x21_2∧qB (impl_RefsIn.l0 kq l0 x5_2 l1 (l1.length:Int) x21_2=some r)∧qB (kq≤kj2)∧qB (Below w.heap.size w w')∧qB (MapSet.MS w' bm x5_2))
   case atStart=>exact⟨([]:List ByteArray),(0),zr,H',⟨Nat.le_refl _⟩,⟨zb⟩,⟨HM.out.below (by repeat(first|exact Below.refl _ _|apply vA|apply qZ|apply qQ))⟩⟩
   case round=>
    clear H'
    try clear c1
    try clear p2
    try clear c5
    try clear c8
    try clear p2
    try clear HM
    obtain⟨x5_2,x21_2,rfl,HA,HK2,HB,HM_⟩:=hrel
    have HM:=HM_
    clear HM_
    rename World=>w
    have HLt0:=HB
    replace HW:=zz (zv HW.out HB.out)
    replace HR0:=zz (Kd.qC HR0.out HB.out)
    replace HR1:=zz (Kd.qC HR1.out HB.out)
    replace HG:=zz (GOK.below HG.out HB.out)
    clear HB
    have HB:=zz (Below.refl w.heap.size w)
    cases gk with
    |zero=>exact absurd HA.out (by simp[impl_RefsIn.l0])
    |succ k2=>
     have H:=HA.out
     clear HA
     simp only[impl_RefsIn.l0] at H
     by_cases c9:x21_2<(l1.length:Int)
     case neg=>
      rw[if_neg c9] at H
      have c9b0:=z0 c9
      clear c9
      replace H:=zf H
      obtain⟨t621,A260,H⟩:=H
      try dsimp only at H
      have A26:=zz A260
      clear A260
      obtain rfl:=zi H
      go_wp2_with(first|(go_at_call 149;(with_reducible refine(impl_sorted.calls _ x5_2 t621 _ (HM.out.below zb) A26.out).mono ?_);rintro e w27 ⟨v622,rfl,ho0,hb⟩;have HO623:=zz (Kd.vH ho0 (qG zb));replace HB:=zz (zv zb hb);(try clear hb);(try clear hb2);(try clear hk);(try clear hi);(try clear ho0)))
      repeat(go_quiet (first|(go_at_call 149;(with_reducible refine(impl_sorted.calls _ x5_2 t621 _ (HM.out.below zb) A26.out).mono ?_);rintro e w27 ⟨v622,rfl,ho0,hb⟩;have HO623:=zz (Kd.vH ho0 (qG zb));replace HB:=zz (zv zb hb);(try clear hb);(try clear hb2);(try clear hk);(try clear hi);(try clear ho0)));try go_wp2_with(first|(go_at_call 149;(with_reducible refine(impl_sorted.calls _ x5_2 t621 _ (HM.out.below zb) A26.out).mono ?_);rintro e w27 ⟨v622,rfl,ho0,hb⟩;have HO623:=zz (Kd.vH ho0 (qG zb));replace HB:=zz (zv zb hb);(try clear hb);(try clear hb2);(try clear hk);(try clear hi);(try clear ho0))))
      go_ret
      exact⟨_,ze,Kd.vH (zR HO623.out) HW.out.size,zv HW.out zb⟩
     rw[if_pos c9] at H
     have c9b0:=z1 c9
     clear c9
     by_cases c10:0≤x21_2
     case neg=>exact zno H c10
     rw[if_pos c10] at H
     have c10b0:=z1 c10
     clear c10
     by_cases c11:x21_2<(l1.length:Int)
     case neg=>exact zno H c11
     rw[if_pos c11] at H
     have c11b0:=z1 c11
     clear c11
     replace H:=zf H
     obtain⟨t625,A120,H⟩:=H
     try dsimp only at H
     have A12:=zz A120
     clear A120
     by_cases c13:t625=true
     case neg=>
      replace c13:=Bool.eq_false_iff.mpr c13
      subst c13
      rw[if_neg (show¬(false=true) by decide)] at H
      have H':=zz H
      clear H
      have p624:0≤(x21_2:Int):=z2
      have q624:x21_2<(l1.length:Int):=z2
      obtain⟨ad624,e624,hx624_0⟩:=Kd.vC HR1.out x21_2 p624 q624
      cases e624
      replace hx624_0:=z3 HB.out hx624_0
      replace p624:=eq_true p624
      replace q624:=eq_true q624
      go_wp2_with(first|(go_at_call 46;(with_reducible refine(impl_AddressOk.calls k2 (rdOf ByteArray.empty l1 x21_2) false _ A12.out).mono ?_);rintro e w' ⟨rfl,⟨nd,rfl⟩⟩;(try first|exact⟨rfl,_,World.drewN_drewN _ _ _⟩|exact⟨rfl,_,Eq.trans (World.drewN_drewN _ _ _) (congrArg (World.drewN _) (Nat.add_assoc _ _ _))⟩)))
      repeat(go_quiet (first|(go_at_call 46;(with_reducible refine(impl_AddressOk.calls k2 (rdOf ByteArray.empty l1 x21_2) false _ A12.out).mono ?_);rintro e w' ⟨rfl,⟨nd,rfl⟩⟩;(try first|exact⟨rfl,_,World.drewN_drewN _ _ _⟩|exact⟨rfl,_,Eq.trans (World.drewN_drewN _ _ _) (congrArg (World.drewN _) (Nat.add_assoc _ _ _))⟩)));try go_wp2_with(first|(go_at_call 46;(with_reducible refine(impl_AddressOk.calls k2 (rdOf ByteArray.empty l1 x21_2) false _ A12.out).mono ?_);rintro e w' ⟨rfl,⟨nd,rfl⟩⟩;(try first|exact⟨rfl,_,World.drewN_drewN _ _ _⟩|exact⟨rfl,_,Eq.trans (World.drewN_drewN _ _ _) (congrArg (World.drewN _) (Nat.add_assoc _ _ _))⟩))))
      go_roundg k2
      case measure=>have:=HJ2.out;have:=HK2.out;omega
      case rel=>exact⟨(x5_2),(wrap64 (x21_2+1)),zr,H',⟨by have:=HJ2.out;have:=HK2.out;omega⟩,⟨zv HLt0.out zb⟩,⟨HM.out.below zb⟩⟩
     subst c13
     rw[if_pos rfl] at H
     have H':=zz H
     clear H
     have p624:0≤(x21_2:Int):=z2
     have q624:x21_2<(l1.length:Int):=z2
     obtain⟨ad624,e624,hx624_0⟩:=Kd.vC HR1.out x21_2 p624 q624
     cases e624
     replace hx624_0:=z3 HB.out hx624_0
     replace p624:=eq_true p624
     replace q624:=eq_true q624
     go_wp2_with(first|(go_at_call 46;(with_reducible refine(impl_AddressOk.calls k2 (rdOf ByteArray.empty l1 x21_2) true _ A12.out).mono ?_);rintro e w' ⟨rfl,⟨nd,rfl⟩⟩;(try first|exact⟨rfl,_,World.drewN_drewN _ _ _⟩|exact⟨rfl,_,Eq.trans (World.drewN_drewN _ _ _) (congrArg (World.drewN _) (Nat.add_assoc _ _ _))⟩)))
     repeat(go_quiet (first|(go_at_call 46;(with_reducible refine(impl_AddressOk.calls k2 (rdOf ByteArray.empty l1 x21_2) true _ A12.out).mono ?_);rintro e w' ⟨rfl,⟨nd,rfl⟩⟩;(try first|exact⟨rfl,_,World.drewN_drewN _ _ _⟩|exact⟨rfl,_,Eq.trans (World.drewN_drewN _ _ _) (congrArg (World.drewN _) (Nat.add_assoc _ _ _))⟩)));try go_wp2_with(first|(go_at_call 46;(with_reducible refine(impl_AddressOk.calls k2 (rdOf ByteArray.empty l1 x21_2) true _ A12.out).mono ?_);rintro e w' ⟨rfl,⟨nd,rfl⟩⟩;(try first|exact⟨rfl,_,World.drewN_drewN _ _ _⟩|exact⟨rfl,_,Eq.trans (World.drewN_drewN _ _ _) (congrArg (World.drewN _) (Nat.add_assoc _ _ _))⟩))))
     go_loopg[30] k2 (fun kq v30 w'=>∃(x5_3:List ByteArray) (x30_3:Int),v30= .int .i64 x30_3∧qB (impl_RefsIn.l1 kq l0 x5_3 (rdOf ByteArray.empty l1 x21_2) l1 (l1.length:Int) x21_2 l0 (l0.length:Int) x30_3=some r)∧qB (kq≤k2)∧qB (Below w.heap.size w w')∧qB (MapSet.MS w' bm x5_3))
     case atStart=>exact⟨(x5_2),(0),zr,H',⟨Nat.le_refl _⟩,⟨zb⟩,⟨HM.out.below zb⟩⟩
     case round=>
      clear H'
      try clear c1
      try clear p2
      try clear c5
      try clear p6
      try clear q6
      try clear hx6
      try clear c8
      try clear c9
      try clear c9b0
      try clear c10
      try clear c10b0
      try clear c11
      try clear c11b0
      try clear c12
      try clear c13
      try clear hx624_0
      try clear p2
      try clear p624
      try clear q624
      try clear HM
      obtain⟨x5_3,x30_3,rfl,HA,HK3,HB,HM_⟩:=hrel
      have HM:=HM_
      clear HM_
      rename World=>w
      have HLt1:=HB
      replace HW:=zz (zv HW.out HB.out)
      replace HLt0:=zz (zv HLt0.out HB.out)
      replace HR0:=zz (Kd.qC HR0.out HB.out)
      replace HR1:=zz (Kd.qC HR1.out HB.out)
      replace HG:=zz (GOK.below HG.out HB.out)
      clear HB
      have HB:=zz (Below.refl w.heap.size w)
      cases gk with
      |zero=>exact absurd HA.out (by simp[impl_RefsIn.l1])
      |succ k3=>
       have H:=HA.out
       clear HA
       simp only[impl_RefsIn.l1] at H
       by_cases c14:x30_3<(l0.length:Int)
       case neg=>
        rw[if_neg c14] at H
        have c14b0:=z0 c14
        clear c14
        have H':=zz H
        clear H
        go_wp2
        repeat(go_quiet (fail);try go_wp2)
        go_roundg k3
        case measure=>have:=HJ2.out;have:=HK2.out;have:=HK3.out;omega
        case rel=>exact⟨(x5_3),(wrap64 (x21_2+1)),zr,H',⟨by have:=HJ2.out;have:=HK2.out;have:=HK3.out;omega⟩,⟨zv HLt0.out zb⟩,⟨HM.out.below zb⟩⟩
       rw[if_pos c14] at H
       have c14b0:=z1 c14
       clear c14
       by_cases c15:0≤x30_3
       case neg=>exact zno H c15
       rw[if_pos c15] at H
       have c15b0:=z1 c15
       clear c15
       by_cases c16:x30_3<(l0.length:Int)
       case neg=>exact zno H c16
       rw[if_pos c16] at H
       have c16b0:=z1 c16
       clear c16
       by_cases c17:0≤13
       case neg=>exact zno H c17
       rw[if_pos c17] at H
       have c17b0:=eq_true c17
       have c17b1:=z1 c17
       clear c17
       by_cases c18:13≤((rdOf ByteArray.empty l1 x21_2).size:Int)
       case neg=>exact zno H c18
       rw[if_pos c18] at H
       have c18b0:=eq_true c18
       have c18b1:=z1 c18
       clear c18
       replace H:=zf H
       obtain⟨t628,A190,H⟩:=H
       try dsimp only at H
       have A19:=zz A190
       clear A190
       by_cases c20:t628=true
       case neg=>
        replace c20:=Bool.eq_false_iff.mpr c20
        subst c20
        rw[if_neg (show¬(false=true) by decide)] at H
        have H':=zz H
        clear H
        have p626:0≤(x30_3:Int):=z2
        have q626:x30_3<(l0.length:Int):=z2
        obtain⟨ad626,e626,hx626_0,hx626_1,hx626_2,hx626_3⟩:=at_T96 HR0.out x30_3 p626 q626
        cases e626
        replace hx626_0:=z3 HB.out hx626_0
        replace hx626_1:=z3 HB.out hx626_1
        replace hx626_2:=z3 HB.out hx626_2
        replace hx626_3:=z3 HB.out hx626_3
        replace p626:=eq_true p626
        replace q626:=eq_true q626
        go_wp2_with(first|(refine zN 9 ?_;(try(refine z4 ?_;dsimp only));refine zX 9 96 #[.string (⟨#[]⟩:ByteArray),.int .i64 0,.string (⟨#[]⟩:ByteArray),.bool false] ?_;intro gb627 hg w24 hbox hb;have BK627:=zz (hbox);have GW627:=zz ((zg:w.heap.size≤gb627));have GE627:=zz ((zg:w.heap.size≤gb627));replace HB:=zz (zv zb hb);clear hb hbox hg;obtain⟨hcz25_0,hcz25_1,hcz25_2,hcz25_3,hfz25_0,hfz25_1,hfz25_2,hfz25_3⟩:=zc4 BK627.out)|(go_at_call 148;(with_reducible refine(strings_Contains.calls ((qA l0 x30_3).f2) ((rdOf ByteArray.empty l1 x21_2).extract 0 13) false _ ?s1 A19.out).mono ?_);(case s1=>exact zG);rintro e w' ⟨rfl,⟨nd,rfl⟩⟩;(try first|exact⟨rfl,_,World.drewN_drewN _ _ _⟩|exact⟨rfl,_,Eq.trans (World.drewN_drewN _ _ _) (congrArg (World.drewN _) (Nat.add_assoc _ _ _))⟩)))
        repeat(go_quiet (first|(refine zN 9 ?_;(try(refine z4 ?_;dsimp only));refine zX 9 96 #[.string (⟨#[]⟩:ByteArray),.int .i64 0,.string (⟨#[]⟩:ByteArray),.bool false] ?_;intro gb627 hg w24 hbox hb;have BK627:=zz (hbox);have GW627:=zz ((zg:w.heap.size≤gb627));have GE627:=zz ((zg:w.heap.size≤gb627));replace HB:=zz (zv zb hb);clear hb hbox hg;obtain⟨hcz25_0,hcz25_1,hcz25_2,hcz25_3,hfz25_0,hfz25_1,hfz25_2,hfz25_3⟩:=zc4 BK627.out)|(go_at_call 148;(with_reducible refine(strings_Contains.calls ((qA l0 x30_3).f2) ((rdOf ByteArray.empty l1 x21_2).extract 0 13) false _ ?s1 A19.out).mono ?_);(case s1=>exact zG);rintro e w' ⟨rfl,⟨nd,rfl⟩⟩;(try first|exact⟨rfl,_,World.drewN_drewN _ _ _⟩|exact⟨rfl,_,Eq.trans (World.drewN_drewN _ _ _) (congrArg (World.drewN _) (Nat.add_assoc _ _ _))⟩)));try go_wp2_with(first|(refine zN 9 ?_;(try(refine z4 ?_;dsimp only));refine zX 9 96 #[.string (⟨#[]⟩:ByteArray),.int .i64 0,.string (⟨#[]⟩:ByteArray),.bool false] ?_;intro gb627 hg w24 hbox hb;have BK627:=zz (hbox);have GW627:=zz ((zg:w.heap.size≤gb627));have GE627:=zz ((zg:w.heap.size≤gb627));replace HB:=zz (zv zb hb);clear hb hbox hg;obtain⟨hcz25_0,hcz25_1,hcz25_2,hcz25_3,hfz25_0,hfz25_1,hfz25_2,hfz25_3⟩:=zc4 BK627.out)|(go_at_call 148;(with_reducible refine(strings_Contains.calls ((qA l0 x30_3).f2) ((rdOf ByteArray.empty l1 x21_2).extract 0 13) false _ ?s1 A19.out).mono ?_);(case s1=>exact zG);rintro e w' ⟨rfl,⟨nd,rfl⟩⟩;(try first|exact⟨rfl,_,World.drewN_drewN _ _ _⟩|exact⟨rfl,_,Eq.trans (World.drewN_drewN _ _ _) (congrArg (World.drewN _) (Nat.add_assoc _ _ _))⟩))))
        go_roundg k3
        case measure=>have:=HJ2.out;have:=HK2.out;have:=HK3.out;omega
        case rel=>exact⟨(x5_3),(wrap64 (x30_3+1)),zr,H',⟨by have:=HJ2.out;have:=HK2.out;have:=HK3.out;omega⟩,⟨zv HLt1.out zb⟩,⟨HM.out.below zb⟩⟩
       subst c20
       rw[if_pos rfl] at H
       replace H:=zf H
       obtain⟨t629,A210,H⟩:=H
       try dsimp only at H
       have A21:=zz A210
       clear A210
       have H':=zz H
       clear H
       have p626:0≤(x30_3:Int):=z2
       have q626:x30_3<(l0.length:Int):=z2
       obtain⟨ad626,e626,hx626_0,hx626_1,hx626_2,hx626_3⟩:=at_T96 HR0.out x30_3 p626 q626
       cases e626
       replace hx626_0:=z3 HB.out hx626_0
       replace hx626_1:=z3 HB.out hx626_1
       replace hx626_2:=z3 HB.out hx626_2
       replace hx626_3:=z3 HB.out hx626_3
       replace p626:=eq_true p626
       replace q626:=eq_true q626
       go_wp2_with(first|(refine zN 9 ?_;(try(refine z4 ?_;dsimp only));refine zX 9 96 #[.string (⟨#[]⟩:ByteArray),.int .i64 0,.string (⟨#[]⟩:ByteArray),.bool false] ?_;intro gb627 hg w22 hbox hb;have BK627:=zz (hbox);have GW627:=zz ((zg:w.heap.size≤gb627));have GE627:=zz ((zg:w.heap.size≤gb627));replace HB:=zz (zv zb hb);clear hb hbox hg;obtain⟨hcz23_0,hcz23_1,hcz23_2,hcz23_3,hfz23_0,hfz23_1,hfz23_2,hfz23_3⟩:=zc4 BK627.out)|(go_at_call 148;(with_reducible refine(strings_Contains.calls ((qA l0 x30_3).f2) ((rdOf ByteArray.empty l1 x21_2).extract 0 13) true _ ?s1 A19.out).mono ?_);(case s1=>exact zG);rintro e w' ⟨rfl,⟨nd,rfl⟩⟩;(try first|exact⟨rfl,_,World.drewN_drewN _ _ _⟩|exact⟨rfl,_,Eq.trans (World.drewN_drewN _ _ _) (congrArg (World.drewN _) (Nat.add_assoc _ _ _))⟩))|((with_reducible refine MapSet.gate_put (t:=136) (m:=39) (k:=40) rfl ?_);refine MapSet.put_event rfl rfl rfl rfl (HM.out.below zb) A21.out ?_;intro wput hms hg;have n1_:=zz hms;have n2_:=zz (MapSet.grown (zv HLt0.out zb) hg HBM.out);have n3_:=zz (MapSet.grown (zv HW.out zb) hg HBM.out);clear HM HB HW HLt0 HLt1 hms hg;have HM:=n1_;have HLt0:=n2_;have HW:=n3_;clear n1_ n2_ n3_;rename World=>w;have HB:=zz (Below.refl w.heap.size w)))
       repeat(go_quiet (first|(refine zN 9 ?_;(try(refine z4 ?_;dsimp only));refine zX 9 96 #[.string (⟨#[]⟩:ByteArray),.int .i64 0,.string (⟨#[]⟩:ByteArray),.bool false] ?_;intro gb627 hg w22 hbox hb;have BK627:=zz (hbox);have GW627:=zz ((zg:w.heap.size≤gb627));have GE627:=zz ((zg:w.heap.size≤gb627));replace HB:=zz (zv zb hb);clear hb hbox hg;obtain⟨hcz23_0,hcz23_1,hcz23_2,hcz23_3,hfz23_0,hfz23_1,hfz23_2,hfz23_3⟩:=zc4 BK627.out)|(go_at_call 148;(with_reducible refine(strings_Contains.calls ((qA l0 x30_3).f2) ((rdOf ByteArray.empty l1 x21_2).extract 0 13) true _ ?s1 A19.out).mono ?_);(case s1=>exact zG);rintro e w' ⟨rfl,⟨nd,rfl⟩⟩;(try first|exact⟨rfl,_,World.drewN_drewN _ _ _⟩|exact⟨rfl,_,Eq.trans (World.drewN_drewN _ _ _) (congrArg (World.drewN _) (Nat.add_assoc _ _ _))⟩))|((with_reducible refine MapSet.gate_put (t:=136) (m:=39) (k:=40) rfl ?_);refine MapSet.put_event rfl rfl rfl rfl (HM.out.below zb) A21.out ?_;intro wput hms hg;have n1_:=zz hms;have n2_:=zz (MapSet.grown (zv HLt0.out zb) hg HBM.out);have n3_:=zz (MapSet.grown (zv HW.out zb) hg HBM.out);clear HM HB HW HLt0 HLt1 hms hg;have HM:=n1_;have HLt0:=n2_;have HW:=n3_;clear n1_ n2_ n3_;rename World=>w;have HB:=zz (Below.refl w.heap.size w)));try go_wp2_with(first|(refine zN 9 ?_;(try(refine z4 ?_;dsimp only));refine zX 9 96 #[.string (⟨#[]⟩:ByteArray),.int .i64 0,.string (⟨#[]⟩:ByteArray),.bool false] ?_;intro gb627 hg w22 hbox hb;have BK627:=zz (hbox);have GW627:=zz ((zg:w.heap.size≤gb627));have GE627:=zz ((zg:w.heap.size≤gb627));replace HB:=zz (zv zb hb);clear hb hbox hg;obtain⟨hcz23_0,hcz23_1,hcz23_2,hcz23_3,hfz23_0,hfz23_1,hfz23_2,hfz23_3⟩:=zc4 BK627.out)|(go_at_call 148;(with_reducible refine(strings_Contains.calls ((qA l0 x30_3).f2) ((rdOf ByteArray.empty l1 x21_2).extract 0 13) true _ ?s1 A19.out).mono ?_);(case s1=>exact zG);rintro e w' ⟨rfl,⟨nd,rfl⟩⟩;(try first|exact⟨rfl,_,World.drewN_drewN _ _ _⟩|exact⟨rfl,_,Eq.trans (World.drewN_drewN _ _ _) (congrArg (World.drewN _) (Nat.add_assoc _ _ _))⟩))|((with_reducible refine MapSet.gate_put (t:=136) (m:=39) (k:=40) rfl ?_);refine MapSet.put_event rfl rfl rfl rfl (HM.out.below zb) A21.out ?_;intro wput hms hg;have n1_:=zz hms;have n2_:=zz (MapSet.grown (zv HLt0.out zb) hg HBM.out);have n3_:=zz (MapSet.grown (zv HW.out zb) hg HBM.out);clear HM HB HW HLt0 HLt1 hms hg;have HM:=n1_;have HLt0:=n2_;have HW:=n3_;clear n1_ n2_ n3_;rename World=>w;have HB:=zz (Below.refl w.heap.size w))))
       go_roundg k3
       case measure=>have:=HJ2.out;have:=HK2.out;have:=HK3.out;omega
       case rel=>exact⟨(t629),(wrap64 (x21_2+1)),zr,H',⟨by have:=HJ2.out;have:=HK2.out;have:=HK3.out;omega⟩,⟨zv HLt0.out zb⟩,⟨HM.out.below zb⟩⟩
def spec_l3Add.l0:Nat→List ByteArray→ByteArray→Int→Option (List ByteArray)
 |0,_,_,_=>none
 |k+1,x0,x1,x5=>if x5<(x0.length:Int) then(if 0≤x5 then(if(Op.bytesLess ((rdOf ByteArray.empty x0 x5).toList) x1.toList)=true then(spec_l3Add.l0 k x0 x1 (wrap64 (x5+1))) else(if(rdOf ByteArray.empty x0 x5).toList=x1.toList then(some x0) else((some (([]:List ByteArray):List ByteArray)).bind fun y375=>(if x5≤(x0.length:Int) then((some (x0.take (x5:Int).toNat:List ByteArray)).bind fun y378=>(if y375.length+y378.length<8796093022208 then((some (y375++y378:List ByteArray)).bind fun y382=>(if y382.length<8796093022208 then((some (y382++[x1]:List ByteArray)).bind fun y385=>((some (x0.drop (x5:Int).toNat:List ByteArray)).bind fun y388=>(if y385.length+y388.length<8796093022208 then(some (y385++y388)) else(none)))) else(none))) else(none))) else(none))))) else(none)) else((some (([]:List ByteArray):List ByteArray)).bind fun y395=>(if 0≤x5 then(if x5≤(x0.length:Int) then((some (x0.take (x5:Int).toNat:List ByteArray)).bind fun y398=>(if y395.length+y398.length<8796093022208 then((some (y395++y398:List ByteArray)).bind fun y402=>(if y402.length<8796093022208 then((some (y402++[x1]:List ByteArray)).bind fun y405=>((some (x0.drop (x5:Int).toNat:List ByteArray)).bind fun y408=>(if y405.length+y408.length<8796093022208 then(some (y405++y408)) else(none)))) else(none))) else(none))) else(none)) else(none)))
def spec_l3Add.f(k:Nat)(l0:List ByteArray)(a1:ByteArray):Option (List ByteArray):=spec_l3Add.l0 k l0 a1 0
def spec_l3Add.T7:Bool×List (List Nat×List Nat):=(true,[([],[]),([],[]),([1],[1]),([0,2],[0,2]),([],[]),([],[]),([4,5],[4,5]),([3,6,3],[3,6]),([7,7,0,1,2,3,4,5,6,7],[7])])
def spec_l3Add.B7:List Nat:=[0,0,2,7,0,0,48,127,255]
theorem spec_l3Add.tab7:rtab .any (opsOf Tryz.f101 7)=spec_l3Add.T7:=by kernel_rfl
theorem spec_l3Add.bits7:waitsOk spec_l3Add.T7.2 spec_l3Add.B7=true:=by kernel_rfl
theorem spec_l3Add.calls(k:Nat)(P0_:Nat→Prop)(u9000_:Value)(l0:List ByteArray)(a1:ByteArray)(r:List ByteArray)(w0 w:World)(hB:Below w0.heap.size w0 w)(ho0:Kd.R Kd.string 9 w w0.heap.size P0_ u9000_ l0)(h:spec_l3Add.f k l0 a1=some r):
 Calls Tryz.prog 101 #[u9000_,.string a1] w fun e w'=>∃v0_:Value,e= .returned (v0_)∧Kd.R Kd.string 9 w' w0.heap.size (fun k_=>(P0_ k_∨w.heap.size≤k_)) v0_ r∧Below w0.heap.size w0 w'∧Kept w w' (fun k_=>P0_ k_):=by
 have HO0:=zz (show Kd.R Kd.string 9 w w0.heap.size (fun k_=>(P0_ k_∨w.heap.size≤k_)) u9000_ l0 from Kd.vF ho0 (fun k_ hk=>(.inl hk)))
 have HK:=zz (Kept.refl w (fun k_=>P0_ k_))
 have HW0:=zz hB.size
 have HB:=zz hB
 clear hB
 unfold spec_l3Add.f at h
 have H:=h
 clear h
 have H':=zz H
 clear H
 go_enter Tryz.func101,Tryz.ntmps101
 go_wp2
 go_loopg[5] k (fun kq v5 w'=>∃(x5_1:Int),v5= .int .i64 x5_1∧qB (spec_l3Add.l0 kq l0 a1 x5_1=some r)∧qB (kq≤k)∧qB (Kd.R Kd.string 9 w' w0.heap.size (fun k_=>(P0_ k_∨w.heap.size≤k_)) u9000_ l0)∧qB (Kept w w' (fun k_=>P0_ k_))∧qB (Below w0.heap.size w0 w'))
 case atStart=>exact⟨(0),zr,H',⟨Nat.le_refl _⟩,⟨by(with_reducible repeat(first|apply Kd.qU|apply Kd.qT|apply Kd.qX));exact HO0.out⟩,⟨by repeat(first|(with_reducible first|exact HK.out|apply Kept.alloc|apply Kept.drewN|apply Kept.drew)|exact HK.out)⟩,⟨zb⟩⟩
 case round=>
  clear H'
  try clear c1
  try clear p2
  obtain⟨x5_1,rfl,HA,HK1,HO_0,HK,HB⟩:=hrel
  cases gk with
  |zero=>exact absurd HA.out (by simp[spec_l3Add.l0])
  |succ k1=>
   have H:=HA.out
   clear HA
   simp only[spec_l3Add.l0] at H
   by_cases c3:x5_1<(l0.length:Int)
   ·rw[if_pos c3] at H
    have c3b0:=z1 c3
    clear c3
    by_cases c4:0≤x5_1
    case neg=>exact zno H c4
    rw[if_pos c4] at H
    have c4b0:=z1 c4
    clear c4
    by_cases c5:(Op.bytesLess ((rdOf ByteArray.empty l0 x5_1).toList) a1.toList)=true
    ·rw[if_pos c5] at H
     have c5b0:(Op.bytesLess ((rdOf ByteArray.empty l0 x5_1).toList) a1.toList)=true:=c5
     clear c5
     have H':=zz H
     clear H
     obtain⟨Ao6,co6,eo6⟩:=Kd.vG HO_0.out
     subst eo6
     have p373:0≤(x5_1:Int):=z2
     have q373:x5_1<(l0.length:Int):=z2
     obtain⟨ad373,e373,hx373_0⟩:=Kd.vC (Kd.qS HO_0.out).2.2 x5_1 p373 q373
     cases e373
     replace p373:=eq_true p373
     replace q373:=eq_true q373
     go_wp2
     go_roundg k1
     case measure=>have:=HK1.out;omega
     case rel=>exact⟨(wrap64 (x5_1+1)),zr,H',⟨by have:=HK1.out;omega⟩,⟨by(with_reducible repeat(first|apply Kd.qU|apply Kd.qT|apply Kd.qX));exact HO_0.out⟩,⟨by repeat(first|(with_reducible first|exact HK.out|apply Kept.alloc|apply Kept.drewN|apply Kept.drew)|exact HK.out)⟩,⟨zb⟩⟩
    rw[if_neg c5] at H
    have c5b0:(Op.bytesLess ((rdOf ByteArray.empty l0 x5_1).toList) a1.toList)=false:=by simpa using c5
    clear c5
    by_cases c7:(rdOf ByteArray.empty l0 x5_1).toList=a1.toList
    ·rw[if_pos c7] at H
     obtain⟨c7b0,c7b1⟩:=zq c7
     clear c7
     obtain rfl:=zi H
     obtain⟨Ao8,co8,eo8⟩:=Kd.vG HO_0.out
     subst eo8
     have p373:0≤(x5_1:Int):=z2
     have q373:x5_1<(l0.length:Int):=z2
     obtain⟨ad373,e373,hx373_0⟩:=Kd.vC (Kd.qS HO_0.out).2.2 x5_1 p373 q373
     cases e373
     replace p373:=eq_true p373
     replace q373:=eq_true q373
     have p374:0≤(x5_1:Int):=z2
     have q374:x5_1<(l0.length:Int):=z2
     obtain⟨ad374,e374,hx374_0⟩:=Kd.vC (Kd.qS HO_0.out).2.2 x5_1 p374 q374
     obtain rfl:ad373=ad374:=(by injection e374)
     replace p374:=eq_true p374
     replace q374:=eq_true q374
     go_wp2
     go_ret
     exact⟨_,ze,by(with_reducible repeat(first|apply Kd.qU|apply Kd.qT|apply Kd.qX));exact HO_0.out,zb,by repeat(first|(with_reducible first|exact HK.out|apply Kept.alloc|apply Kept.drewN|apply Kept.drew)|exact HK.out)⟩
    rw[if_neg c7] at H
    obtain⟨c7b0,c7b1⟩:=zw c7
    obtain⟨y375,hy375⟩:∃y_:List ByteArray,y_=(([]:List ByteArray)):=⟨_,rfl⟩
    replace H:(if x5_1≤(l0.length:Int) then((some (l0.take (x5_1:Int).toNat:List ByteArray)).bind fun y378=>(if y375.length+y378.length<8796093022208 then((some (y375++y378:List ByteArray)).bind fun y382=>(if y382.length<8796093022208 then((some (y382++[a1]:List ByteArray)).bind fun y385=>((some (l0.drop (x5_1:Int).toNat:List ByteArray)).bind fun y388=>(if y385.length+y388.length<8796093022208 then(some (y385++y388)) else(none)))) else(none))) else(none))) else(none))=some r:=by first|(rw[hy375];with_reducible exact H)|(have H2_:=(Option.bind_some _ _).symm.trans H;rw[hy375];with_reducible exact H2_)|(have H2_:=(Option.bind_some _ _).symm.trans H;with_reducible exact H2_)|with_reducible exact H|(rw[hy375];exact H)|exact H
    have Ny375:=zz hy375
    clear hy375
    have c9b0:=eq_true (z2:0≤x5_1)
    by_cases c10:x5_1≤(l0.length:Int)
    case neg=>exact zno H c10
    rw[if_pos c10] at H
    have c10b0:=eq_true c10
    have c10b1:=z1 c10
    clear c10
    obtain⟨y378,hy378⟩:∃y_:List ByteArray,y_=(l0.take (x5_1:Int).toNat):=⟨_,rfl⟩
    replace H:(if y375.length+y378.length<8796093022208 then((some (y375++y378:List ByteArray)).bind fun y382=>(if y382.length<8796093022208 then((some (y382++[a1]:List ByteArray)).bind fun y385=>((some (l0.drop (x5_1:Int).toNat:List ByteArray)).bind fun y388=>(if y385.length+y388.length<8796093022208 then(some (y385++y388)) else(none)))) else(none))) else(none))=some r:=by first|(rw[hy378];with_reducible exact H)|(have H2_:=(Option.bind_some _ _).symm.trans H;rw[hy378];with_reducible exact H2_)|(have H2_:=(Option.bind_some _ _).symm.trans H;with_reducible exact H2_)|with_reducible exact H|(rw[hy378];exact H)|exact H
    have Ny378:=zz hy378
    clear hy378
    by_cases c11:y375.length+y378.length<8796093022208
    case neg=>exact zno H c11
    rw[if_pos c11] at H
    have LMc11:=zz c11
    clear c11
    obtain⟨y382,hy382⟩:∃y_:List ByteArray,y_=(y375++y378):=⟨_,rfl⟩
    replace H:(if y382.length<8796093022208 then((some (y382++[a1]:List ByteArray)).bind fun y385=>((some (l0.drop (x5_1:Int).toNat:List ByteArray)).bind fun y388=>(if y385.length+y388.length<8796093022208 then(some (y385++y388)) else(none)))) else(none))=some r:=by first|(rw[hy382];with_reducible exact H)|(have H2_:=(Option.bind_some _ _).symm.trans H;rw[hy382];with_reducible exact H2_)|(have H2_:=(Option.bind_some _ _).symm.trans H;with_reducible exact H2_)|with_reducible exact H|(rw[hy382];exact H)|exact H
    have Ny382:=zz hy382
    clear hy382
    by_cases c12:y382.length<8796093022208
    case neg=>exact zno H c12
    rw[if_pos c12] at H
    have LMc12:=zz c12
    clear c12
    obtain⟨y385,hy385⟩:∃y_:List ByteArray,y_=(y382++[a1]):=⟨_,rfl⟩
    replace H:((some (l0.drop (x5_1:Int).toNat:List ByteArray)).bind fun y388=>(if y385.length+y388.length<8796093022208 then(some (y385++y388)) else(none)))=some r:=by first|(rw[hy385];with_reducible exact H)|(have H2_:=(Option.bind_some _ _).symm.trans H;rw[hy385];with_reducible exact H2_)|(have H2_:=(Option.bind_some _ _).symm.trans H;with_reducible exact H2_)|with_reducible exact H|(rw[hy385];exact H)|exact H
    have Ny385:=zz hy385
    clear hy385
    have c13b0:=eq_true (z2:0≤x5_1)
    have c14b0:=eq_true (z2:x5_1≤(l0.length:Int))
    obtain⟨y388,hy388⟩:∃y_:List ByteArray,y_=(l0.drop (x5_1:Int).toNat):=⟨_,rfl⟩
    replace H:(if y385.length+y388.length<8796093022208 then(some (y385++y388)) else(none))=some r:=by first|(rw[hy388];with_reducible exact H)|(have H2_:=(Option.bind_some _ _).symm.trans H;rw[hy388];with_reducible exact H2_)|(have H2_:=(Option.bind_some _ _).symm.trans H;with_reducible exact H2_)|with_reducible exact H|(rw[hy388];exact H)|exact H
    have Ny388:=zz hy388
    clear hy388
    by_cases c15:y385.length+y388.length<8796093022208
    case neg=>exact zno H c15
    rw[if_pos c15] at H
    have LMc15:=zz c15
    clear c15
    obtain⟨y392,hy392⟩:∃y_:List ByteArray,y_=(y385++y388):=⟨_,rfl⟩
    replace H:(some y392)=some r:=by first|(rw[hy392];with_reducible exact H)|(have H2_:=(Option.bind_some _ _).symm.trans H;rw[hy392];with_reducible exact H2_)|(have H2_:=(Option.bind_some _ _).symm.trans H;with_reducible exact H2_)|with_reducible exact H|(rw[hy392];exact H)|exact H
    have Ny392:=zz hy392
    clear hy392
    obtain rfl:=zi H
    obtain⟨Ao16,co16,eo16⟩:=Kd.vG HO_0.out
    subst eo16
    have p373:0≤(x5_1:Int):=z2
    have q373:x5_1<(l0.length:Int):=z2
    obtain⟨ad373,e373,hx373_0⟩:=Kd.vC (Kd.qS HO_0.out).2.2 x5_1 p373 q373
    cases e373
    replace p373:=eq_true p373
    replace q373:=eq_true q373
    have p374:0≤(x5_1:Int):=z2
    have q374:x5_1<(l0.length:Int):=z2
    obtain⟨ad374,e374,hx374_0⟩:=Kd.vC (Kd.qS HO_0.out).2.2 x5_1 p374 q374
    obtain rfl:ad373=ad374:=(by injection e374)
    replace p374:=eq_true p374
    replace q374:=eq_true q374
    try go_wp2_with(first|(refine zN 34 ?_;refine Kd.R_lit Kd.string _ 9 ?hg (N:=34) ?hd (xs:=([]:List ByteArray)) (inner:=[]) (ok:=fun _=>True) (okp:=fun _=>True) ?hr ?hp (fun _ hk=>hk) trivial (Below.refl _ _) (Nat.le_refl _) (by simp) ?_;(case hd=>rfl);(case hg=>rfl);(case hr=>first|(go_simp;done)|(go_simp;rfl));(case hp=>exact(Reps.none _ _));intro v376 w17 ho18 hb hg_ hnew_;clear hg_ hnew_;(first|rw[←Ny375.out] at ho18|(simp only[Int.reduceToNat] at ho18;rw[←Ny375.out] at ho18));have HO377:=zz (Kd.vH (Kd.R_new' (Kd.R_newM (M:=fun k_=>(P0_ k_∨w.heap.size≤k_)) ho18 (by first|exact HK.out.1|exact(show Kept w _ (fun k_=>P0_ k_) from by repeat(first|(with_reducible first|exact HK.out|apply Kept.alloc|apply Kept.drewN|apply Kept.drew)|exact HK.out)).1) (fun k_ h_=> .inr h_)) (Kd.R_lt (zR HO_0.out))) (qG zb));replace HO_0:=zz (Kd.R_elder' (zR HO_0.out) (Kd.R_base ho18) hb);replace HK:=zz (Kept.below (S:=(fun k_=>P0_ k_)) (by repeat(first|(with_reducible first|exact HK.out|apply Kept.alloc|apply Kept.drewN|apply Kept.drew)|exact HK.out)) hb);replace HB:=zz (zv zb hb);clear hb ho18;have q19:(x5_1:Int)≤((l0.length:Int):Int):=z2;obtain⟨i019,hi019,_,hsz19,_⟩:=info_parts info9;have hroom19:l0.length≤co16:=(Kd.qS HO_0.out).2.1;have hC19:Kd.C Kd.string _ (some ad373) l0.length l0:=(Kd.qS HO_0.out).2.2;have hcut19:=cut_to (P:=Tryz.prog) 39 9 .i64 Tryz.underlying39 hi019 (some ad373) l0.length co16 x5_1 (z2) q19 hroom19;have hr19:=Kd.C_take (m:=(x5_1:Int).toNat) hC19 (by omega);have hy19:y378.length=(x5_1:Int).toNat:=(by rw[Ny378.out,List.length_take];omega);rw[←Ny378.out] at hr19;rw[←hy19] at hcut19;have HR381:=zz hr19;have HC381:=zz (show y378.length≤co16 from by omega);clear hr19 hC19 hroom19 hi019 hsz19;have KY19:=zz hy19;clear hy19;have KL19:=zz (show(x5_1:Int).toNat≤l0.length from by omega);replace q19:=eq_true q19)|((with_reducible refine vJ (b:= .append) (xs:= #[.tmp 34,.tmp 37]) rfl ?_);at_builtin;refine Kd.R_append_rows Kd.string (w0:=w0) w0.heap.size rfl (.tmp 34) (.tmp 37) 39 9 (.string ⟨#[]⟩) 16 rfl Tryz.underlying39 info9 rfl (by decide) (by omega) v376 y375 y378 _ _ _ (fun k_=>(P0_ k_∨w.heap.size≤k_)∧some k_≠(.slice (some ad373) l0.length co16:Value).ownBlock) (fun _=>False) rfl rfl ?aO ?aR (fun _ _ h=>h) (fun _ h=>h.elim) ?aF ?aB ?aS ?aL ?_;(case aR=>repeat(first|exact(by repeat(first|(with_reducible exact HR381.out)|(with_reducible refine Kd.C_alloc ?_ _)|(with_reducible refine Kd.C_drewN ?_ _)|(with_reducible refine Kd.C_drew ?_)|exact HR381.out))|(with_reducible refine Kd.C_alloc ?_ _)|(with_reducible refine Kd.C_drewN ?_ _)|(with_reducible refine Kd.C_drew ?_)));(case aB=>exact zb);(case aF=>exact(fun k_ hk=>⟨(.inr (Nat.le_trans (by first|exact HK.out.1|exact(show Kept w _ (fun k_=>P0_ k_) from by repeat(first|(with_reducible first|exact HK.out|apply Kept.alloc|apply Kept.drewN|apply Kept.drew)|exact HK.out)).1) hk)),Kd.fresh' (Kd.R_lt (zR HO_0.out)) k_ hk⟩));(case aO=>exact(by(with_reducible repeat(first|apply Kd.qU|apply Kd.qT|apply Kd.qX));exact Kd.vF HO377.out (fun _ hk=>⟨hk.1.1,hk.2⟩)));(case aS=>exact(qG zb));(case aL=>have:=LMc11.out;omega);intro v383 w20 ho hb hg hat;rw[←Ny382.out] at ho;replace HB:=zz (hb);replace HK:=zz (Kept.of_grown (S:=(fun k_=>P0_ k_)) hg (by repeat(first|(with_reducible first|exact HK.out|apply Kept.alloc|apply Kept.drewN|apply Kept.drew)|exact HK.out)) (fun k_ e_=>(HO377.out.1 k_ e_).1.1));replace HR381:=zz ((show Kd.C Kd.string w20 (some ad373) y378.length y378 from by rw[Ny378.out];exact Kd.C_take (m:=(x5_1:Int).toNat) ((Kd.qS (Kd.R_after (ok:=(fun k_=>(P0_ k_∨w.heap.size≤k_))) (zR HO_0.out) hg hat)).2.2) KL19.out));replace HO_0:=zz (Kd.R_after (ok:=(fun k_=>(P0_ k_∨w.heap.size≤k_))) (zR HO_0.out) hg hat);have HO384:=zz (ho);clear HO377;clear ho hb hg hat))
    replace HO_0:=zz (Kd.qX HO_0.out)
    replace HO384:=zz (Kd.qX HO384.out)
    replace HR381:=zz (Kd.C_drew HR381.out)
    replace HK:=zz (Kept.drew HK.out)
    replace HB:=zz (qQ HB.out)
    have q22:(x5_1:Int)≤((l0.length:Int):Int):=z2
    obtain⟨i022,hi022,_,hsz22,_⟩:=info_parts info9
    have hroom22:l0.length≤co16:=(Kd.qS HO_0.out).2.1
    have hC22:Kd.C Kd.string _ (some ad373) l0.length l0:=(Kd.qS HO_0.out).2.2
    have q022:(0:Int)≤(x5_1:Int):=z2
    have hcut22:=cut_from (P:=Tryz.prog) 39 9 .i64 Tryz.underlying39 hi022 1 hsz22 (some ad373) l0.length co16 x5_1 q022 q22
    have hr22:=Kd.C_drop (m:=(x5_1:Int).toNat) (c:=co16) hC22 (by omega) hroom22
    obtain⟨A22,hA22⟩:∃A1,A1=(if co16=(x5_1:Int).toNat then(some ad373) else((some ad373):Option Addr).map (·.add ((x5_1:Int).toNat*1))):=⟨_,rfl⟩
    obtain⟨c22,hc22⟩:∃c1,c1=co16 - (x5_1:Int).toNat:=⟨_,rfl⟩
    have hy22:y388.length=l0.length - (x5_1:Int).toNat:=(by rw[Ny388.out,List.length_drop]<;>omega)
    rw[show(l0).drop (x5_1:Int).toNat=y388 from Ny388.out.symm] at hr22
    replace hr22:Kd.C Kd.string _ A22 y388.length y388:=(by rw[hA22];exact hr22)
    rw[←hy22,←hA22,←hc22] at hcut22
    have HR391:=zz hr22
    have HC391:=zz (show y388.length≤c22 from by rw[hy22,hc22];exact Nat.sub_le_sub_right hroom22 _)
    clear hr22 hC22 hroom22 hi022 hsz22 hc22
    have KY22:=zz hy22
    have KA22:=zz hA22
    clear hy22 hA22
    have KL22:=zz (show(x5_1:Int).toNat≤l0.length from by omega)
    replace q22:=eq_true q22
    refine start_ (n:=9) (S:=fun w'=>True) (ds:=[]) (bp 0 9) zk rfl rfl trivial (fun hHeld=>?_);refine with_tabW spec_l3Add.tab7 spec_l3Add.bits7 (fun HT_ HW_=>?_)
    generalize w20.drew=w21 at HO_0 HO384 HR381 HK HB HR391 hHeld⊢
    refine zp 0 39 (bp 1 8) ?_
    refine zp 1 40 (bp 2 7) ?_
    refine zp 4 43 (bm 9 19) ?_
    refine zp 5 44 (bm 9 51) ?_
    refine zp 6 45 (bm 9 115) ?_
    refine zo 2 41 (bm 9 119) fun K hK=>?_
    refine value_ (w1:=?_) (v:=?_) (by rfl) rfl ?_ ?_
    rotate_left 2
    ·go_simp
     constructor
     ·rfl
     ·rfl
    refine hK.out _ _ trivial (fun hHeld=>?_)
    clear hK K
    refine zn 41 ?_
    refine zo 3 42 (bp 7 2) fun K hK=>?_
    refine Kd.R_append_step Kd.string (w0:=w0) w0.heap.size (by rfl) (.tmp 39) (.tmp 41) 39 9 (.string ⟨#[]⟩) 16 rfl Tryz.underlying39 info9 rfl (by decide) (by omega) v383 y382 a1 [.string a1] (fun k_=>(P0_ k_∨w.heap.size≤k_)∧some k_≠(.slice (some ad373) l0.length co16:Value).ownBlock) (fun _=>False) rfl rfl ?aP (fun _ hk=>hk.elim) ?aF ?aO ?aB ?aS ?aL ?_
    (case aP=>exact rfl)
    (case aB=>exact zb)
    (case aF=>exact(fun k_ hk=>⟨(.inr (Nat.le_trans (by first|exact HK.out.1|exact(show Kept w _ (fun k_=>P0_ k_) from by repeat(first|(with_reducible first|exact HK.out|apply Kept.alloc|apply Kept.drewN|apply Kept.drew)|exact HK.out)).1) hk)),Kd.fresh' (Kd.R_lt (zR HO_0.out)) k_ hk⟩))
    (case aO=>exact(zR HO384.out))
    (case aS=>exact(qG zb))
    (case aL=>have:=LMc12.out;omega)
    intro v386 w23 ho hb hg hat
    rw[←Ny385.out] at ho
    replace HB:=zz (hb)
    replace HK:=zz (Kept.of_grown (S:=(fun k_=>P0_ k_)) hg (by repeat(first|(with_reducible first|exact HK.out|apply Kept.alloc|apply Kept.drewN|apply Kept.drew)|exact HK.out)) (fun k_ e_=>(HO384.out.1 k_ e_).1))
    replace HR381:=zz ((show Kd.C Kd.string w23 (some ad373) y378.length y378 from by rw[Ny378.out];exact Kd.C_take (m:=(x5_1:Int).toNat) ((Kd.qS (Kd.R_after (ok:=(fun k_=>(P0_ k_∨w.heap.size≤k_))) (zR HO_0.out) hg hat)).2.2) KL19.out))
    replace HR391:=zz ((show Kd.C Kd.string w23 A22 y388.length y388 from by rw[Ny388.out,KA22.out];exact Kd.C_drop (m:=(x5_1:Int).toNat) (c:=co16) ((Kd.qS (Kd.R_after (ok:=(fun k_=>(P0_ k_∨w.heap.size≤k_))) (zR HO_0.out) hg hat)).2.2) KL22.out ((Kd.qS (Kd.R_after (ok:=(fun k_=>(P0_ k_∨w.heap.size≤k_))) (zR HO_0.out) hg hat)).2.1)))
    replace HO_0:=zz (Kd.R_after (ok:=(fun k_=>(P0_ k_∨w.heap.size≤k_))) (zR HO_0.out) hg hat)
    have HO387:=zz (ho)
    clear HO384
    clear ho hb hg hat
    refine hK.out _ _ trivial (fun hHeld=>?_)
    clear hK K
    refine zn 42 ?_
    refine zo 7 46 (bp 8 1) fun K hK=>?_
    refine Kd.R_append_rows_step Kd.string (w0:=w0) w0.heap.size (by rfl) (.tmp 42) (.tmp 45) 39 9 (.string ⟨#[]⟩) 16 rfl Tryz.underlying39 info9 rfl (by decide) (by omega) v386 y385 y388 _ _ _ (fun k_=>(P0_ k_∨w.heap.size≤k_)∧some k_≠(.slice (some ad373) l0.length co16:Value).ownBlock) (fun _=>False) rfl rfl ?aO ?aR (fun _ _ h=>h) (fun _ h=>h.elim) ?aF ?aB ?aS ?aL ?_
    (case aR=>repeat(first|exact(by repeat(first|(with_reducible exact HR391.out)|(with_reducible refine Kd.C_alloc ?_ _)|(with_reducible refine Kd.C_drewN ?_ _)|(with_reducible refine Kd.C_drew ?_)|exact HR391.out))|(with_reducible refine Kd.C_alloc ?_ _)|(with_reducible refine Kd.C_drewN ?_ _)|(with_reducible refine Kd.C_drew ?_)))
    (case aB=>exact zb)
    (case aF=>exact(fun k_ hk=>⟨(.inr (Nat.le_trans (by first|exact HK.out.1|exact(show Kept w _ (fun k_=>P0_ k_) from by repeat(first|(with_reducible first|exact HK.out|apply Kept.alloc|apply Kept.drewN|apply Kept.drew)|exact HK.out)).1) hk)),Kd.fresh' (Kd.R_lt (zR HO_0.out)) k_ hk⟩))
    (case aO=>exact(zR HO387.out))
    (case aS=>exact(qG zb))
    (case aL=>have:=LMc15.out;omega)
    intro v393 w24 ho hb hg hat
    rw[←Ny392.out] at ho
    replace HB:=zz (hb)
    replace HK:=zz (Kept.of_grown (S:=(fun k_=>P0_ k_)) hg (by repeat(first|(with_reducible first|exact HK.out|apply Kept.alloc|apply Kept.drewN|apply Kept.drew)|exact HK.out)) (fun k_ e_=>(HO387.out.1 k_ e_).1))
    replace HR381:=zz ((show Kd.C Kd.string w24 (some ad373) y378.length y378 from by rw[Ny378.out];exact Kd.C_take (m:=(x5_1:Int).toNat) ((Kd.qS (Kd.R_after (ok:=(fun k_=>(P0_ k_∨w.heap.size≤k_))) (zR HO_0.out) hg hat)).2.2) KL19.out))
    replace HR391:=zz ((show Kd.C Kd.string w24 A22 y388.length y388 from by rw[Ny388.out,KA22.out];exact Kd.C_drop (m:=(x5_1:Int).toNat) (c:=co16) ((Kd.qS (Kd.R_after (ok:=(fun k_=>(P0_ k_∨w.heap.size≤k_))) (zR HO_0.out) hg hat)).2.2) KL22.out ((Kd.qS (Kd.R_after (ok:=(fun k_=>(P0_ k_∨w.heap.size≤k_))) (zR HO_0.out) hg hat)).2.1)))
    replace HO_0:=zz (Kd.R_after (ok:=(fun k_=>(P0_ k_∨w.heap.size≤k_))) (zR HO_0.out) hg hat)
    have HO394:=zz (ho)
    clear HO387
    clear ho hb hg hat
    refine hK.out _ _ trivial (fun hHeld=>?_)
    clear hK K
    refine zn 46 ?_
    refine zp 8 4 (bp 9 0) ?_
    refine done_ (done_of HT_.out zk) ?_
    try go_wp2
    go_ret
    exact⟨_,ze,by(with_reducible repeat(first|apply Kd.qU|apply Kd.qT|apply Kd.qX));exact Kd.vF HO394.out (fun _ hk=>hk.1),zb,by repeat(first|(with_reducible first|exact HK.out|apply Kept.alloc|apply Kept.drewN|apply Kept.drew)|exact HK.out)⟩
   rw[if_neg c3] at H
   have c3b0:=z0 c3
   clear c3
   obtain⟨y395,hy395⟩:∃y_:List ByteArray,y_=(([]:List ByteArray)):=⟨_,rfl⟩
   replace H:(if 0≤x5_1 then(if x5_1≤(l0.length:Int) then((some (l0.take (x5_1:Int).toNat:List ByteArray)).bind fun y398=>(if y395.length+y398.length<8796093022208 then((some (y395++y398:List ByteArray)).bind fun y402=>(if y402.length<8796093022208 then((some (y402++[a1]:List ByteArray)).bind fun y405=>((some (l0.drop (x5_1:Int).toNat:List ByteArray)).bind fun y408=>(if y405.length+y408.length<8796093022208 then(some (y405++y408)) else(none)))) else(none))) else(none))) else(none)) else(none))=some r:=by first|(rw[hy395];with_reducible exact H)|(have H2_:=(Option.bind_some _ _).symm.trans H;rw[hy395];with_reducible exact H2_)|(have H2_:=(Option.bind_some _ _).symm.trans H;with_reducible exact H2_)|with_reducible exact H|(rw[hy395];exact H)|exact H
   have Ny395:=zz hy395
   clear hy395
   by_cases c25:0≤x5_1
   case neg=>exact zno H c25
   rw[if_pos c25] at H
   have c25b0:=eq_true c25
   have c25b1:=z1 c25
   clear c25
   by_cases c26:x5_1≤(l0.length:Int)
   case neg=>exact zno H c26
   rw[if_pos c26] at H
   have c26b0:=eq_true c26
   have c26b1:=z1 c26
   clear c26
   obtain⟨y398,hy398⟩:∃y_:List ByteArray,y_=(l0.take (x5_1:Int).toNat):=⟨_,rfl⟩
   replace H:(if y395.length+y398.length<8796093022208 then((some (y395++y398:List ByteArray)).bind fun y402=>(if y402.length<8796093022208 then((some (y402++[a1]:List ByteArray)).bind fun y405=>((some (l0.drop (x5_1:Int).toNat:List ByteArray)).bind fun y408=>(if y405.length+y408.length<8796093022208 then(some (y405++y408)) else(none)))) else(none))) else(none))=some r:=by first|(rw[hy398];with_reducible exact H)|(have H2_:=(Option.bind_some _ _).symm.trans H;rw[hy398];with_reducible exact H2_)|(have H2_:=(Option.bind_some _ _).symm.trans H;with_reducible exact H2_)|with_reducible exact H|(rw[hy398];exact H)|exact H
   have Ny398:=zz hy398
   clear hy398
   by_cases c27:y395.length+y398.length<8796093022208
   case neg=>exact zno H c27
   rw[if_pos c27] at H
   have LMc27:=zz c27
   clear c27
   obtain⟨y402,hy402⟩:∃y_:List ByteArray,y_=(y395++y398):=⟨_,rfl⟩
   replace H:(if y402.length<8796093022208 then((some (y402++[a1]:List ByteArray)).bind fun y405=>((some (l0.drop (x5_1:Int).toNat:List ByteArray)).bind fun y408=>(if y405.length+y408.length<8796093022208 then(some (y405++y408)) else(none)))) else(none))=some r:=by first|(rw[hy402];with_reducible exact H)|(have H2_:=(Option.bind_some _ _).symm.trans H;rw[hy402];with_reducible exact H2_)|(have H2_:=(Option.bind_some _ _).symm.trans H;with_reducible exact H2_)|with_reducible exact H|(rw[hy402];exact H)|exact H
   have Ny402:=zz hy402
   clear hy402
   by_cases c28:y402.length<8796093022208
   case neg=>exact zno H c28
   rw[if_pos c28] at H
   have LMc28:=zz c28
   clear c28
   obtain⟨y405,hy405⟩:∃y_:List ByteArray,y_=(y402++[a1]):=⟨_,rfl⟩
   replace H:((some (l0.drop (x5_1:Int).toNat:List ByteArray)).bind fun y408=>(if y405.length+y408.length<8796093022208 then(some (y405++y408)) else(none)))=some r:=by first|(rw[hy405];with_reducible exact H)|(have H2_:=(Option.bind_some _ _).symm.trans H;rw[hy405];with_reducible exact H2_)|(have H2_:=(Option.bind_some _ _).symm.trans H;with_reducible exact H2_)|with_reducible exact H|(rw[hy405];exact H)|exact H
   have Ny405:=zz hy405
   clear hy405
   have c29b0:=eq_true (z2:0≤x5_1)
   have c30b0:=eq_true (z2:x5_1≤(l0.length:Int))
   obtain⟨y408,hy408⟩:∃y_:List ByteArray,y_=(l0.drop (x5_1:Int).toNat):=⟨_,rfl⟩
   replace H:(if y405.length+y408.length<8796093022208 then(some (y405++y408)) else(none))=some r:=by first|(rw[hy408];with_reducible exact H)|(have H2_:=(Option.bind_some _ _).symm.trans H;rw[hy408];with_reducible exact H2_)|(have H2_:=(Option.bind_some _ _).symm.trans H;with_reducible exact H2_)|with_reducible exact H|(rw[hy408];exact H)|exact H
   have Ny408:=zz hy408
   clear hy408
   by_cases c31:y405.length+y408.length<8796093022208
   case neg=>exact zno H c31
   rw[if_pos c31] at H
   have LMc31:=zz c31
   clear c31
   obtain⟨y412,hy412⟩:∃y_:List ByteArray,y_=(y405++y408):=⟨_,rfl⟩
   replace H:(some y412)=some r:=by first|(rw[hy412];with_reducible exact H)|(have H2_:=(Option.bind_some _ _).symm.trans H;rw[hy412];with_reducible exact H2_)|(have H2_:=(Option.bind_some _ _).symm.trans H;with_reducible exact H2_)|with_reducible exact H|(rw[hy412];exact H)|exact H
   have Ny412:=zz hy412
   clear hy412
   obtain rfl:=zi H
   obtain⟨Ao32,co32,eo32⟩:=Kd.vG HO_0.out
   subst eo32
   try go_wp2_with(first|(refine zN 34 ?_;refine Kd.R_lit Kd.string _ 9 ?hg (N:=34) ?hd (xs:=([]:List ByteArray)) (inner:=[]) (ok:=fun _=>True) (okp:=fun _=>True) ?hr ?hp (fun _ hk=>hk) trivial (Below.refl _ _) (Nat.le_refl _) (by simp) ?_;(case hd=>rfl);(case hg=>rfl);(case hr=>first|(go_simp;done)|(go_simp;rfl));(case hp=>exact(Reps.none _ _));intro v396 w33 ho34 hb hg_ hnew_;clear hg_ hnew_;(first|rw[←Ny395.out] at ho34|(simp only[Int.reduceToNat] at ho34;rw[←Ny395.out] at ho34));have HO397:=zz (Kd.vH (Kd.R_new' (Kd.R_newM (M:=fun k_=>(P0_ k_∨w.heap.size≤k_)) ho34 (by first|exact HK.out.1|exact(show Kept w _ (fun k_=>P0_ k_) from by repeat(first|(with_reducible first|exact HK.out|apply Kept.alloc|apply Kept.drewN|apply Kept.drew)|exact HK.out)).1) (fun k_ h_=> .inr h_)) (Kd.R_lt (zR HO_0.out))) (qG zb));replace HO_0:=zz (Kd.R_elder' (zR HO_0.out) (Kd.R_base ho34) hb);replace HK:=zz (Kept.below (S:=(fun k_=>P0_ k_)) (by repeat(first|(with_reducible first|exact HK.out|apply Kept.alloc|apply Kept.drewN|apply Kept.drew)|exact HK.out)) hb);replace HB:=zz (zv zb hb);clear hb ho34;have q35:(x5_1:Int)≤((l0.length:Int):Int):=z2;obtain⟨i035,hi035,_,hsz35,_⟩:=info_parts info9;have hroom35:l0.length≤co32:=(Kd.qS HO_0.out).2.1;have hC35:Kd.C Kd.string _ Ao32 l0.length l0:=(Kd.qS HO_0.out).2.2;have hcut35:=cut_to (P:=Tryz.prog) 39 9 .i64 Tryz.underlying39 hi035 Ao32 l0.length co32 x5_1 (z2) q35 hroom35;have hr35:=Kd.C_take (m:=(x5_1:Int).toNat) hC35 (by omega);have hy35:y398.length=(x5_1:Int).toNat:=(by rw[Ny398.out,List.length_take];omega);rw[←Ny398.out] at hr35;rw[←hy35] at hcut35;have HR401:=zz hr35;have HC401:=zz (show y398.length≤co32 from by omega);clear hr35 hC35 hroom35 hi035 hsz35;have KY35:=zz hy35;clear hy35;have KL35:=zz (show(x5_1:Int).toNat≤l0.length from by omega);replace q35:=eq_true q35)|((with_reducible refine vJ (b:= .append) (xs:= #[.tmp 34,.tmp 37]) rfl ?_);at_builtin;refine Kd.R_append_rows Kd.string (w0:=w0) w0.heap.size rfl (.tmp 34) (.tmp 37) 39 9 (.string ⟨#[]⟩) 16 rfl Tryz.underlying39 info9 rfl (by decide) (by omega) v396 y395 y398 _ _ _ (fun k_=>(P0_ k_∨w.heap.size≤k_)∧some k_≠(.slice Ao32 l0.length co32:Value).ownBlock) (fun _=>False) rfl rfl ?aO ?aR (fun _ _ h=>h) (fun _ h=>h.elim) ?aF ?aB ?aS ?aL ?_;(case aR=>repeat(first|exact(by repeat(first|(with_reducible exact HR401.out)|(with_reducible refine Kd.C_alloc ?_ _)|(with_reducible refine Kd.C_drewN ?_ _)|(with_reducible refine Kd.C_drew ?_)|exact HR401.out))|(with_reducible refine Kd.C_alloc ?_ _)|(with_reducible refine Kd.C_drewN ?_ _)|(with_reducible refine Kd.C_drew ?_)));(case aB=>exact zb);(case aF=>exact(fun k_ hk=>⟨(.inr (Nat.le_trans (by first|exact HK.out.1|exact(show Kept w _ (fun k_=>P0_ k_) from by repeat(first|(with_reducible first|exact HK.out|apply Kept.alloc|apply Kept.drewN|apply Kept.drew)|exact HK.out)).1) hk)),Kd.fresh' (Kd.R_lt (zR HO_0.out)) k_ hk⟩));(case aO=>exact(by(with_reducible repeat(first|apply Kd.qU|apply Kd.qT|apply Kd.qX));exact Kd.vF HO397.out (fun _ hk=>⟨hk.1.1,hk.2⟩)));(case aS=>exact(qG zb));(case aL=>have:=LMc27.out;omega);intro v403 w36 ho hb hg hat;rw[←Ny402.out] at ho;replace HB:=zz (hb);replace HK:=zz (Kept.of_grown (S:=(fun k_=>P0_ k_)) hg (by repeat(first|(with_reducible first|exact HK.out|apply Kept.alloc|apply Kept.drewN|apply Kept.drew)|exact HK.out)) (fun k_ e_=>(HO397.out.1 k_ e_).1.1));replace HR401:=zz ((show Kd.C Kd.string w36 Ao32 y398.length y398 from by rw[Ny398.out];exact Kd.C_take (m:=(x5_1:Int).toNat) ((Kd.qS (Kd.R_after (ok:=(fun k_=>(P0_ k_∨w.heap.size≤k_))) (zR HO_0.out) hg hat)).2.2) KL35.out));replace HO_0:=zz (Kd.R_after (ok:=(fun k_=>(P0_ k_∨w.heap.size≤k_))) (zR HO_0.out) hg hat);have HO404:=zz (ho);clear HO397;clear ho hb hg hat))
   replace HO_0:=zz (Kd.qX HO_0.out)
   replace HO404:=zz (Kd.qX HO404.out)
   replace HR401:=zz (Kd.C_drew HR401.out)
   replace HK:=zz (Kept.drew HK.out)
   replace HB:=zz (qQ HB.out)
   have q38:(x5_1:Int)≤((l0.length:Int):Int):=z2
   obtain⟨i038,hi038,_,hsz38,_⟩:=info_parts info9
   have hroom38:l0.length≤co32:=(Kd.qS HO_0.out).2.1
   have hC38:Kd.C Kd.string _ Ao32 l0.length l0:=(Kd.qS HO_0.out).2.2
   have q038:(0:Int)≤(x5_1:Int):=z2
   have hcut38:=cut_from (P:=Tryz.prog) 39 9 .i64 Tryz.underlying39 hi038 1 hsz38 Ao32 l0.length co32 x5_1 q038 q38
   have hr38:=Kd.C_drop (m:=(x5_1:Int).toNat) (c:=co32) hC38 (by omega) hroom38
   obtain⟨A38,hA38⟩:∃A1,A1=(if co32=(x5_1:Int).toNat then Ao32 else(Ao32:Option Addr).map (·.add ((x5_1:Int).toNat*1))):=⟨_,rfl⟩
   obtain⟨c38,hc38⟩:∃c1,c1=co32 - (x5_1:Int).toNat:=⟨_,rfl⟩
   have hy38:y408.length=l0.length - (x5_1:Int).toNat:=(by rw[Ny408.out,List.length_drop]<;>omega)
   rw[show(l0).drop (x5_1:Int).toNat=y408 from Ny408.out.symm] at hr38
   replace hr38:Kd.C Kd.string _ A38 y408.length y408:=(by rw[hA38];exact hr38)
   rw[←hy38,←hA38,←hc38] at hcut38
   have HR411:=zz hr38
   have HC411:=zz (show y408.length≤c38 from by rw[hy38,hc38];exact Nat.sub_le_sub_right hroom38 _)
   clear hr38 hC38 hroom38 hi038 hsz38 hc38
   have KY38:=zz hy38
   have KA38:=zz hA38
   clear hy38 hA38
   have KL38:=zz (show(x5_1:Int).toNat≤l0.length from by omega)
   replace q38:=eq_true q38
   refine start_ (n:=9) (S:=fun w'=>True) (ds:=[]) (bp 0 9) zk rfl rfl trivial (fun hHeld=>?_);refine with_tabW spec_l3Add.tab7 spec_l3Add.bits7 (fun HT_ HW_=>?_)
   generalize w36.drew=w37 at HO_0 HO404 HR401 HK HB HR411 hHeld⊢
   refine zp 0 39 (bp 1 8) ?_
   refine zp 1 40 (bp 2 7) ?_
   refine zp 4 43 (bm 9 19) ?_
   refine zp 5 44 (bm 9 51) ?_
   refine zp 6 45 (bm 9 115) ?_
   refine zo 2 41 (bm 9 119) fun K hK=>?_
   refine value_ (w1:=?_) (v:=?_) (by rfl) rfl ?_ ?_
   rotate_left 2
   ·go_simp
    constructor
    ·rfl
    ·rfl
   refine hK.out _ _ trivial (fun hHeld=>?_)
   clear hK K
   refine zn 41 ?_
   refine zo 3 42 (bp 7 2) fun K hK=>?_
   refine Kd.R_append_step Kd.string (w0:=w0) w0.heap.size (by rfl) (.tmp 39) (.tmp 41) 39 9 (.string ⟨#[]⟩) 16 rfl Tryz.underlying39 info9 rfl (by decide) (by omega) v403 y402 a1 [.string a1] (fun k_=>(P0_ k_∨w.heap.size≤k_)∧some k_≠(.slice Ao32 l0.length co32:Value).ownBlock) (fun _=>False) rfl rfl ?aP (fun _ hk=>hk.elim) ?aF ?aO ?aB ?aS ?aL ?_
   (case aP=>exact rfl)
   (case aB=>exact zb)
   (case aF=>exact(fun k_ hk=>⟨(.inr (Nat.le_trans (by first|exact HK.out.1|exact(show Kept w _ (fun k_=>P0_ k_) from by repeat(first|(with_reducible first|exact HK.out|apply Kept.alloc|apply Kept.drewN|apply Kept.drew)|exact HK.out)).1) hk)),Kd.fresh' (Kd.R_lt (zR HO_0.out)) k_ hk⟩))
   (case aO=>exact(zR HO404.out))
   (case aS=>exact(qG zb))
   (case aL=>have:=LMc28.out;omega)
   intro v406 w39 ho hb hg hat
   rw[←Ny405.out] at ho
   replace HB:=zz (hb)
   replace HK:=zz (Kept.of_grown (S:=(fun k_=>P0_ k_)) hg (by repeat(first|(with_reducible first|exact HK.out|apply Kept.alloc|apply Kept.drewN|apply Kept.drew)|exact HK.out)) (fun k_ e_=>(HO404.out.1 k_ e_).1))
   replace HR401:=zz ((show Kd.C Kd.string w39 Ao32 y398.length y398 from by rw[Ny398.out];exact Kd.C_take (m:=(x5_1:Int).toNat) ((Kd.qS (Kd.R_after (ok:=(fun k_=>(P0_ k_∨w.heap.size≤k_))) (zR HO_0.out) hg hat)).2.2) KL35.out))
   replace HR411:=zz ((show Kd.C Kd.string w39 A38 y408.length y408 from by rw[Ny408.out,KA38.out];exact Kd.C_drop (m:=(x5_1:Int).toNat) (c:=co32) ((Kd.qS (Kd.R_after (ok:=(fun k_=>(P0_ k_∨w.heap.size≤k_))) (zR HO_0.out) hg hat)).2.2) KL38.out ((Kd.qS (Kd.R_after (ok:=(fun k_=>(P0_ k_∨w.heap.size≤k_))) (zR HO_0.out) hg hat)).2.1)))
   replace HO_0:=zz (Kd.R_after (ok:=(fun k_=>(P0_ k_∨w.heap.size≤k_))) (zR HO_0.out) hg hat)
   have HO407:=zz (ho)
   clear HO404
   clear ho hb hg hat
   refine hK.out _ _ trivial (fun hHeld=>?_)
   clear hK K
   refine zn 42 ?_
   refine zo 7 46 (bp 8 1) fun K hK=>?_
   refine Kd.R_append_rows_step Kd.string (w0:=w0) w0.heap.size (by rfl) (.tmp 42) (.tmp 45) 39 9 (.string ⟨#[]⟩) 16 rfl Tryz.underlying39 info9 rfl (by decide) (by omega) v406 y405 y408 _ _ _ (fun k_=>(P0_ k_∨w.heap.size≤k_)∧some k_≠(.slice Ao32 l0.length co32:Value).ownBlock) (fun _=>False) rfl rfl ?aO ?aR (fun _ _ h=>h) (fun _ h=>h.elim) ?aF ?aB ?aS ?aL ?_
   (case aR=>repeat(first|exact(by repeat(first|(with_reducible exact HR411.out)|(with_reducible refine Kd.C_alloc ?_ _)|(with_reducible refine Kd.C_drewN ?_ _)|(with_reducible refine Kd.C_drew ?_)|exact HR411.out))|(with_reducible refine Kd.C_alloc ?_ _)|(with_reducible refine Kd.C_drewN ?_ _)|(with_reducible refine Kd.C_drew ?_)))
   (case aB=>exact zb)
   (case aF=>exact(fun k_ hk=>⟨(.inr (Nat.le_trans (by first|exact HK.out.1|exact(show Kept w _ (fun k_=>P0_ k_) from by repeat(first|(with_reducible first|exact HK.out|apply Kept.alloc|apply Kept.drewN|apply Kept.drew)|exact HK.out)).1) hk)),Kd.fresh' (Kd.R_lt (zR HO_0.out)) k_ hk⟩))
   (case aO=>exact(zR HO407.out))
   (case aS=>exact(qG zb))
   (case aL=>have:=LMc31.out;omega)
   intro v413 w40 ho hb hg hat
   rw[←Ny412.out] at ho
   replace HB:=zz (hb)
   replace HK:=zz (Kept.of_grown (S:=(fun k_=>P0_ k_)) hg (by repeat(first|(with_reducible first|exact HK.out|apply Kept.alloc|apply Kept.drewN|apply Kept.drew)|exact HK.out)) (fun k_ e_=>(HO407.out.1 k_ e_).1))
   replace HR401:=zz ((show Kd.C Kd.string w40 Ao32 y398.length y398 from by rw[Ny398.out];exact Kd.C_take (m:=(x5_1:Int).toNat) ((Kd.qS (Kd.R_after (ok:=(fun k_=>(P0_ k_∨w.heap.size≤k_))) (zR HO_0.out) hg hat)).2.2) KL35.out))
   replace HR411:=zz ((show Kd.C Kd.string w40 A38 y408.length y408 from by rw[Ny408.out,KA38.out];exact Kd.C_drop (m:=(x5_1:Int).toNat) (c:=co32) ((Kd.qS (Kd.R_after (ok:=(fun k_=>(P0_ k_∨w.heap.size≤k_))) (zR HO_0.out) hg hat)).2.2) KL38.out ((Kd.qS (Kd.R_after (ok:=(fun k_=>(P0_ k_∨w.heap.size≤k_))) (zR HO_0.out) hg hat)).2.1)))
   replace HO_0:=zz (Kd.R_after (ok:=(fun k_=>(P0_ k_∨w.heap.size≤k_))) (zR HO_0.out) hg hat)
   have HO414:=zz (ho)
   clear HO407
   clear ho hb hg hat
   refine hK.out _ _ trivial (fun hHeld=>?_)
   clear hK K
   refine zn 46 ?_
   refine zp 8 4 (bp 9 0) ?_
   refine done_ (done_of HT_.out zk) ?_
   try go_wp2
   go_ret
   exact⟨_,ze,by(with_reducible repeat(first|apply Kd.qU|apply Kd.qT|apply Kd.qX));exact Kd.vF HO414.out (fun _ hk=>hk.1),zb,by repeat(first|(with_reducible first|exact HK.out|apply Kept.alloc|apply Kept.drewN|apply Kept.drew)|exact HK.out)⟩
def spec_l10Has.l0:Nat→ByteArray→ByteArray→Int→Option (Bool)
 |0,_,_,_=>none
 |k+1,x0,x1,x5=>if(wrap64 (x5+(x1.size:Int)))≤(x0.size:Int) then(if 0≤x5 then(if x5≤(wrap64 (x5+(x1.size:Int))) then(if(x0.extract (x5:Int).toNat ((wrap64 (x5+(x1.size:Int))):Int).toNat).toList=x1.toList then(some true) else(spec_l10Has.l0 k x0 x1 (wrap64 (x5+1)))) else(none)) else(none)) else(some false)
def spec_l10Has.f(k:Nat)(a0:ByteArray)(a1:ByteArray):Option (Bool):=spec_l10Has.l0 k a0 a1 0
theorem spec_l10Has.calls(k:Nat)(a0:ByteArray)(a1:ByteArray)(r:Bool)(w:World)(h:spec_l10Has.f k a0 a1=some r):
 Calls Tryz.prog 141 #[.string a0,.string a1] w fun e w'=>e= .returned (.bool r)∧qE w w':=by
 unfold spec_l10Has.f at h
 have H:=h
 clear h
 have H':=zz H
 clear H
 go_enter Tryz.func141,Tryz.ntmps141
 go_wp2
 go_loopg[5] k (fun kq v5 w'=>∃(x5_1:Int),v5= .int .i64 x5_1∧qB (spec_l10Has.l0 kq a0 a1 x5_1=some r)∧qB (kq≤k)∧qE w w')
 case atStart=>exact⟨(0),zr,H',⟨Nat.le_refl _⟩,by repeat(first|exact qE.refl _|apply qE.step)⟩
 case round=>
  clear H'
  try clear c1
  try clear p2
  obtain⟨x5_1,rfl,HA,HK1,⟨m1,rfl⟩⟩:=hrel
  cases gk with
  |zero=>exact absurd HA.out (by simp[spec_l10Has.l0])
  |succ k1=>
   have H:=HA.out
   clear HA
   simp only[spec_l10Has.l0] at H
   by_cases c3:(wrap64 (x5_1+(a1.size:Int)))≤(a0.size:Int)
   case neg=>
    rw[if_neg c3] at H
    have c3b0:=z0 c3
    clear c3
    obtain rfl:=zi H
    go_wp2
    go_ret
    exact⟨zr,by repeat(first|exact qE.refl _|apply qE.step)⟩
   rw[if_pos c3] at H
   have c3b0:=z1 c3
   clear c3
   by_cases c4:0≤x5_1
   case neg=>exact zno H c4
   rw[if_pos c4] at H
   have c4b0:=eq_true c4
   have c4b1:=z1 c4
   clear c4
   by_cases c5:x5_1≤(wrap64 (x5_1+(a1.size:Int)))
   case neg=>exact zno H c5
   rw[if_pos c5] at H
   have c5b0:=eq_true c5
   have c5b1:=z1 c5
   have c6b0:=eq_true (z2:(wrap64 (x5_1+(a1.size:Int)))≤(a0.size:Int))
   by_cases c7:(a0.extract (x5_1:Int).toNat ((wrap64 (x5_1+(a1.size:Int))):Int).toNat).toList=a1.toList
   ·rw[if_pos c7] at H
    obtain⟨c7b0,c7b1⟩:=zq c7
    clear c7
    obtain rfl:=zi H
    go_wp2
    go_ret
    exact⟨zr,by repeat(first|exact qE.refl _|apply qE.step)⟩
   rw[if_neg c7] at H
   obtain⟨c7b0,c7b1⟩:=zw c7
   have H':=zz H
   clear H
   go_wp2
   go_roundg k1
   case measure=>have:=HK1.out;omega
   case rel=>exact⟨(wrap64 (x5_1+1)),zr,H',⟨by have:=HK1.out;omega⟩,by repeat(first|exact qE.refl _|apply qE.step)⟩
mutual
def spec_l10Refs.l0:Nat→List (S96)→List ByteArray→List ByteArray→Int→Option (List ByteArray)
 |0,_,_,_,_=>none
 |k+1,x0,x1,x5,x6=>if x6<(x1.length:Int) then(if 0≤x6 then((spec_AddressOk.f k (rdOf ByteArray.empty x1 x6)).bind fun t419=>(if t419=true then(spec_l10Refs.l1 k x0 x1 x5 x6 0) else(spec_l10Refs.l0 k x0 x1 x5 (wrap64 (x6+1))))) else(none)) else(some x5)
def spec_l10Refs.l1:Nat→List (S96)→List ByteArray→List ByteArray→Int→Int→Option (List ByteArray)
 |0,_,_,_,_,_=>none
 |k+1,x0,x1,x5,x6,x7=>if x7<(x0.length:Int) then(if 0≤x7 then(if 0≤x6 then(if x6<(x1.length:Int) then(if 0≤13 then(if 13≤((rdOf ByteArray.empty x1 x6).size:Int) then((spec_l10Has.f k ((qA x0 x7).f2) ((rdOf ByteArray.empty x1 x6).extract 0 13)).bind fun t422=>(if t422=true then((spec_l3Add.f k x5 (rdOf ByteArray.empty x1 x6)).bind fun t424=>(spec_l10Refs.l0 k x0 x1 t424 (wrap64 (x6+1)))) else(spec_l10Refs.l1 k x0 x1 x5 x6 (wrap64 (x7+1))))) else(none)) else(none)) else(none)) else(none)) else(none)) else(spec_l10Refs.l0 k x0 x1 x5 (wrap64 (x6+1)))
end
def spec_l10Refs.f(k:Nat)(l0:List (S96))(l1:List ByteArray):Option (List ByteArray):=spec_l10Refs.l0 k l0 l1 (([]:List ByteArray)) 0
theorem spec_l10Refs.calls(k:Nat)(A0:Option Addr)(c0:Nat)(l0:List (S96))(A1:Option Addr)(c1:Nat)(l1:List ByteArray)(r:List ByteArray)(w:World)(hr0:Kd.C k96 w A0 l0.length l0)(hc0:l0.length≤c0)(hr1:Kd.C Kd.string w A1 l1.length l1)(hc1:l1.length≤c1)(h:spec_l10Refs.f k l0 l1=some r):
 Calls Tryz.prog 118 #[.slice A0 l0.length c0,.slice A1 l1.length c1] w fun e w'=>∃v0_:Value,e= .returned (v0_)∧Kd.R Kd.string 9 w' w.heap.size (fun _=>True) v0_ r∧Below w.heap.size w w':=by
 have HR0:=zz hr0
 have HC0:=zz hc0
 clear hr0 hc0
 have HR1:=zz hr1
 have HC1:=zz hc1
 clear hr1 hc1
 have HB:=zz (Below.refl w.heap.size w)
 unfold spec_l10Refs.f at h
 have H:=h
 clear h
 obtain⟨y415,hy415⟩:∃y_:List ByteArray,y_=(([]:List ByteArray)):=⟨_,rfl⟩
 replace H:(spec_l10Refs.l0 k l0 l1 y415 0)=some r:=by first|(rw[hy415];with_reducible exact H)|(have H2_:=(Option.bind_some _ _).symm.trans H;rw[hy415];with_reducible exact H2_)|(have H2_:=(Option.bind_some _ _).symm.trans H;with_reducible exact H2_)|with_reducible exact H|(rw[hy415];exact H)|exact H
 have Ny415:=zz hy415
 clear hy415
 have H':=zz H
 clear H
 go_enter Tryz.func118,Tryz.ntmps118
 go_wp2_with(first|(refine zN 8 ?_;refine Kd.R_lit Kd.string _ 9 ?hg (N:=8) ?hd (xs:=([]:List ByteArray)) (inner:=[]) (ok:=fun _=>True) (okp:=fun _=>True) ?hr ?hp (fun _ hk=>hk) trivial (Below.refl _ _) (Nat.le_refl _) (by simp) ?_;(case hd=>rfl);(case hg=>rfl);(case hr=>first|(go_simp;done)|(go_simp;rfl));(case hp=>exact(Reps.none _ _));intro v416 w3 ho4 hb hg_ hnew_;clear hg_ hnew_;(first|rw[←Ny415.out] at ho4|(simp only[Int.reduceToNat] at ho4;rw[←Ny415.out] at ho4));have HO417:=zz (Kd.vH ho4 (qG zb));replace HB:=zz (zv zb hb);clear hb ho4))
 repeat(go_quiet (first|(refine zN 8 ?_;refine Kd.R_lit Kd.string _ 9 ?hg (N:=8) ?hd (xs:=([]:List ByteArray)) (inner:=[]) (ok:=fun _=>True) (okp:=fun _=>True) ?hr ?hp (fun _ hk=>hk) trivial (Below.refl _ _) (Nat.le_refl _) (by simp) ?_;(case hd=>rfl);(case hg=>rfl);(case hr=>first|(go_simp;done)|(go_simp;rfl));(case hp=>exact(Reps.none _ _));intro v416 w3 ho4 hb hg_ hnew_;clear hg_ hnew_;(first|rw[←Ny415.out] at ho4|(simp only[Int.reduceToNat] at ho4;rw[←Ny415.out] at ho4));have HO417:=zz (Kd.vH ho4 (qG zb));replace HB:=zz (zv zb hb);clear hb ho4));try go_wp2_with(first|(refine zN 8 ?_;refine Kd.R_lit Kd.string _ 9 ?hg (N:=8) ?hd (xs:=([]:List ByteArray)) (inner:=[]) (ok:=fun _=>True) (okp:=fun _=>True) ?hr ?hp (fun _ hk=>hk) trivial (Below.refl _ _) (Nat.le_refl _) (by simp) ?_;(case hd=>rfl);(case hg=>rfl);(case hr=>first|(go_simp;done)|(go_simp;rfl));(case hp=>exact(Reps.none _ _));intro v416 w3 ho4 hb hg_ hnew_;clear hg_ hnew_;(first|rw[←Ny415.out] at ho4|(simp only[Int.reduceToNat] at ho4;rw[←Ny415.out] at ho4));have HO417:=zz (Kd.vH ho4 (qG zb));replace HB:=zz (zv zb hb);clear hb ho4)))
 go_loopg[5,6] k (fun kq v5 v6 w'=>∃(x5_1:List ByteArray) (x6_1:Int),v6= .int .i64 x6_1∧qB (spec_l10Refs.l0 kq l0 l1 x5_1 x6_1=some r)∧qB (kq≤k)∧qB (Kd.R Kd.string 9 w' w.heap.size (fun _=>True) v5 x5_1)∧qB (Below w.heap.size w w'))
 case atStart=>exact⟨(y415),(0),zr,H',⟨Nat.le_refl _⟩,⟨by(with_reducible repeat(first|apply Kd.qU|apply Kd.qT|apply Kd.qX));exact HO417.out⟩,⟨zb⟩⟩
 case round=>
  clear H'
  try clear c1
  try clear p2
  obtain⟨x5_1,x6_1,rfl,HA,HK1,HO_5,HB⟩:=hrel
  cases gk with
  |zero=>exact absurd HA.out (by simp[spec_l10Refs.l0])
  |succ k1=>
   have H:=HA.out
   clear HA
   simp only[spec_l10Refs.l0] at H
   by_cases c5:x6_1<(l1.length:Int)
   case neg=>
    rw[if_neg c5] at H
    have c5b0:=z0 c5
    clear c5
    obtain rfl:=zi H
    go_wp2
    repeat(go_quiet (fail);try go_wp2)
    go_ret
    exact⟨_,ze,by(with_reducible repeat(first|apply Kd.qU|apply Kd.qT|apply Kd.qX));exact HO_5.out,zb⟩
   rw[if_pos c5] at H
   have c5b0:=z1 c5
   clear c5
   by_cases c6:0≤x6_1
   case neg=>exact zno H c6
   rw[if_pos c6] at H
   have c6b0:=z1 c6
   clear c6
   replace H:=zf H
   obtain⟨t419,A70,H⟩:=H
   try dsimp only at H
   have A7:=zz A70
   clear A70
   by_cases c8:t419=true
   case neg=>
    replace c8:=Bool.eq_false_iff.mpr c8
    subst c8
    rw[if_neg (show¬(false=true) by decide)] at H
    have H':=zz H
    clear H
    have p418:0≤(x6_1:Int):=z2
    have q418:x6_1<(l1.length:Int):=z2
    obtain⟨ad418,e418,hx418_0⟩:=Kd.vC HR1.out x6_1 p418 q418
    cases e418
    replace hx418_0:=z3 HB.out hx418_0
    replace p418:=eq_true p418
    replace q418:=eq_true q418
    go_wp2_with(first|(go_at_call 36;(with_reducible refine(spec_AddressOk.calls k1 (rdOf ByteArray.empty l1 x6_1) false _ A7.out).mono ?_);rintro e w' ⟨rfl,⟨nd,rfl⟩⟩;(try first|exact⟨rfl,_,World.drewN_drewN _ _ _⟩|exact⟨rfl,_,Eq.trans (World.drewN_drewN _ _ _) (congrArg (World.drewN _) (Nat.add_assoc _ _ _))⟩)))
    repeat(go_quiet (first|(go_at_call 36;(with_reducible refine(spec_AddressOk.calls k1 (rdOf ByteArray.empty l1 x6_1) false _ A7.out).mono ?_);rintro e w' ⟨rfl,⟨nd,rfl⟩⟩;(try first|exact⟨rfl,_,World.drewN_drewN _ _ _⟩|exact⟨rfl,_,Eq.trans (World.drewN_drewN _ _ _) (congrArg (World.drewN _) (Nat.add_assoc _ _ _))⟩)));try go_wp2_with(first|(go_at_call 36;(with_reducible refine(spec_AddressOk.calls k1 (rdOf ByteArray.empty l1 x6_1) false _ A7.out).mono ?_);rintro e w' ⟨rfl,⟨nd,rfl⟩⟩;(try first|exact⟨rfl,_,World.drewN_drewN _ _ _⟩|exact⟨rfl,_,Eq.trans (World.drewN_drewN _ _ _) (congrArg (World.drewN _) (Nat.add_assoc _ _ _))⟩))))
    go_roundg k1
    case measure=>have:=HK1.out;omega
    case rel=>exact⟨(x5_1),(wrap64 (x6_1+1)),zr,H',⟨by have:=HK1.out;omega⟩,⟨by(with_reducible repeat(first|apply Kd.qU|apply Kd.qT|apply Kd.qX));exact HO_5.out⟩,⟨zb⟩⟩
   subst c8
   rw[if_pos rfl] at H
   have H':=zz H
   clear H
   have p418:0≤(x6_1:Int):=z2
   have q418:x6_1<(l1.length:Int):=z2
   obtain⟨ad418,e418,hx418_0⟩:=Kd.vC HR1.out x6_1 p418 q418
   cases e418
   replace hx418_0:=z3 HB.out hx418_0
   replace p418:=eq_true p418
   replace q418:=eq_true q418
   go_wp2_with(first|(go_at_call 36;(with_reducible refine(spec_AddressOk.calls k1 (rdOf ByteArray.empty l1 x6_1) true _ A7.out).mono ?_);rintro e w' ⟨rfl,⟨nd,rfl⟩⟩;(try first|exact⟨rfl,_,World.drewN_drewN _ _ _⟩|exact⟨rfl,_,Eq.trans (World.drewN_drewN _ _ _) (congrArg (World.drewN _) (Nat.add_assoc _ _ _))⟩)))
   repeat(go_quiet (first|(go_at_call 36;(with_reducible refine(spec_AddressOk.calls k1 (rdOf ByteArray.empty l1 x6_1) true _ A7.out).mono ?_);rintro e w' ⟨rfl,⟨nd,rfl⟩⟩;(try first|exact⟨rfl,_,World.drewN_drewN _ _ _⟩|exact⟨rfl,_,Eq.trans (World.drewN_drewN _ _ _) (congrArg (World.drewN _) (Nat.add_assoc _ _ _))⟩)));try go_wp2_with(first|(go_at_call 36;(with_reducible refine(spec_AddressOk.calls k1 (rdOf ByteArray.empty l1 x6_1) true _ A7.out).mono ?_);rintro e w' ⟨rfl,⟨nd,rfl⟩⟩;(try first|exact⟨rfl,_,World.drewN_drewN _ _ _⟩|exact⟨rfl,_,Eq.trans (World.drewN_drewN _ _ _) (congrArg (World.drewN _) (Nat.add_assoc _ _ _))⟩))))
   go_loopg[5,7] k1 (fun kq v5 v7 w'=>∃(x5_2:List ByteArray) (x7_2:Int),v7= .int .i64 x7_2∧qB (spec_l10Refs.l1 kq l0 l1 x5_2 x6_1 x7_2=some r)∧qB (kq≤k1)∧qB (Kd.R Kd.string 9 w' w.heap.size (fun _=>True) v5 x5_2)∧qB (Below w.heap.size w w'))
   case atStart=>exact⟨(x5_1),(0),zr,H',⟨Nat.le_refl _⟩,⟨by(with_reducible repeat(first|apply Kd.qU|apply Kd.qT|apply Kd.qX));exact HO_5.out⟩,⟨zb⟩⟩
   case round=>
    clear H'
    try clear c1
    try clear p2
    try clear p4
    try clear q4
    try clear hx4
    try clear c5
    try clear c5b0
    try clear c6
    try clear c6b0
    try clear p6
    try clear c8
    try clear hx418_0
    try clear p2
    try clear p418
    try clear q418
    obtain⟨x5_2,x7_2,rfl,HA,HK2,HO_5,HB⟩:=hrel
    cases gk with
    |zero=>exact absurd HA.out (by simp[spec_l10Refs.l1])
    |succ k2=>
     have H:=HA.out
     clear HA
     simp only[spec_l10Refs.l1] at H
     by_cases c9:x7_2<(l0.length:Int)
     case neg=>
      rw[if_neg c9] at H
      have c9b0:=z0 c9
      clear c9
      have H':=zz H
      clear H
      go_wp2
      repeat(go_quiet (fail);try go_wp2)
      go_roundg k2
      case measure=>have:=HK1.out;have:=HK2.out;omega
      case rel=>exact⟨(x5_2),(wrap64 (x6_1+1)),zr,H',⟨by have:=HK1.out;have:=HK2.out;omega⟩,⟨by(with_reducible repeat(first|apply Kd.qU|apply Kd.qT|apply Kd.qX));exact HO_5.out⟩,⟨zb⟩⟩
     rw[if_pos c9] at H
     have c9b0:=z1 c9
     clear c9
     by_cases c10:0≤x7_2
     case neg=>exact zno H c10
     rw[if_pos c10] at H
     have c10b0:=z1 c10
     clear c10
     by_cases c11:0≤x6_1
     case neg=>exact zno H c11
     rw[if_pos c11] at H
     have c11b0:=z1 c11
     clear c11
     by_cases c12:x6_1<(l1.length:Int)
     case neg=>exact zno H c12
     rw[if_pos c12] at H
     have c12b0:=z1 c12
     clear c12
     by_cases c13:0≤13
     case neg=>exact zno H c13
     rw[if_pos c13] at H
     have c13b0:=eq_true c13
     have c13b1:=z1 c13
     clear c13
     by_cases c14:13≤((rdOf ByteArray.empty l1 x6_1).size:Int)
     case neg=>exact zno H c14
     rw[if_pos c14] at H
     have c14b0:=eq_true c14
     have c14b1:=z1 c14
     clear c14
     replace H:=zf H
     obtain⟨t422,A150,H⟩:=H
     try dsimp only at H
     have A15:=zz A150
     clear A150
     by_cases c16:t422=true
     case neg=>
      replace c16:=Bool.eq_false_iff.mpr c16
      subst c16
      rw[if_neg (show¬(false=true) by decide)] at H
      have H':=zz H
      clear H
      have p420:0≤(x7_2:Int):=z2
      have q420:x7_2<(l0.length:Int):=z2
      obtain⟨ad420,e420,hx420_0,hx420_1,hx420_2,hx420_3⟩:=at_T96 HR0.out x7_2 p420 q420
      cases e420
      replace hx420_0:=z3 HB.out hx420_0
      replace hx420_1:=z3 HB.out hx420_1
      replace hx420_2:=z3 HB.out hx420_2
      replace hx420_3:=z3 HB.out hx420_3
      replace p420:=eq_true p420
      replace q420:=eq_true q420
      have p421:0≤(x6_1:Int):=z2
      have q421:x6_1<(l1.length:Int):=z2
      obtain⟨ad421,e421,hx421_0⟩:=Kd.vC HR1.out x6_1 p421 q421
      obtain rfl:ad418=ad421:=(by injection e421)
      replace hx421_0:=z3 HB.out hx421_0
      replace p421:=eq_true p421
      replace q421:=eq_true q421
      go_wp2_with(first|(go_at_call 141;(with_reducible refine(spec_l10Has.calls k2 ((qA l0 x7_2).f2) ((rdOf ByteArray.empty l1 x6_1).extract 0 13) false _ A15.out).mono ?_);rintro e w' ⟨rfl,⟨nd,rfl⟩⟩;(try first|exact⟨rfl,_,World.drewN_drewN _ _ _⟩|exact⟨rfl,_,Eq.trans (World.drewN_drewN _ _ _) (congrArg (World.drewN _) (Nat.add_assoc _ _ _))⟩)))
      repeat(go_quiet (first|(go_at_call 141;(with_reducible refine(spec_l10Has.calls k2 ((qA l0 x7_2).f2) ((rdOf ByteArray.empty l1 x6_1).extract 0 13) false _ A15.out).mono ?_);rintro e w' ⟨rfl,⟨nd,rfl⟩⟩;(try first|exact⟨rfl,_,World.drewN_drewN _ _ _⟩|exact⟨rfl,_,Eq.trans (World.drewN_drewN _ _ _) (congrArg (World.drewN _) (Nat.add_assoc _ _ _))⟩)));try go_wp2_with(first|(go_at_call 141;(with_reducible refine(spec_l10Has.calls k2 ((qA l0 x7_2).f2) ((rdOf ByteArray.empty l1 x6_1).extract 0 13) false _ A15.out).mono ?_);rintro e w' ⟨rfl,⟨nd,rfl⟩⟩;(try first|exact⟨rfl,_,World.drewN_drewN _ _ _⟩|exact⟨rfl,_,Eq.trans (World.drewN_drewN _ _ _) (congrArg (World.drewN _) (Nat.add_assoc _ _ _))⟩))))
      go_roundg k2
      case measure=>have:=HK1.out;have:=HK2.out;omega
      case rel=>exact⟨(x5_2),(wrap64 (x7_2+1)),zr,H',⟨by have:=HK1.out;have:=HK2.out;omega⟩,⟨by(with_reducible repeat(first|apply Kd.qU|apply Kd.qT|apply Kd.qX));exact HO_5.out⟩,⟨zb⟩⟩
     subst c16
     rw[if_pos rfl] at H
     replace H:=zf H
     obtain⟨t424,A170,H⟩:=H
     try dsimp only at H
     have A17:=zz A170
     clear A170
     have H':=zz H
     clear H
     have p420:0≤(x7_2:Int):=z2
     have q420:x7_2<(l0.length:Int):=z2
     obtain⟨ad420,e420,hx420_0,hx420_1,hx420_2,hx420_3⟩:=at_T96 HR0.out x7_2 p420 q420
     cases e420
     replace hx420_0:=z3 HB.out hx420_0
     replace hx420_1:=z3 HB.out hx420_1
     replace hx420_2:=z3 HB.out hx420_2
     replace hx420_3:=z3 HB.out hx420_3
     replace p420:=eq_true p420
     replace q420:=eq_true q420
     have p421:0≤(x6_1:Int):=z2
     have q421:x6_1<(l1.length:Int):=z2
     obtain⟨ad421,e421,hx421_0⟩:=Kd.vC HR1.out x6_1 p421 q421
     obtain rfl:ad418=ad421:=(by injection e421)
     replace hx421_0:=z3 HB.out hx421_0
     replace p421:=eq_true p421
     replace q421:=eq_true q421
     go_wp2_with(first|(go_at_call 141;(with_reducible refine(spec_l10Has.calls k2 ((qA l0 x7_2).f2) ((rdOf ByteArray.empty l1 x6_1).extract 0 13) true _ A15.out).mono ?_);rintro e w' ⟨rfl,⟨nd,rfl⟩⟩;(try first|exact⟨rfl,_,World.drewN_drewN _ _ _⟩|exact⟨rfl,_,Eq.trans (World.drewN_drewN _ _ _) (congrArg (World.drewN _) (Nat.add_assoc _ _ _))⟩);have p423:0≤(x6_1:Int):=z2;have q423:x6_1<(l1.length:Int):=z2;obtain⟨ad423,e423,hx423_0⟩:=Kd.vC HR1.out x6_1 p423 q423;obtain rfl:ad418=ad423:=(by injection e423);replace hx423_0:=z3 HB.out hx423_0;replace p423:=eq_true p423;replace q423:=eq_true q423;obtain⟨Ao18,co18,eo18⟩:=Kd.vG HO_5.out;subst eo18)|(go_at_call 101;(with_reducible refine(spec_l3Add.calls k2 (fun k_=>some k_=(.slice Ao18 x5_2.length co18:Value).ownBlock) (.slice Ao18 x5_2.length co18) x5_2 (rdOf ByteArray.empty l1 x6_1) t424 w _ ?s1 ?s2 A17.out).mono ?_);(case s1=>repeat(first|(with_reducible first|exact HB.out|apply vA|apply qZ|apply qQ)|exact HB.out));(case s2=>exact Kd.R_tight rfl HO_5.out);rintro e w19 ⟨v425,rfl,ho0,hb,hkp⟩;have HO426:=zz (Kd.vF (ok':=fun k_=>True) ho0 (fun k_ hk_=>trivial));replace HB:=zz (hb);clear HO_5;(try clear hb);(try clear hkp);(try clear ho0)))
     repeat(go_quiet (first|(go_at_call 141;(with_reducible refine(spec_l10Has.calls k2 ((qA l0 x7_2).f2) ((rdOf ByteArray.empty l1 x6_1).extract 0 13) true _ A15.out).mono ?_);rintro e w' ⟨rfl,⟨nd,rfl⟩⟩;(try first|exact⟨rfl,_,World.drewN_drewN _ _ _⟩|exact⟨rfl,_,Eq.trans (World.drewN_drewN _ _ _) (congrArg (World.drewN _) (Nat.add_assoc _ _ _))⟩);have p423:0≤(x6_1:Int):=z2;have q423:x6_1<(l1.length:Int):=z2;obtain⟨ad423,e423,hx423_0⟩:=Kd.vC HR1.out x6_1 p423 q423;obtain rfl:ad418=ad423:=(by injection e423);replace hx423_0:=z3 HB.out hx423_0;replace p423:=eq_true p423;replace q423:=eq_true q423;obtain⟨Ao18,co18,eo18⟩:=Kd.vG HO_5.out;subst eo18)|(go_at_call 101;(with_reducible refine(spec_l3Add.calls k2 (fun k_=>some k_=(.slice Ao18 x5_2.length co18:Value).ownBlock) (.slice Ao18 x5_2.length co18) x5_2 (rdOf ByteArray.empty l1 x6_1) t424 w _ ?s1 ?s2 A17.out).mono ?_);(case s1=>repeat(first|(with_reducible first|exact HB.out|apply vA|apply qZ|apply qQ)|exact HB.out));(case s2=>exact Kd.R_tight rfl HO_5.out);rintro e w19 ⟨v425,rfl,ho0,hb,hkp⟩;have HO426:=zz (Kd.vF (ok':=fun k_=>True) ho0 (fun k_ hk_=>trivial));replace HB:=zz (hb);clear HO_5;(try clear hb);(try clear hkp);(try clear ho0)));try go_wp2_with(first|(go_at_call 141;(with_reducible refine(spec_l10Has.calls k2 ((qA l0 x7_2).f2) ((rdOf ByteArray.empty l1 x6_1).extract 0 13) true _ A15.out).mono ?_);rintro e w' ⟨rfl,⟨nd,rfl⟩⟩;(try first|exact⟨rfl,_,World.drewN_drewN _ _ _⟩|exact⟨rfl,_,Eq.trans (World.drewN_drewN _ _ _) (congrArg (World.drewN _) (Nat.add_assoc _ _ _))⟩);have p423:0≤(x6_1:Int):=z2;have q423:x6_1<(l1.length:Int):=z2;obtain⟨ad423,e423,hx423_0⟩:=Kd.vC HR1.out x6_1 p423 q423;obtain rfl:ad418=ad423:=(by injection e423);replace hx423_0:=z3 HB.out hx423_0;replace p423:=eq_true p423;replace q423:=eq_true q423;obtain⟨Ao18,co18,eo18⟩:=Kd.vG HO_5.out;subst eo18)|(go_at_call 101;(with_reducible refine(spec_l3Add.calls k2 (fun k_=>some k_=(.slice Ao18 x5_2.length co18:Value).ownBlock) (.slice Ao18 x5_2.length co18) x5_2 (rdOf ByteArray.empty l1 x6_1) t424 w _ ?s1 ?s2 A17.out).mono ?_);(case s1=>repeat(first|(with_reducible first|exact HB.out|apply vA|apply qZ|apply qQ)|exact HB.out));(case s2=>exact Kd.R_tight rfl HO_5.out);rintro e w19 ⟨v425,rfl,ho0,hb,hkp⟩;have HO426:=zz (Kd.vF (ok':=fun k_=>True) ho0 (fun k_ hk_=>trivial));replace HB:=zz (hb);clear HO_5;(try clear hb);(try clear hkp);(try clear ho0))))
     go_roundg k2
     case measure=>have:=HK1.out;have:=HK2.out;omega
     case rel=>exact⟨(t424),(wrap64 (x6_1+1)),zr,H',⟨by have:=HK1.out;have:=HK2.out;omega⟩,⟨by(with_reducible repeat(first|apply Kd.qU|apply Kd.qT|apply Kd.qX));exact HO426.out⟩,⟨zb⟩⟩
end Go.Proofs.YtcekmnclmldmmaaGreatDoor.Q
