import Derived.Test.YtmdoobnlehkmpaaGreatDoorA06
import Derived.Sort.KeysCollected
import Derived.Maps.RangeWalk
import Derived.Sort.OwnSorted
import Derived.Lib.Hide
set_option linter.unusedVariables false
set_option linter.unusedSimpArgs false
namespace Go.Proofs.YtmdoobnlehkmpaaGreatDoor.Q
open Go.RowKit W1 W2 W3
attribute [local go_sem] max2_int min2_int max_two min_two max_three min_three max_four min_four
attribute [local go_sem high] bl_leq bl_gtr bl_geq
set_option maxHeartbeats 8000000
set_option maxRecDepth 100000
def strings_Contains.f(a0 a1:ByteArray):Option Bool:=if a0.size<4294967281 then some (Lib.contains a0.data.toList a1.data.toList) else none
theorem strings_Contains.calls(a0 a1:ByteArray)(r:Bool)(w:World)(hG_:GOK w)(h:strings_Contains.f a0 a1=some r):
 Calls Tryz.prog 186 #[.string a0,.string a1] w fun e w'=>e= .returned (.bool r)∧qV w w':=by
 unfold strings_Contains.f at h
 split at h
 ·rename_i hc
  obtain rfl:=Option.some.inj h
  obtain⟨m,hm⟩:=hG_.out
  exact(Tryz.strings_Contains a0 a1 m w hc hm).mono fun e w' ⟨he,hw⟩=>⟨he,hw ▸ qV.refl w⟩
 ·exact absurd h (by simp)
namespace impl_sorted
open Go.WideMaps Go.Maps Go.Sort
def dd:List ByteArray→List (List UInt8)
 |[]=>[]
 |s::ds=>if s.data.toList ∈ dd ds then dd ds else s.data.toList::dd ds
theorem dd_mem(x:List UInt8):∀ds,x ∈ dd ds↔ ∃s ∈ ds,s.data.toList=x
 |[]=>by simp[dd]
 |s::ds=>by
  have ih:=dd_mem x ds
  unfold dd
  split
  ·rename_i h
   rw[ih]
   constructor
   ·rintro⟨t,ht,e⟩;exact⟨t,List.mem_cons_of_mem _ ht,e⟩
   ·rintro⟨t,ht,e⟩
    rcases List.mem_cons.1 ht with rfl|ht
    ·exact(ih.1 (e ▸ h))
    ·exact⟨t,ht,e⟩
  ·rw[List.mem_cons,ih]
   constructor
   ·rintro(e|⟨t,ht,e⟩)
    ·exact⟨s,List.mem_cons_self ..,e.symm⟩
    ·exact⟨t,List.mem_cons_of_mem _ ht,e⟩
   ·rintro⟨t,ht,e⟩
    rcases List.mem_cons.1 ht with rfl|ht
    ·exact .inl e.symm
    ·exact .inr ⟨t,ht,e⟩
theorem dd_nodup:∀ds,(dd ds).Nodup
 |[]=>List.nodup_nil
 |s::ds=>by
  unfold dd
  split
  ·exact dd_nodup ds
  ·rename_i h
   exact List.nodup_cons.2 ⟨h,dd_nodup ds⟩
theorem has_dd(x:List UInt8):∀ds,Maps.has (MapSet.of ds) (.string x)=true↔ ∃s ∈ ds,s.data.toList=x
 |[]=>by simp[MapSet.of,has_eq]
 |s::ds=>by
  have ih:=has_dd x ds
  unfold MapSet.of
  by_cases h:x=s.data.toList
  ·subst h
   rw[has_put_same (MapSet.isMap ds) (show WideAt.IsKeyLit (.string s.data.toList) from trivial)]
   exact⟨fun _=>⟨s,List.mem_cons_self ..,rfl⟩,fun _=>rfl⟩
  ·have hne:(Lit.string x)≠ .string s.data.toList:=fun e=>h (by injection e)
   rw[has_put_other hne,ih]
   constructor
   ·rintro⟨t,ht,e⟩;exact⟨t,List.mem_cons_of_mem _ ht,e⟩
   ·rintro⟨t,ht,e⟩
    rcases List.mem_cons.1 ht with rfl|ht
    ·exact absurd e.symm h
    ·exact⟨t,ht,e⟩
def out(ds:List ByteArray):List ByteArray:=((dd ds).mergeSort leB).map fun l=>⟨l.toArray⟩
def f(ds:List ByteArray):Option (List ByteArray):=if ds.length<4194304 then some (out ds) else none
theorem encs_out(L:List (List UInt8)):encs Value.string (L.map fun l=>(⟨l.toArray⟩:ByteArray))=L.map encStr:=by
 simp[encs,encStr]
theorem R_out{w w':World}{v:Value}{ds:List ByteArray}{ss:List (List UInt8)}(hp:ss.Perm (dd ds))(h:w'.ownsRow w.heap.size 9 1 v ss.length ((ss.mergeSort leB).map encStr)):Kd.R Kd.string 9 w' w.heap.size (fun _=>True) v (out ds):=by
 rw[mergeSort_of_perm hp] at h
 refine Kd.R_of_own ?_ (fun _ _=>trivial)
 unfold out
 rw[encs_out]
 simpa[hp.length_eq] using h
theorem calls(b:Nat)(ds r:List ByteArray)(w:World)(hM:MapSet.MS w b ds)(h:f ds=some r):
 Calls Tryz.prog 187 #[.map (some b)] w fun e w'=>∃v0_:Value,e= .returned v0_∧Kd.R Kd.string 9 w' w.heap.size (fun _=>True) v0_ r∧Below w.heap.size w w':=by
 unfold f at h
 split at h
 case isFalse=>exact absurd h (by simp)
 case isTrue hlen=>
 obtain rfl:=Option.some.inj h
 have hbl:=World.ownsMap.lt hM
 have hsz:=World.ownsMap.size_le hM
 obtain⟨i0,hi,hz0,hz1,hz2⟩:=info_parts info9
 unfold MapSet.MS at hM
 generalize hD:MapSet.of ds=D0 at hM hsz
 have hD0:=Lib.hid hD
 clear hD h
 go_enter Tryz.func187,Tryz.ntmps187
 go_wp2_with(at_range;refine wpList_range_own _ rfl _ 172 rfl 9 3 MapSet.keyed Tryz.underlying172 _ b ds.length _ rfl hM ?_;intro w0 hrg0 hg0 hs0)
 go_frame
 go_loopw[3] (fun v wr=>∃(left:Lit→Bool) (cnt:Nat) (ss:List (List UInt8)),wr.ranges Tryz.prog 9 (plainElem (H:=Unit) Tryz.prog 3) b w.heap.size ds.length D0 left cnt∧ss.length+cnt≤Maps.size D0∧
  wr.ownsRow w.heap.size 9 1 v ss.length (ss.map encStr)∧Collected D0 left ss∧Below w.heap.size w wr)
  (fun _ wr=>wr.rangeLeft b w.heap.size)
 case atStart=>
  exact⟨_,_,[],hrg0,by simp,World.ownsRow_nil _ _ _ _,Collected.start D0,(Below.refl _ _).grown hg0 (Nat.le_refl _) (fun j hj=>by cases hj)⟩
 case round=>
  obtain⟨left,cnt,ss,hrg,hcs,hrow,hC,hnx⟩:=hrel
  go_wp2_with(at_next;refine wpList_next_ranges _ rfl _ rfl 9 MapSet.keyed (plainElem Tryz.prog 3) encStr (Value.int .i64) (fun key kl hk=>by obtain⟨x,hx,_⟩:=Maps.keyOf_str Tryz.underlying9 hk;exact⟨x,hx⟩) (fun v y hv=>by obtain⟨c,rfl,_⟩:=plainElem_int_inv Tryz.underlying3 hv;exact⟨c,rfl⟩) b w.heap.size ds.length _ _ _ rfl hrg ?_ ?_)
  ·intro hc0 hl0
   have hp:ss.Perm (dd ds):=(List.perm_ext_iff_of_nodup hC.1 (dd_nodup ds)).2 fun x=>by
    rw[hC.2 x,hl0,←hD0.out,has_dd,dd_mem];simp
   have hP:=Lib.hid hp
   rcases hrow.2 with⟨rfl,hnil⟩|⟨g,cap,cur,rfl,hbase,hb,h1,h2,h3,h4⟩
   ·have hN:=Lib.hid hnil
    clear hp hnil hc0 hl0
    go_wp2_with(go_at_call 198;refine(Tryz.slices_Sort_string_none _ _ _).mono ?_;rintro e w' ⟨rfl,rfl⟩)
    go_ret
    refine⟨.slice none 0 0,rfl,R_out hP.out ?_,hnx⟩
    have e0:ss=[]:=List.length_eq_zero_iff.1 hN.out
    subst e0
    simpa using World.ownsRow_nil w' w.heap.size 9 1
   ·have hH:Holds encStr _ g 0 ss.toArray:=holds_of_block hb (by simpa using h4)
    have hgl:=(Array.getElem?_eq_some_iff.1 hb).1
    have hc:=Tryz.slices_Sort_string g 0 cap ss _ hH hgl (by omega)
    have hB1:=Lib.hid hbase
    clear hp hc0 hl0
    go_wp2_with(go_at_call 198;refine hc.mono ?_;rintro e w' ⟨rfl,nn,os,rfl⟩)
    go_ret
    exact⟨_,rfl,R_out hP.out (ownsRow_sorted (by simp) hbase hb h1 h2 h3),hnx.grown (grownBy_sorted _) hnx.size (fun j hj=>by cases hj;exact hB1.out)⟩
  ·intro x c kl yd yp w2 cnt2 hkey hlk hv hat hrg2 hlt hg2 hs2 hen
   obtain⟨x',ex,rfl,_⟩:=Maps.keyOf_str Tryz.underlying9 hkey
   obtain rfl:x=x':=encStr_inj ex
   have hrow2:=hrow.kept hg2 (Or.inr (row_ne_iter hrow hrg).symm)
   have hS2:=Lib.hid hs2
   clear hs2
   go_wp2_with(at_builtin;refine wpList_append_own_at _ rfl _ _ 101 rfl w.heap.size 9 i0 (.string ⟨#[]⟩) 1 16 Tryz.underlying101 hi hz0 hz1 hz2 rfl (by decide) _ _ _ rfl (hrow2.alloc _) ⟨w2.heap.size,0,none⟩ 1 1 [encStr x] rfl rfl (cell_one_new _ _ _) (by simp[Value.oneCell',encStr]) (by unfold maxLen at*;omega) (by omega) (by have:=hnx.size;have:=hg2.size;simp;omega) ?_;intro v' w3 hown' hg3 hnil3 hat3;go_frame)
   have hrg3:=(hrg2.alloc _).kept hg3 (row_ne_low hrow2 hbl) (row_ne_iter hrow2 hrg2)
   go_roundw
   case rel=>
    refine⟨_,cnt2,ss++[x],hrg3,by simp;omega,by simpa using hown',hC.step hlk hat,?_⟩
    exact((hnx.grown hg2 hnx.size (fun j hj=>by cases hj;exact Nat.le_refl _)).alloc (by have:=hnx.size;have:=hg2.size;omega) _).grown hg3 (by have:=hnx.size;have:=hg2.size;simp;omega) (fun j hj=>(hrow2.lt j hj).1)
   case measure=>rw[hrg3.left_eq,hrg.left_eq];exact hlt
end impl_sorted
mutual
def impl_RefsIn.j0:Nat→List (S87)→List ByteArray→Bool→Option (List ByteArray)
 |0,_,_,_=>none
 |k+1,x0,x1,ak=>if ak=true then(some ([]:List ByteArray)) else(impl_RefsIn.l0 k x0 ([]:List ByteArray) x1 (x1.length:Int) 0)
def impl_RefsIn.l0:Nat→List (S87)→List ByteArray→List ByteArray→Int→Int→Option (List ByteArray)
 |0,_,_,_,_,_=>none
 |k+1,x0,x5,ab,ac,aa=>if aa<ac then(if 0≤aa then(if aa<(ab.length:Int) then((impl_AddressOk.f k (rdOf ByteArray.empty ab aa)).bind fun ag=>(if ag=true then(impl_RefsIn.l1 k x0 x5 (rdOf ByteArray.empty ab aa) ab ac aa x0 (x0.length:Int) 0) else(impl_RefsIn.l0 k x0 x5 ab ac (wrap64 (aa+1))))) else(none)) else(none)) else((impl_sorted.f x5).bind fun ah=>(some ah))
def impl_RefsIn.l1:Nat→List (S87)→List ByteArray→ByteArray→List ByteArray→Int→Int→List (S87)→Int→Int→Option (List ByteArray)
 |0,_,_,_,_,_,_,_,_,_=>none
 |k+1,x0,x5,x7,ab,ac,aa,ae,af,ad=>if ad<af then(if 0≤ad then(if ad<(ae.length:Int) then(if 0≤13 then(if 13≤(x7.size:Int) then((strings_Contains.f ((qA ae ad).f2) (x7.extract 0 13)).bind fun ai=>(if ai=true then((MapSet.put x5 x7).bind fun aj=>(impl_RefsIn.l0 k x0 aj ab ac (wrap64 (aa+1)))) else(impl_RefsIn.l1 k x0 x5 x7 ab ac aa ae af (wrap64 (ad+1))))) else(none)) else(none)) else(none)) else(none)) else(impl_RefsIn.l0 k x0 x5 ab ac (wrap64 (aa+1)))
end
def impl_RefsIn.f(k:Nat)(l0:List (S87))(l1:List ByteArray):Option (List ByteArray):=(impl_TreeOk.f k l0).bind fun aa=>(if aa=true then(impl_RefsIn.j0 k l0 l1 (decide ((l1.length:Int)>2000))) else(impl_RefsIn.j0 k l0 l1 true))
theorem impl_RefsIn.calls(k:Nat)(A0:Option Addr)(c0:Nat)(l0:List (S87))(A1:Option Addr)(c1:Nat)(l1:List ByteArray)(r:List ByteArray)(w:World)(bi:Kd.C k87 w A0 l0.length l0)(bj:l0.length≤c0)(bk:Kd.C Kd.string w A1 l1.length l1)(bl:l1.length≤c1)(hG_:GOK w)(h:impl_RefsIn.f k l0 l1=some r):
 Calls Tryz.prog 158 #[.slice A0 l0.length c0,.slice A1 l1.length c1] w fun e w'=>∃bn:Value,e= .returned (bn)∧Kd.R Kd.string 9 w' w.heap.size (fun _=>True) bn r∧Below w.heap.size w w':=by
 have bO:=Tryz.underlying87
 have HG:=zz hG_
 clear hG_
 have ak:=zz bi
 have aC:=zz bj
 clear bi bj
 have aD:=zz bk
 have bP:=zz bl
 clear bk bl
 have HB:=yB w
 unfold impl_RefsIn.f at h
 have H:=h
 clear h
 have a4:=zz H
 clear H
 go_enter Tryz.func158,Tryz.ntmps158
 go_upto_region 1 with(fail)
 repeat(go_quiet (fail);go_upto_region 1 with(fail))
 go_cut [17] (fun bE wc=>∃(kq:Nat) (aA:Bool),bE= .bool aA∧qC (impl_RefsIn.j0 kq l0 l1 aA=some r)∧qC (kq≤k)∧qC (Below w.heap.size w wc))
 case first=>
  have H:=a4.out
  clear a4
  replace H:=zf H
  obtain⟨bv,bo,H⟩:=H
  try dsimp only at H
  have A4:=zz bo
  clear bo
  by_cases c5:bv=true
  ·subst c5
   rw[if_pos rfl] at H
   have H':=zz H
   clear H
   go_wp2_with(first|(go_at_call 82;(with_reducible refine(impl_TreeOk.calls k _ _ l0 true _ ?s1 ?s2 ?s3 A4.out).mono ?_);(case s1=>exact zc ak.out);(case s2=>exact aC.out);(case s3=>exact zG);rintro e w6 ⟨rfl,hb⟩;replace HB:=zz (zv zb hb);(try clear hb);(try clear au);(try clear hk);(try clear hi)))
   repeat(go_quiet (first|(go_at_call 82;(with_reducible refine(impl_TreeOk.calls k _ _ l0 true _ ?s1 ?s2 ?s3 A4.out).mono ?_);(case s1=>exact zc ak.out);(case s2=>exact aC.out);(case s3=>exact zG);rintro e w6 ⟨rfl,hb⟩;replace HB:=zz (zv zb hb);(try clear hb);(try clear au);(try clear hk);(try clear hi)));try go_wp2_with(first|(go_at_call 82;(with_reducible refine(impl_TreeOk.calls k _ _ l0 true _ ?s1 ?s2 ?s3 A4.out).mono ?_);(case s1=>exact zc ak.out);(case s2=>exact aC.out);(case s3=>exact zG);rintro e w6 ⟨rfl,hb⟩;replace HB:=zz (zv zb hb);(try clear hb);(try clear au);(try clear hk);(try clear hi))))
   go_meet
   case rel=>exact⟨_,(decide ((l1.length:Int)>2000)),zr,H',⟨by first|omega|exact Nat.le_refl _⟩,⟨zb⟩⟩
  ·replace c5:=Bool.eq_false_iff.mpr c5
   subst c5
   rw[if_neg (show¬(false=true) by decide)] at H
   have H':=zz H
   clear H
   go_wp2_with(first|(go_at_call 82;(with_reducible refine(impl_TreeOk.calls k _ _ l0 false _ ?s1 ?s2 ?s3 A4.out).mono ?_);(case s1=>exact zc ak.out);(case s2=>exact aC.out);(case s3=>exact zG);rintro e w7 ⟨rfl,hb⟩;replace HB:=zz (zv zb hb);(try clear hb);(try clear au);(try clear hk);(try clear hi)))
   repeat(go_quiet (first|(go_at_call 82;(with_reducible refine(impl_TreeOk.calls k _ _ l0 false _ ?s1 ?s2 ?s3 A4.out).mono ?_);(case s1=>exact zc ak.out);(case s2=>exact aC.out);(case s3=>exact zG);rintro e w7 ⟨rfl,hb⟩;replace HB:=zz (zv zb hb);(try clear hb);(try clear au);(try clear hk);(try clear hi)));try go_wp2_with(first|(go_at_call 82;(with_reducible refine(impl_TreeOk.calls k _ _ l0 false _ ?s1 ?s2 ?s3 A4.out).mono ?_);(case s1=>exact zc ak.out);(case s2=>exact aC.out);(case s3=>exact zG);rintro e w7 ⟨rfl,hb⟩;replace HB:=zz (zv zb hb);(try clear hb);(try clear au);(try clear hk);(try clear hi))))
   go_meet
   case rel=>exact⟨_,(true),zr,H',⟨by first|omega|exact Nat.le_refl _⟩,⟨zb⟩⟩
 case rest=>
  clear a4
  try clear c1
  try clear p2
  try clear c5
  obtain⟨kq,aA,rfl,HA,av,HB⟩:=hcut
  cases kq with
  |zero=>exact absurd HA.out (by simp[impl_RefsIn.j0])
  |succ bq=>
   have H:=HA.out
   clear HA
   simp only[impl_RefsIn.j0] at H
   by_cases c8:aA=true
   ·subst c8
    rw[if_pos rfl] at H
    obtain rfl:=zi H
    go_wp2
    repeat(go_quiet (fail);try go_wp2)
    go_ret
    exact⟨_,ze,by first|exact Kd.R_nil _ _ _ _ _|exact Kd.N_nil _ _ _ _ _|exact Kd.V_nil _ _ _ _ _|exact Kd.Q_nil _ _ _ _ _|exact Kd.S_nil _ _ _ _ _,zb⟩
   replace c8:=Bool.eq_false_iff.mpr c8
   subst c8
   rw[if_neg (show¬(false=true) by decide)] at H
   have H':=zz H
   clear H
   go_wp2_with(first|(refine zN 18 ?_;refine MapSet.make_event ?hg (N:=18) ?hd (t:=172) ?ho ?_;(case hd=>rfl);(case hg=>rfl);(case ho=>rfl);intro bm wm hbm hms hb;have HBM:=zz (Nat.le_trans (qF zb) hbm);have HM:=zz hms;have al:=zz (zv zb hb);have HW:=yB w;clear HB hb hbm hms;have HB:=al;clear al))
   repeat(go_quiet (fail);try go_wp2)
   go_loopg[21] bq (fun kq bF w'=>∃(am:List ByteArray) (aa:Int),bF= .int .i64 aa∧qC (impl_RefsIn.l0 kq l0 am l1 (l1.length:Int) aa=some r)∧qC (kq≤bq)∧qC (Below w.heap.size w w')∧qC (MapSet.MS w' bm am))
   case atStart=>exact⟨([]:List ByteArray),(0),zr,H',⟨Nat.le_refl _⟩,⟨zb⟩,⟨HM.out.below (by repeat(first|exact Below.refl _ _|apply qX|apply qW|apply qK))⟩⟩
   case round=>
    clear H'
    try clear c1
    try clear p2
    try clear c5
    try clear c8
    try clear p2
    try clear HM
    obtain⟨am,aa,rfl,HA,aw,HB,HM_⟩:=hrel
    have HM:=HM_
    clear HM_
    rename World=>w
    have ad:=HB
    replace HW:=zz (zv HW.out HB.out)
    replace ak:=zz (Kd.qB ak.out HB.out)
    replace aD:=zz (Kd.qB aD.out HB.out)
    replace HG:=zz (GOK.below HG.out HB.out)
    clear HB
    have HB:=yB w
    cases gk with
    |zero=>exact absurd HA.out (by simp[impl_RefsIn.l0])
    |succ k2=>
     have H:=HA.out
     clear HA
     simp only[impl_RefsIn.l0] at H
     refine yDn H ?_ ?_<;>clear H<;>intro bw H
     ·replace H:=zf H
      obtain⟨a0,a5,H⟩:=H
      try dsimp only at H
      have a6:=zz a5
      clear a5
      obtain rfl:=zi H
      go_wp2_with(first|(go_at_call 187;(with_reducible refine(impl_sorted.calls _ am a0 _ (HM.out.below zb) a6.out).mono ?_);rintro e br ⟨a7,rfl,ax,hb⟩;have aX:=zz (Kd.qY ax (qF zb));replace HB:=zz (zv zb hb);(try clear hb);(try clear au);(try clear hk);(try clear hi);(try clear ax)))
      repeat(go_quiet (first|(go_at_call 187;(with_reducible refine(impl_sorted.calls _ am a0 _ (HM.out.below zb) a6.out).mono ?_);rintro e br ⟨a7,rfl,ax,hb⟩;have aX:=zz (Kd.qY ax (qF zb));replace HB:=zz (zv zb hb);(try clear hb);(try clear au);(try clear hk);(try clear hi);(try clear ax)));try go_wp2_with(first|(go_at_call 187;(with_reducible refine(impl_sorted.calls _ am a0 _ (HM.out.below zb) a6.out).mono ?_);rintro e br ⟨a7,rfl,ax,hb⟩;have aX:=zz (Kd.qY ax (qF zb));replace HB:=zz (zv zb hb);(try clear hb);(try clear au);(try clear hk);(try clear hi);(try clear ax))))
      go_ret
      exact⟨_,ze,Kd.qY (zR aX.out) HW.out.size,zv HW.out zb⟩
     replace H:=yAD H
     obtain⟨be,H⟩:=H
     replace H:=yAD H
     obtain⟨bf,H⟩:=H
     replace H:=zf H
     obtain⟨bz,a8,H⟩:=H
     try dsimp only at H
     have aE:=zz a8
     clear a8
     by_cases aZ:bz=true
     case neg=>
      replace aZ:=Bool.eq_false_iff.mpr aZ
      subst aZ
      rw[if_neg (show¬(false=true) by decide)] at H
      have H':=zz H
      clear H
      have an:0≤(aa:Int):=z2
      have ao:aa<(l1.length:Int):=z2
      obtain⟨bg,a1,af⟩:=Kd.vA aD.out aa an ao
      cases a1
      replace af:=z3 HB.out af
      replace an:=eq_true an
      replace ao:=eq_true ao
      go_wp2_with(first|(go_at_call 102;(with_reducible refine(impl_AddressOk.calls k2 (rdOf ByteArray.empty l1 aa) false _ aE.out).mono ?_);rintro e w' ⟨rfl,⟨nd,rfl⟩⟩;(try first|exact⟨rfl,_,World.drewN_drewN _ _ _⟩|exact⟨rfl,_,Eq.trans (World.drewN_drewN _ _ _) (congrArg (World.drewN _) (Nat.add_assoc _ _ _))⟩)))
      repeat(go_quiet (first|(go_at_call 102;(with_reducible refine(impl_AddressOk.calls k2 (rdOf ByteArray.empty l1 aa) false _ aE.out).mono ?_);rintro e w' ⟨rfl,⟨nd,rfl⟩⟩;(try first|exact⟨rfl,_,World.drewN_drewN _ _ _⟩|exact⟨rfl,_,Eq.trans (World.drewN_drewN _ _ _) (congrArg (World.drewN _) (Nat.add_assoc _ _ _))⟩)));try go_wp2_with(first|(go_at_call 102;(with_reducible refine(impl_AddressOk.calls k2 (rdOf ByteArray.empty l1 aa) false _ aE.out).mono ?_);rintro e w' ⟨rfl,⟨nd,rfl⟩⟩;(try first|exact⟨rfl,_,World.drewN_drewN _ _ _⟩|exact⟨rfl,_,Eq.trans (World.drewN_drewN _ _ _) (congrArg (World.drewN _) (Nat.add_assoc _ _ _))⟩))))
      go_roundg k2
      case measure=>have:=av.out;have:=aw.out;omega
      case rel=>exact⟨(am),(wrap64 (aa+1)),zr,H',⟨by have:=av.out;have:=aw.out;omega⟩,⟨zv ad.out zb⟩,⟨HM.out.below zb⟩⟩
     subst aZ
     rw[if_pos rfl] at H
     have H':=zz H
     clear H
     have an:0≤(aa:Int):=z2
     have ao:aa<(l1.length:Int):=z2
     obtain⟨bg,a1,af⟩:=Kd.vA aD.out aa an ao
     cases a1
     replace af:=z3 HB.out af
     replace an:=eq_true an
     replace ao:=eq_true ao
     go_wp2_with(first|(go_at_call 102;(with_reducible refine(impl_AddressOk.calls k2 (rdOf ByteArray.empty l1 aa) true _ aE.out).mono ?_);rintro e w' ⟨rfl,⟨nd,rfl⟩⟩;(try first|exact⟨rfl,_,World.drewN_drewN _ _ _⟩|exact⟨rfl,_,Eq.trans (World.drewN_drewN _ _ _) (congrArg (World.drewN _) (Nat.add_assoc _ _ _))⟩)))
     repeat(go_quiet (first|(go_at_call 102;(with_reducible refine(impl_AddressOk.calls k2 (rdOf ByteArray.empty l1 aa) true _ aE.out).mono ?_);rintro e w' ⟨rfl,⟨nd,rfl⟩⟩;(try first|exact⟨rfl,_,World.drewN_drewN _ _ _⟩|exact⟨rfl,_,Eq.trans (World.drewN_drewN _ _ _) (congrArg (World.drewN _) (Nat.add_assoc _ _ _))⟩)));try go_wp2_with(first|(go_at_call 102;(with_reducible refine(impl_AddressOk.calls k2 (rdOf ByteArray.empty l1 aa) true _ aE.out).mono ?_);rintro e w' ⟨rfl,⟨nd,rfl⟩⟩;(try first|exact⟨rfl,_,World.drewN_drewN _ _ _⟩|exact⟨rfl,_,Eq.trans (World.drewN_drewN _ _ _) (congrArg (World.drewN _) (Nat.add_assoc _ _ _))⟩))))
     go_loopg[30] k2 (fun kq bG w'=>∃(aB:List ByteArray) (ac:Int),bG= .int .i64 ac∧qC (impl_RefsIn.l1 kq l0 aB (rdOf ByteArray.empty l1 aa) l1 (l1.length:Int) aa l0 (l0.length:Int) ac=some r)∧qC (kq≤k2)∧qC (Below w.heap.size w w')∧qC (MapSet.MS w' bm aB))
     case atStart=>exact⟨(am),(0),zr,H',⟨Nat.le_refl _⟩,⟨zb⟩,⟨HM.out.below zb⟩⟩
     case round=>
      clear H'
      try clear c1
      try clear p2
      try clear c5
      try clear p5
      try clear q5
      try clear bQ
      try clear p6
      try clear c8
      try clear c9
      try clear bw
      try clear bR
      try clear be
      try clear bS
      try clear bf
      try clear aZ
      try clear af
      try clear p2
      try clear an
      try clear ao
      try clear HM
      obtain⟨aB,ac,rfl,HA,aF,HB,HM_⟩:=hrel
      have HM:=HM_
      clear HM_
      rename World=>w
      have aY:=HB
      replace HW:=zz (zv HW.out HB.out)
      replace ad:=zz (zv ad.out HB.out)
      replace ak:=zz (Kd.qB ak.out HB.out)
      replace aD:=zz (Kd.qB aD.out HB.out)
      replace HG:=zz (GOK.below HG.out HB.out)
      clear HB
      have HB:=yB w
      cases gk with
      |zero=>exact absurd HA.out (by simp[impl_RefsIn.l1])
      |succ k3=>
       have H:=HA.out
       clear HA
       simp only[impl_RefsIn.l1] at H
       refine yDn H ?_ ?_<;>clear H<;>intro bH H
       ·have H':=zz H
        clear H
        go_wp2
        repeat(go_quiet (fail);try go_wp2)
        go_roundg k3
        case measure=>have:=av.out;have:=aw.out;have:=aF.out;omega
        case rel=>exact⟨(aB),(wrap64 (aa+1)),zr,H',⟨by have:=av.out;have:=aw.out;have:=aF.out;omega⟩,⟨zv ad.out zb⟩,⟨HM.out.below zb⟩⟩
       replace H:=yAD H
       obtain⟨bI,H⟩:=H
       replace H:=yAD H
       obtain⟨bJ,H⟩:=H
       replace H:=yA H
       obtain⟨a9,H⟩:=H
       have bK:=eq_true a9
       have bL:=z1 a9
       clear a9
       replace H:=yA H
       obtain⟨ba,H⟩:=H
       have bM:=eq_true ba
       have bN:=z1 ba
       clear ba
       replace H:=zf H
       obtain⟨bA,bb,H⟩:=H
       try dsimp only at H
       have aG:=zz bb
       clear bb
       by_cases a3:bA=true
       case neg=>
        replace a3:=Bool.eq_false_iff.mpr a3
        subst a3
        rw[if_neg (show¬(false=true) by decide)] at H
        have H':=zz H
        clear H
        have bB:=yt (0≤(ac:Int))
        have bC:=yt (ac<(l0.length:Int))
        obtain⟨bh,a2,ag,ah,ai,aj⟩:=at_T87 ak.out ac z2 z2
        cases a2
        replace ag:=z3 HB.out ag
        replace ah:=z3 HB.out ah
        replace ai:=z3 HB.out ai
        replace aj:=z3 HB.out aj
        go_wp2_with(first|(refine zN 9 ?_;(try(refine z4 ?_;dsimp only));refine zX 9 87 #[.string (⟨#[]⟩:ByteArray),.int .i64 0,.string (⟨#[]⟩:ByteArray),.bool false] ?_;intro ab hg bs hbox hb;have ae:=zz (hbox);have ap:=zz ((zg:w.heap.size≤ab));have ar:=zz ((zg:w.heap.size≤ab));replace HB:=zz (zv zb hb);clear hb hbox hg;obtain⟨aH,aI,aJ,aK,aL,aM,aN,aO⟩:=zc4 ae.out)|(go_at_call 186;(with_reducible refine(strings_Contains.calls ((qA l0 ac).f2) ((rdOf ByteArray.empty l1 aa).extract 0 13) false _ ?s1 aG.out).mono ?_);(case s1=>exact zG);rintro e w' ⟨rfl,⟨nd,rfl⟩⟩;(try first|exact⟨rfl,_,World.drewN_drewN _ _ _⟩|exact⟨rfl,_,Eq.trans (World.drewN_drewN _ _ _) (congrArg (World.drewN _) (Nat.add_assoc _ _ _))⟩)))
        repeat(go_quiet (first|(refine zN 9 ?_;(try(refine z4 ?_;dsimp only));refine zX 9 87 #[.string (⟨#[]⟩:ByteArray),.int .i64 0,.string (⟨#[]⟩:ByteArray),.bool false] ?_;intro ab hg bs hbox hb;have ae:=zz (hbox);have ap:=zz ((zg:w.heap.size≤ab));have ar:=zz ((zg:w.heap.size≤ab));replace HB:=zz (zv zb hb);clear hb hbox hg;obtain⟨aH,aI,aJ,aK,aL,aM,aN,aO⟩:=zc4 ae.out)|(go_at_call 186;(with_reducible refine(strings_Contains.calls ((qA l0 ac).f2) ((rdOf ByteArray.empty l1 aa).extract 0 13) false _ ?s1 aG.out).mono ?_);(case s1=>exact zG);rintro e w' ⟨rfl,⟨nd,rfl⟩⟩;(try first|exact⟨rfl,_,World.drewN_drewN _ _ _⟩|exact⟨rfl,_,Eq.trans (World.drewN_drewN _ _ _) (congrArg (World.drewN _) (Nat.add_assoc _ _ _))⟩)));try go_wp2_with(first|(refine zN 9 ?_;(try(refine z4 ?_;dsimp only));refine zX 9 87 #[.string (⟨#[]⟩:ByteArray),.int .i64 0,.string (⟨#[]⟩:ByteArray),.bool false] ?_;intro ab hg bs hbox hb;have ae:=zz (hbox);have ap:=zz ((zg:w.heap.size≤ab));have ar:=zz ((zg:w.heap.size≤ab));replace HB:=zz (zv zb hb);clear hb hbox hg;obtain⟨aH,aI,aJ,aK,aL,aM,aN,aO⟩:=zc4 ae.out)|(go_at_call 186;(with_reducible refine(strings_Contains.calls ((qA l0 ac).f2) ((rdOf ByteArray.empty l1 aa).extract 0 13) false _ ?s1 aG.out).mono ?_);(case s1=>exact zG);rintro e w' ⟨rfl,⟨nd,rfl⟩⟩;(try first|exact⟨rfl,_,World.drewN_drewN _ _ _⟩|exact⟨rfl,_,Eq.trans (World.drewN_drewN _ _ _) (congrArg (World.drewN _) (Nat.add_assoc _ _ _))⟩))))
        go_roundg k3
        case measure=>have:=av.out;have:=aw.out;have:=aF.out;omega
        case rel=>exact⟨(aB),(wrap64 (ac+1)),zr,H',⟨by have:=av.out;have:=aw.out;have:=aF.out;omega⟩,⟨zv aY.out zb⟩,⟨HM.out.below zb⟩⟩
       subst a3
       rw[if_pos rfl] at H
       replace H:=zf H
       obtain⟨bD,bc,H⟩:=H
       try dsimp only at H
       have bd:=zz bc
       clear bc
       have H':=zz H
       clear H
       have bB:=yt (0≤(ac:Int))
       have bC:=yt (ac<(l0.length:Int))
       obtain⟨bh,a2,ag,ah,ai,aj⟩:=at_T87 ak.out ac z2 z2
       cases a2
       replace ag:=z3 HB.out ag
       replace ah:=z3 HB.out ah
       replace ai:=z3 HB.out ai
       replace aj:=z3 HB.out aj
       go_wp2_with(first|(refine zN 9 ?_;(try(refine z4 ?_;dsimp only));refine zX 9 87 #[.string (⟨#[]⟩:ByteArray),.int .i64 0,.string (⟨#[]⟩:ByteArray),.bool false] ?_;intro ab hg bu hbox hb;have ae:=zz (hbox);have ap:=zz ((zg:w.heap.size≤ab));have ar:=zz ((zg:w.heap.size≤ab));replace HB:=zz (zv zb hb);clear hb hbox hg;obtain⟨aP,aQ,aR,aS,aT,aU,aV,aW⟩:=zc4 ae.out)|(go_at_call 186;(with_reducible refine(strings_Contains.calls ((qA l0 ac).f2) ((rdOf ByteArray.empty l1 aa).extract 0 13) true _ ?s1 aG.out).mono ?_);(case s1=>exact zG);rintro e w' ⟨rfl,⟨nd,rfl⟩⟩;(try first|exact⟨rfl,_,World.drewN_drewN _ _ _⟩|exact⟨rfl,_,Eq.trans (World.drewN_drewN _ _ _) (congrArg (World.drewN _) (Nat.add_assoc _ _ _))⟩))|((with_reducible refine MapSet.gate_put (t:=172) (m:=39) (k:=40) rfl ?_);refine MapSet.put_event rfl rfl rfl rfl (HM.out.below zb) bd.out ?_;intro wput hms hg;have al:=zz hms;have ay:=zz (MapSet.grown (zv ad.out zb) hg HBM.out);have az:=zz (MapSet.grown (zv HW.out zb) hg HBM.out);clear HM HB HW ad aY hms hg;have HM:=al;have ad:=ay;have HW:=az;clear al ay az;rename World=>w;have HB:=yB w))
       repeat(go_quiet (first|(refine zN 9 ?_;(try(refine z4 ?_;dsimp only));refine zX 9 87 #[.string (⟨#[]⟩:ByteArray),.int .i64 0,.string (⟨#[]⟩:ByteArray),.bool false] ?_;intro ab hg bu hbox hb;have ae:=zz (hbox);have ap:=zz ((zg:w.heap.size≤ab));have ar:=zz ((zg:w.heap.size≤ab));replace HB:=zz (zv zb hb);clear hb hbox hg;obtain⟨aP,aQ,aR,aS,aT,aU,aV,aW⟩:=zc4 ae.out)|(go_at_call 186;(with_reducible refine(strings_Contains.calls ((qA l0 ac).f2) ((rdOf ByteArray.empty l1 aa).extract 0 13) true _ ?s1 aG.out).mono ?_);(case s1=>exact zG);rintro e w' ⟨rfl,⟨nd,rfl⟩⟩;(try first|exact⟨rfl,_,World.drewN_drewN _ _ _⟩|exact⟨rfl,_,Eq.trans (World.drewN_drewN _ _ _) (congrArg (World.drewN _) (Nat.add_assoc _ _ _))⟩))|((with_reducible refine MapSet.gate_put (t:=172) (m:=39) (k:=40) rfl ?_);refine MapSet.put_event rfl rfl rfl rfl (HM.out.below zb) bd.out ?_;intro wput hms hg;have al:=zz hms;have ay:=zz (MapSet.grown (zv ad.out zb) hg HBM.out);have az:=zz (MapSet.grown (zv HW.out zb) hg HBM.out);clear HM HB HW ad aY hms hg;have HM:=al;have ad:=ay;have HW:=az;clear al ay az;rename World=>w;have HB:=yB w));try go_wp2_with(first|(refine zN 9 ?_;(try(refine z4 ?_;dsimp only));refine zX 9 87 #[.string (⟨#[]⟩:ByteArray),.int .i64 0,.string (⟨#[]⟩:ByteArray),.bool false] ?_;intro ab hg bu hbox hb;have ae:=zz (hbox);have ap:=zz ((zg:w.heap.size≤ab));have ar:=zz ((zg:w.heap.size≤ab));replace HB:=zz (zv zb hb);clear hb hbox hg;obtain⟨aP,aQ,aR,aS,aT,aU,aV,aW⟩:=zc4 ae.out)|(go_at_call 186;(with_reducible refine(strings_Contains.calls ((qA l0 ac).f2) ((rdOf ByteArray.empty l1 aa).extract 0 13) true _ ?s1 aG.out).mono ?_);(case s1=>exact zG);rintro e w' ⟨rfl,⟨nd,rfl⟩⟩;(try first|exact⟨rfl,_,World.drewN_drewN _ _ _⟩|exact⟨rfl,_,Eq.trans (World.drewN_drewN _ _ _) (congrArg (World.drewN _) (Nat.add_assoc _ _ _))⟩))|((with_reducible refine MapSet.gate_put (t:=172) (m:=39) (k:=40) rfl ?_);refine MapSet.put_event rfl rfl rfl rfl (HM.out.below zb) bd.out ?_;intro wput hms hg;have al:=zz hms;have ay:=zz (MapSet.grown (zv ad.out zb) hg HBM.out);have az:=zz (MapSet.grown (zv HW.out zb) hg HBM.out);clear HM HB HW ad aY hms hg;have HM:=al;have ad:=ay;have HW:=az;clear al ay az;rename World=>w;have HB:=yB w)))
       go_roundg k3
       case measure=>have:=av.out;have:=aw.out;have:=aF.out;omega
       case rel=>exact⟨(bD),(wrap64 (aa+1)),zr,H',⟨by have:=av.out;have:=aw.out;have:=aF.out;omega⟩,⟨zv ad.out zb⟩,⟨HM.out.below zb⟩⟩
def spec_l10Has.l0:Nat→ByteArray→ByteArray→Int→Option (Bool)
 |0,_,_,_=>none
 |k+1,x0,x1,x5=>if(wrap64 (x5+(x1.size:Int)))≤(x0.size:Int) then(if 0≤x5 then(if x5≤(wrap64 (x5+(x1.size:Int))) then(if(x0.extract (x5:Int).toNat ((wrap64 (x5+(x1.size:Int))):Int).toNat).toList=x1.toList then(some true) else(spec_l10Has.l0 k x0 x1 (wrap64 (x5+1)))) else(none)) else(none)) else(some false)
def spec_l10Has.f(k:Nat)(a0:ByteArray)(a1:ByteArray):Option (Bool):=spec_l10Has.l0 k a0 a1 0
theorem spec_l10Has.calls(k:Nat)(a0:ByteArray)(a1:ByteArray)(r:Bool)(w:World)(h:spec_l10Has.f k a0 a1=some r):
 Calls Tryz.prog 172 #[.string a0,.string a1] w fun e w'=>e= .returned (.bool r)∧qV w w':=by
 unfold spec_l10Has.f at h
 have H:=h
 clear h
 have H':=zz H
 clear H
 go_enter Tryz.func172,Tryz.ntmps172
 go_wp2
 go_loopg[5] k (fun kq v5 w'=>∃(aa:Int),v5= .int .i64 aa∧qC (spec_l10Has.l0 kq a0 a1 aa=some r)∧qC (kq≤k)∧qV w w')
 case atStart=>exact⟨(0),zr,H',⟨Nat.le_refl _⟩,yD0⟩
 case round=>
  clear H'
  try clear c1
  try clear p2
  obtain⟨aa,rfl,HA,ab,⟨m1,rfl⟩⟩:=hrel
  cases gk with
  |zero=>exact absurd HA.out (by simp[spec_l10Has.l0])
  |succ k1=>
   have H:=HA.out
   clear HA
   simp only[spec_l10Has.l0] at H
   refine yDn H ?_ ?_<;>clear H<;>intro ae H
   ·obtain rfl:=zi H
    exact yr
   replace H:=yA H
   obtain⟨c4,H⟩:=H
   have af:=eq_true c4
   have ag:=z1 c4
   clear c4
   replace H:=yA H
   obtain⟨c5,H⟩:=H
   have ah:=eq_true c5
   have ai:=z1 c5
   have aj:=eq_true (z2:(wrap64 (aa+(a1.size:Int)))≤(a0.size:Int))
   refine yC H ?_ ?_<;>clear H<;>intro c7 H
   ·obtain⟨ac,ad⟩:=zq c7
    clear c7
    obtain rfl:=zi H
    exact yr
   obtain⟨ac,ad⟩:=zw c7
   have H':=zz H
   clear H
   go_wp2
   go_roundg k1
   case measure=>have:=ab.out;omega
   case rel=>exact⟨(wrap64 (aa+1)),zr,H',⟨by have:=ab.out;omega⟩,yD0⟩
def spec_l3Add.l0:Nat→List ByteArray→ByteArray→Int→Option (List ByteArray)
 |0,_,_,_=>none
 |k+1,x0,x1,x5=>if x5<(x0.length:Int) then(if 0≤x5 then(if(Op.bytesLess ((rdOf ByteArray.empty x0 x5).toList) x1.toList)=true then(spec_l3Add.l0 k x0 x1 (wrap64 (x5+1))) else(if(rdOf ByteArray.empty x0 x5).toList=x1.toList then(some x0) else((some (([]:List ByteArray):List ByteArray)).bind fun aa=>(if x5≤(x0.length:Int) then((some (x0.take (x5:Int).toNat:List ByteArray)).bind fun ab=>(if aa.length+ab.length<8796093022208 then((some (aa++ab:List ByteArray)).bind fun ac=>(if ac.length<8796093022208 then((some (ac++[x1]:List ByteArray)).bind fun ad=>((some (x0.drop (x5:Int).toNat:List ByteArray)).bind fun ae=>(if ad.length+ae.length<8796093022208 then(some (ad++ae)) else(none)))) else(none))) else(none))) else(none))))) else(none)) else((some (([]:List ByteArray):List ByteArray)).bind fun af=>(if 0≤x5 then(if x5≤(x0.length:Int) then((some (x0.take (x5:Int).toNat:List ByteArray)).bind fun ag=>(if af.length+ag.length<8796093022208 then((some (af++ag:List ByteArray)).bind fun ah=>(if ah.length<8796093022208 then((some (ah++[x1]:List ByteArray)).bind fun ai=>((some (x0.drop (x5:Int).toNat:List ByteArray)).bind fun aj=>(if ai.length+aj.length<8796093022208 then(some (ai++aj)) else(none)))) else(none))) else(none))) else(none)) else(none)))
def spec_l3Add.f(k:Nat)(l0:List ByteArray)(a1:ByteArray):Option (List ByteArray):=spec_l3Add.l0 k l0 a1 0
def spec_l3Add.T7:Bool×List (List Nat×List Nat):=(true,[([],[]),([],[]),([1],[1]),([0,2],[0,2]),([],[]),([],[]),([4,5],[4,5]),([3,6,3],[3,6]),([7,7,0,1,2,3,4,5,6,7],[7])])
def spec_l3Add.B7:List Nat:=[0,0,2,7,0,0,48,127,255]
theorem spec_l3Add.tab7:rtab .any (opsOf Tryz.f173 7)=spec_l3Add.T7:=by kernel_rfl
theorem spec_l3Add.bits7:waitsOk spec_l3Add.T7.2 spec_l3Add.B7=true:=by kernel_rfl
theorem spec_l3Add.calls(k:Nat)(ac:Nat→Prop)(aC:Value)(l0:List ByteArray)(a1:ByteArray)(r:List ByteArray)(w0 w:World)(hB:Below w0.heap.size w0 w)(cQ:Kd.R Kd.string 9 w w0.heap.size ac aC l0)(h:spec_l3Add.f k l0 a1=some r):
 Calls Tryz.prog 173 #[aC,.string a1] w fun e w'=>∃cm:Value,e= .returned (cm)∧Kd.R Kd.string 9 w' w0.heap.size (fun k_=>(ac k_∨w.heap.size≤k_)) cm r∧Below w0.heap.size w0 w'∧Kept w w' (fun k_=>ac k_):=by
 have cR:=zz (show Kd.R Kd.string 9 w w0.heap.size (fun k_=>(ac k_∨w.heap.size≤k_)) aC l0 from Kd.vC cQ (fun k_ hk=>(.inl hk)))
 have HK:=zz (Kept.refl w (fun k_=>ac k_))
 have dz:=zz hB.size
 have HB:=zz hB
 clear hB
 unfold spec_l3Add.f at h
 have H:=h
 clear h
 have H':=zz H
 clear H
 go_enter Tryz.func173,Tryz.ntmps173
 go_wp2
 go_loopg[5] k (fun kq v5 w'=>∃(aa:Int),v5= .int .i64 aa∧qC (spec_l3Add.l0 kq l0 a1 aa=some r)∧qC (kq≤k)∧qC (Kd.R Kd.string 9 w' w0.heap.size (fun k_=>(ac k_∨w.heap.size≤k_)) aC l0)∧qC (Kept w w' (fun k_=>ac k_))∧qC (Below w0.heap.size w0 w'))
 case atStart=>exact⟨(0),zr,H',⟨Nat.le_refl _⟩,⟨zR cR.out⟩,⟨by repeat(first|(with_reducible first|exact HK.out|apply Kept.alloc|apply Kept.drewN|apply Kept.drew)|exact HK.out)⟩,⟨zb⟩⟩
 case round=>
  clear H'
  try clear c1
  try clear p2
  obtain⟨aa,rfl,HA,cn,ab,HK,HB⟩:=hrel
  cases gk with
  |zero=>exact absurd HA.out (by simp[spec_l3Add.l0])
  |succ k1=>
   have H:=HA.out
   clear HA
   simp only[spec_l3Add.l0] at H
   refine yD H ?_ ?_<;>clear H<;>intro dj H
   ·replace H:=yAD H
    obtain⟨dk,H⟩:=H
    refine yC H ?_ ?_<;>clear H<;>intro c5 H
    ·have cB:(Op.bytesLess ((rdOf ByteArray.empty l0 aa).toList) a1.toList)=true:=c5
     clear c5
     have H':=zz H
     clear H
     obtain⟨dA,dB,cS⟩:=Kd.qZ ab.out
     subst cS
     have ao:0≤(aa:Int):=z2
     have ap:aa<(l0.length:Int):=z2
     obtain⟨ag,a8,bb⟩:=Kd.vA (Kd.qM ab.out).2.2 aa ao ap
     cases a8
     replace ao:=eq_true ao
     replace ap:=eq_true ap
     go_wp2
     go_roundg k1
     case measure=>have:=cn.out;omega
     case rel=>exact⟨(wrap64 (aa+1)),zr,H',⟨by have:=cn.out;omega⟩,⟨zR ab.out⟩,⟨by repeat(first|(with_reducible first|exact HK.out|apply Kept.alloc|apply Kept.drewN|apply Kept.drew)|exact HK.out)⟩,⟨zb⟩⟩
    have cB:(Op.bytesLess ((rdOf ByteArray.empty l0 aa).toList) a1.toList)=false:=by simpa using c5
    clear c5
    refine yC H ?_ ?_<;>clear H<;>intro c7 H
    ·obtain⟨cC,cD⟩:=zq c7
     clear c7
     obtain rfl:=zi H
     obtain⟨dC,dD,cT⟩:=Kd.qZ ab.out
     subst cT
     have ao:0≤(aa:Int):=z2
     have ap:aa<(l0.length:Int):=z2
     obtain⟨ag,a8,bb⟩:=Kd.vA (Kd.qM ab.out).2.2 aa ao ap
     cases a8
     replace ao:=eq_true ao
     replace ap:=eq_true ap
     have az:0≤(aa:Int):=z2
     have aA:aa<(l0.length:Int):=z2
     obtain⟨be,bo,bJ⟩:=Kd.vA (Kd.qM ab.out).2.2 aa az aA
     obtain rfl:ag=be:=(by injection bo)
     replace az:=eq_true az
     replace aA:=eq_true aA
     go_wp2
     go_ret
     exact⟨_,ze,zR ab.out,zb,by repeat(first|(with_reducible first|exact HK.out|apply Kept.alloc|apply Kept.drewN|apply Kept.drew)|exact HK.out)⟩
    obtain⟨cC,cD⟩:=zw c7
    obtain⟨aZ,aD⟩:∃y_:List ByteArray,y_=(([]:List ByteArray)):=⟨_,rfl⟩
    replace H:(if aa≤(l0.length:Int) then((some (l0.take (aa:Int).toNat:List ByteArray)).bind fun ah=>(if aZ.length+ah.length<8796093022208 then((some (aZ++ah:List ByteArray)).bind fun av=>(if av.length<8796093022208 then((some (av++[a1]:List ByteArray)).bind fun ai=>((some (l0.drop (aa:Int).toNat:List ByteArray)).bind fun ae=>(if ai.length+ae.length<8796093022208 then(some (ai++ae)) else(none)))) else(none))) else(none))) else(none))=some r:=by first|(rw[aD];with_reducible exact H)|(have ad:=(Option.bind_some _ _).symm.trans H;rw[aD];with_reducible exact ad)|(have ad:=(Option.bind_some _ _).symm.trans H;with_reducible exact ad)|with_reducible exact H|(rw[aD];exact H)|exact H
    have bB:=zz aD
    clear aD
    have dl:=eq_true (z2:0≤aa)
    replace H:=yA H
    obtain⟨bK,H⟩:=H
    have cW:=eq_true bK
    have cX:=z1 bK
    clear bK
    obtain⟨ah,aE⟩:∃y_:List ByteArray,y_=(l0.take (aa:Int).toNat):=⟨_,rfl⟩
    replace H:(if aZ.length+ah.length<8796093022208 then((some (aZ++ah:List ByteArray)).bind fun av=>(if av.length<8796093022208 then((some (av++[a1]:List ByteArray)).bind fun ai=>((some (l0.drop (aa:Int).toNat:List ByteArray)).bind fun ae=>(if ai.length+ae.length<8796093022208 then(some (ai++ae)) else(none)))) else(none))) else(none))=some r:=by first|(rw[aE];with_reducible exact H)|(have ad:=(Option.bind_some _ _).symm.trans H;rw[aE];with_reducible exact ad)|(have ad:=(Option.bind_some _ _).symm.trans H;with_reducible exact ad)|with_reducible exact H|(rw[aE];exact H)|exact H
    have aG:=zz aE
    clear aE
    replace H:=yA H
    obtain⟨co,H⟩:=H
    have b5:=zz co
    clear co
    obtain⟨av,aH⟩:∃y_:List ByteArray,y_=(aZ++ah):=⟨_,rfl⟩
    replace H:(if av.length<8796093022208 then((some (av++[a1]:List ByteArray)).bind fun ai=>((some (l0.drop (aa:Int).toNat:List ByteArray)).bind fun ae=>(if ai.length+ae.length<8796093022208 then(some (ai++ae)) else(none)))) else(none))=some r:=by first|(rw[aH];with_reducible exact H)|(have ad:=(Option.bind_some _ _).symm.trans H;rw[aH];with_reducible exact ad)|(have ad:=(Option.bind_some _ _).symm.trans H;with_reducible exact ad)|with_reducible exact H|(rw[aH];exact H)|exact H
    have b6:=zz aH
    clear aH
    replace H:=yA H
    obtain⟨cp,H⟩:=H
    have b7:=zz cp
    clear cp
    obtain⟨ai,aI⟩:∃y_:List ByteArray,y_=(av++[a1]):=⟨_,rfl⟩
    replace H:((some (l0.drop (aa:Int).toNat:List ByteArray)).bind fun ae=>(if ai.length+ae.length<8796093022208 then(some (ai++ae)) else(none)))=some r:=by first|(rw[aI];with_reducible exact H)|(have ad:=(Option.bind_some _ _).symm.trans H;rw[aI];with_reducible exact ad)|(have ad:=(Option.bind_some _ _).symm.trans H;with_reducible exact ad)|with_reducible exact H|(rw[aI];exact H)|exact H
    have b8:=zz aI
    clear aI
    have cY:=eq_true (z2:0≤aa)
    have cZ:=eq_true (z2:aa≤(l0.length:Int))
    obtain⟨ae,aJ⟩:∃y_:List ByteArray,y_=(l0.drop (aa:Int).toNat):=⟨_,rfl⟩
    replace H:(if ai.length+ae.length<8796093022208 then(some (ai++ae)) else(none))=some r:=by first|(rw[aJ];with_reducible exact H)|(have ad:=(Option.bind_some _ _).symm.trans H;rw[aJ];with_reducible exact ad)|(have ad:=(Option.bind_some _ _).symm.trans H;with_reducible exact ad)|with_reducible exact H|(rw[aJ];exact H)|exact H
    have a6:=zz aJ
    clear aJ
    replace H:=yA H
    obtain⟨cq,H⟩:=H
    have b9:=zz cq
    clear cq
    obtain⟨cE,aK⟩:∃y_:List ByteArray,y_=(ai++ae):=⟨_,rfl⟩
    replace H:(some cE)=some r:=by first|(rw[aK];with_reducible exact H)|(have ad:=(Option.bind_some _ _).symm.trans H;rw[aK];with_reducible exact ad)|(have ad:=(Option.bind_some _ _).symm.trans H;with_reducible exact ad)|with_reducible exact H|(rw[aK];exact H)|exact H
    have ca:=zz aK
    clear aK
    obtain rfl:=zi H
    obtain⟨dm,al,cF⟩:=Kd.qZ ab.out
    subst cF
    have ao:0≤(aa:Int):=z2
    have ap:aa<(l0.length:Int):=z2
    obtain⟨ag,a8,bb⟩:=Kd.vA (Kd.qM ab.out).2.2 aa ao ap
    cases a8
    replace ao:=eq_true ao
    replace ap:=eq_true ap
    have az:0≤(aa:Int):=z2
    have aA:aa<(l0.length:Int):=z2
    obtain⟨be,bo,bJ⟩:=Kd.vA (Kd.qM ab.out).2.2 aa az aA
    obtain rfl:ag=be:=(by injection bo)
    replace az:=eq_true az
    replace aA:=eq_true aA
    try go_wp2_with(first|(refine zN 34 ?_;refine Kd.R_lit Kd.string _ 9 ?hg (N:=34) ?hd (xs:=([]:List ByteArray)) (inner:=[]) (ok:=fun _=>True) (okp:=fun _=>True) ?hr ?hp (fun _ hk=>hk) trivial (Below.refl _ _) (Nat.le_refl _) (by simp) ?_;(case hd=>rfl);(case hg=>rfl);(case hr=>first|(go_simp;done)|(go_simp;rfl));(case hp=>exact(Reps.none _ _));intro cG dE a0 hb hg_ hnew_;clear hg_ hnew_;(first|rw[←bB.out] at a0|(simp only[Int.reduceToNat] at a0;rw[←bB.out] at a0));have bf:=zz (Kd.qY (Kd.R_new' (Kd.R_newM (M:=fun k_=>(ac k_∨w.heap.size≤k_)) a0 (by first|exact HK.out.1|exact(show Kept w _ (fun k_=>ac k_) from by repeat(first|(with_reducible first|exact HK.out|apply Kept.alloc|apply Kept.drewN|apply Kept.drew)|exact HK.out)).1) (fun k_ h_=> .inr h_)) (Kd.R_lt (zR ab.out))) (qF zb));replace ab:=zz (Kd.R_elder' (zR ab.out) (Kd.R_base a0) hb);replace HK:=zz (Kept.below (S:=(fun k_=>ac k_)) (by repeat(first|(with_reducible first|exact HK.out|apply Kept.alloc|apply Kept.drewN|apply Kept.drew)|exact HK.out)) hb);replace HB:=zz (zv zb hb);clear hb a0;have bL:(aa:Int)≤((l0.length:Int):Int):=z2;obtain⟨dn,bC,_,cb,_⟩:=info_parts info9;have bc:l0.length≤al:=(Kd.qM ab.out).2.1;have bM:Kd.C Kd.string _ (some ag) l0.length l0:=(Kd.qM ab.out).2.2;have bN:=cut_to (P:=Tryz.prog) 101 9 .i64 Tryz.underlying101 bC (some ag) l0.length al aa (z2) bL bc;have bq:=Kd.C_take (m:=(aa:Int).toNat) bM (by omega);have br:ah.length=(aa:Int).toNat:=(by rw[aG.out,List.length_take];omega);rw[←aG.out] at bq;rw[←br] at bN;have ar:=zz bq;have c6:=zz (show ah.length≤al from by omega);clear bq bM bc bC cb;have dp:=zz br;clear br;have bs:=zz (show(aa:Int).toNat≤l0.length from by omega);replace bL:=eq_true bL)|((with_reducible refine qT (b:= .append) (xs:= #[.tmp 34,.tmp 37]) rfl ?_);at_builtin;refine Kd.R_append_rows Kd.string (w0:=w0) w0.heap.size rfl (.tmp 34) (.tmp 37) 101 9 (.string ⟨#[]⟩) 16 rfl Tryz.underlying101 info9 rfl (by decide) (by omega) cG aZ ah _ _ _ (fun k_=>(ac k_∨w.heap.size≤k_)∧some k_≠(.slice (some ag) l0.length al:Value).ownBlock) (fun _=>False) rfl rfl ?aO ?aR (fun _ _ h=>h) (fun _ h=>h.elim) ?aF ?aB ?aS ?aL ?_;(case aR=>repeat(first|exact(by repeat(first|(with_reducible exact ar.out)|(with_reducible refine Kd.C_alloc ?_ _)|(with_reducible refine Kd.C_drewN ?_ _)|(with_reducible refine Kd.C_drew ?_)|exact ar.out))|(with_reducible refine Kd.C_alloc ?_ _)|(with_reducible refine Kd.C_drewN ?_ _)|(with_reducible refine Kd.C_drew ?_)));(case aB=>exact zb);(case aF=>exact(fun k_ hk=>⟨(.inr (Nat.le_trans (by first|exact HK.out.1|exact(show Kept w _ (fun k_=>ac k_) from by repeat(first|(with_reducible first|exact HK.out|apply Kept.alloc|apply Kept.drewN|apply Kept.drew)|exact HK.out)).1) hk)),Kd.fresh' (Kd.R_lt (zR ab.out)) k_ hk⟩));(case aO=>exact(by(with_reducible repeat(first|apply Kd.R_alloc|apply Kd.R_drewN|apply Kd.R_drew));exact Kd.vC bf.out (fun _ hk=>⟨hk.1.1,hk.2⟩)));(case aS=>exact(qF zb));(case aL=>have:=b5.out;omega);intro cH cr ho hb hg hat;rw[←b6.out] at ho;replace HB:=zz (hb);replace HK:=zz (Kept.of_grown (S:=(fun k_=>ac k_)) hg (by repeat(first|(with_reducible first|exact HK.out|apply Kept.alloc|apply Kept.drewN|apply Kept.drew)|exact HK.out)) (fun k_ e_=>(bf.out.1 k_ e_).1.1));replace ar:=zz ((show Kd.C Kd.string cr (some ag) ah.length ah from by rw[aG.out];exact Kd.C_take (m:=(aa:Int).toNat) ((Kd.qM (Kd.R_after (ok:=(fun k_=>(ac k_∨w.heap.size≤k_))) (zR ab.out) hg hat)).2.2) bs.out));replace ab:=zz (Kd.R_after (ok:=(fun k_=>(ac k_∨w.heap.size≤k_))) (zR ab.out) hg hat);have ax:=zz (ho);clear bf;clear ho hb hg hat))
    replace ab:=zz (Kd.R_drew ab.out)
    replace ax:=zz (Kd.R_drew ax.out)
    replace ar:=zz (Kd.C_drew ar.out)
    replace HK:=zz (Kept.drew HK.out)
    replace HB:=zz (qK HB.out)
    have bO:(aa:Int)≤((l0.length:Int):Int):=z2
    obtain⟨dq,bD,_,bE,_⟩:=info_parts info9
    have a2:l0.length≤al:=(Kd.qM ab.out).2.1
    have bP:Kd.C Kd.string _ (some ag) l0.length l0:=(Kd.qM ab.out).2.2
    have cI:(0:Int)≤(aa:Int):=z2
    have bQ:=cut_from (P:=Tryz.prog) 101 9 .i64 Tryz.underlying101 bD 1 bE (some ag) l0.length al aa cI bO
    have a9:=Kd.C_drop (m:=(aa:Int).toNat) (c:=al) bP (by omega) a2
    obtain⟨bR,bg⟩:∃A1,A1=(if al=(aa:Int).toNat then(some ag) else((some ag):Option Addr).map (·.add ((aa:Int).toNat*1))):=⟨_,rfl⟩
    obtain⟨cU,bu⟩:∃c1,c1=al - (aa:Int).toNat:=⟨_,rfl⟩
    have bh:ae.length=l0.length - (aa:Int).toNat:=(by rw[a6.out,List.length_drop]<;>omega)
    rw[show(l0).drop (aa:Int).toNat=ae from a6.out.symm] at a9
    replace a9:Kd.C Kd.string _ bR ae.length ae:=(by rw[bg];exact a9)
    rw[←bh,←bg,←bu] at bQ
    have aM:=zz a9
    have c8:=zz (show ae.length≤cU from by rw[bh,bu];exact Nat.sub_le_sub_right a2 _)
    clear a9 bP a2 bD bE bu
    have dr:=zz bh
    have bS:=zz bg
    clear bh bg
    have bT:=zz (show(aa:Int).toNat≤l0.length from by omega)
    replace bO:=eq_true bO
    refine start_ (n:=9) (S:=fun w'=>True) (ds:=[]) (bp 0 9) zk rfl rfl trivial (fun hHeld=>?_);refine with_tabW spec_l3Add.tab7 spec_l3Add.bits7 (fun HT_ HW_=>?_)
    generalize cr.drew=dF at ab ax ar HK HB aM hHeld⊢
    refine zp 0 39 (bp 1 8) ?_
    refine zp 1 40 (bp 2 7) ?_
    refine zp 4 43 (bm 9 19) ?_
    refine zp 5 44 (bm 9 51) ?_
    refine zp 6 45 (bm 9 115) ?_
    refine zo 2 41 (bm 9 119) fun K hK=>?_
    refine value_ (w1:=?_) (v:=?_) (by rfl) rfl ?_ ?_
    rotate_left 2
    ·go_simp
     constructor
     ·rfl
     ·rfl
    refine hK.out _ _ trivial (fun hHeld=>?_)
    clear hK K
    refine zn 41 ?_
    refine zo 3 42 (bp 7 2) fun K hK=>?_
    refine Kd.R_append_step Kd.string (w0:=w0) w0.heap.size (by rfl) (.tmp 39) (.tmp 41) 101 9 (.string ⟨#[]⟩) 16 rfl Tryz.underlying101 info9 rfl (by decide) (by omega) cH av a1 [.string a1] (fun k_=>(ac k_∨w.heap.size≤k_)∧some k_≠(.slice (some ag) l0.length al:Value).ownBlock) (fun _=>False) rfl rfl ?aP (fun _ hk=>hk.elim) ?aF ?aO ?aB ?aS ?aL ?_
    (case aP=>exact rfl)
    (case aB=>exact zb)
    (case aF=>exact(fun k_ hk=>⟨(.inr (Nat.le_trans (by first|exact HK.out.1|exact(show Kept w _ (fun k_=>ac k_) from by repeat(first|(with_reducible first|exact HK.out|apply Kept.alloc|apply Kept.drewN|apply Kept.drew)|exact HK.out)).1) hk)),Kd.fresh' (Kd.R_lt (zR ab.out)) k_ hk⟩))
    (case aO=>exact(zR ax.out))
    (case aS=>exact(qF zb))
    (case aL=>have:=b7.out;omega)
    intro cJ ct ho hb hg hat
    rw[←b8.out] at ho
    replace HB:=zz (hb)
    replace HK:=zz (Kept.of_grown (S:=(fun k_=>ac k_)) hg (by repeat(first|(with_reducible first|exact HK.out|apply Kept.alloc|apply Kept.drewN|apply Kept.drew)|exact HK.out)) (fun k_ e_=>(ax.out.1 k_ e_).1))
    replace ar:=zz ((show Kd.C Kd.string ct (some ag) ah.length ah from by rw[aG.out];exact Kd.C_take (m:=(aa:Int).toNat) ((Kd.qM (Kd.R_after (ok:=(fun k_=>(ac k_∨w.heap.size≤k_))) (zR ab.out) hg hat)).2.2) bs.out))
    replace aM:=zz ((show Kd.C Kd.string ct bR ae.length ae from by rw[a6.out,bS.out];exact Kd.C_drop (m:=(aa:Int).toNat) (c:=al) ((Kd.qM (Kd.R_after (ok:=(fun k_=>(ac k_∨w.heap.size≤k_))) (zR ab.out) hg hat)).2.2) bT.out ((Kd.qM (Kd.R_after (ok:=(fun k_=>(ac k_∨w.heap.size≤k_))) (zR ab.out) hg hat)).2.1)))
    replace ab:=zz (Kd.R_after (ok:=(fun k_=>(ac k_∨w.heap.size≤k_))) (zR ab.out) hg hat)
    have bi:=zz (ho)
    clear ax
    clear ho hb hg hat
    refine hK.out _ _ trivial (fun hHeld=>?_)
    clear hK K
    refine zn 42 ?_
    refine zo 7 46 (bp 8 1) fun K hK=>?_
    refine Kd.R_append_rows_step Kd.string (w0:=w0) w0.heap.size (by rfl) (.tmp 42) (.tmp 45) 101 9 (.string ⟨#[]⟩) 16 rfl Tryz.underlying101 info9 rfl (by decide) (by omega) cJ ai ae _ _ _ (fun k_=>(ac k_∨w.heap.size≤k_)∧some k_≠(.slice (some ag) l0.length al:Value).ownBlock) (fun _=>False) rfl rfl ?aO ?aR (fun _ _ h=>h) (fun _ h=>h.elim) ?aF ?aB ?aS ?aL ?_
    (case aR=>repeat(first|exact(by repeat(first|(with_reducible exact aM.out)|(with_reducible refine Kd.C_alloc ?_ _)|(with_reducible refine Kd.C_drewN ?_ _)|(with_reducible refine Kd.C_drew ?_)|exact aM.out))|(with_reducible refine Kd.C_alloc ?_ _)|(with_reducible refine Kd.C_drewN ?_ _)|(with_reducible refine Kd.C_drew ?_)))
    (case aB=>exact zb)
    (case aF=>exact(fun k_ hk=>⟨(.inr (Nat.le_trans (by first|exact HK.out.1|exact(show Kept w _ (fun k_=>ac k_) from by repeat(first|(with_reducible first|exact HK.out|apply Kept.alloc|apply Kept.drewN|apply Kept.drew)|exact HK.out)).1) hk)),Kd.fresh' (Kd.R_lt (zR ab.out)) k_ hk⟩))
    (case aO=>exact(zR bi.out))
    (case aS=>exact(qF zb))
    (case aL=>have:=b9.out;omega)
    intro dt cu ho hb hg hat
    rw[←ca.out] at ho
    replace HB:=zz (hb)
    replace HK:=zz (Kept.of_grown (S:=(fun k_=>ac k_)) hg (by repeat(first|(with_reducible first|exact HK.out|apply Kept.alloc|apply Kept.drewN|apply Kept.drew)|exact HK.out)) (fun k_ e_=>(bi.out.1 k_ e_).1))
    replace ar:=zz ((show Kd.C Kd.string cu (some ag) ah.length ah from by rw[aG.out];exact Kd.C_take (m:=(aa:Int).toNat) ((Kd.qM (Kd.R_after (ok:=(fun k_=>(ac k_∨w.heap.size≤k_))) (zR ab.out) hg hat)).2.2) bs.out))
    replace aM:=zz ((show Kd.C Kd.string cu bR ae.length ae from by rw[a6.out,bS.out];exact Kd.C_drop (m:=(aa:Int).toNat) (c:=al) ((Kd.qM (Kd.R_after (ok:=(fun k_=>(ac k_∨w.heap.size≤k_))) (zR ab.out) hg hat)).2.2) bT.out ((Kd.qM (Kd.R_after (ok:=(fun k_=>(ac k_∨w.heap.size≤k_))) (zR ab.out) hg hat)).2.1)))
    replace ab:=zz (Kd.R_after (ok:=(fun k_=>(ac k_∨w.heap.size≤k_))) (zR ab.out) hg hat)
    have cc:=zz (ho)
    clear bi
    clear ho hb hg hat
    refine hK.out _ _ trivial (fun hHeld=>?_)
    clear hK K
    refine zn 46 ?_
    refine zp 8 4 (bp 9 0) ?_
    refine done_ (done_of HT_.out zk) ?_
    try go_wp2
    go_ret
    exact⟨_,ze,by(with_reducible repeat(first|apply Kd.R_alloc|apply Kd.R_drewN|apply Kd.R_drew));exact Kd.vC cc.out (fun _ hk=>hk.1),zb,by repeat(first|(with_reducible first|exact HK.out|apply Kept.alloc|apply Kept.drewN|apply Kept.drew)|exact HK.out)⟩
   obtain⟨a3,aN⟩:∃y_:List ByteArray,y_=(([]:List ByteArray)):=⟨_,rfl⟩
   replace H:(if 0≤aa then(if aa≤(l0.length:Int) then((some (l0.take (aa:Int).toNat:List ByteArray)).bind fun aj=>(if a3.length+aj.length<8796093022208 then((some (a3++aj:List ByteArray)).bind fun aw=>(if aw.length<8796093022208 then((some (aw++[a1]:List ByteArray)).bind fun ak=>((some (l0.drop (aa:Int).toNat:List ByteArray)).bind fun af=>(if ak.length+af.length<8796093022208 then(some (ak++af)) else(none)))) else(none))) else(none))) else(none)) else(none))=some r:=by first|(rw[aN];with_reducible exact H)|(have ad:=(Option.bind_some _ _).symm.trans H;rw[aN];with_reducible exact ad)|(have ad:=(Option.bind_some _ _).symm.trans H;with_reducible exact ad)|with_reducible exact H|(rw[aN];exact H)|exact H
   have bF:=zz aN
   clear aN
   replace H:=yA H
   obtain⟨bU,H⟩:=H
   have c9:=eq_true bU
   have da:=z1 bU
   clear bU
   replace H:=yA H
   obtain⟨bV,H⟩:=H
   have db:=eq_true bV
   have dc:=z1 bV
   clear bV
   obtain⟨aj,aQ⟩:∃y_:List ByteArray,y_=(l0.take (aa:Int).toNat):=⟨_,rfl⟩
   replace H:(if a3.length+aj.length<8796093022208 then((some (a3++aj:List ByteArray)).bind fun aw=>(if aw.length<8796093022208 then((some (aw++[a1]:List ByteArray)).bind fun ak=>((some (l0.drop (aa:Int).toNat:List ByteArray)).bind fun af=>(if ak.length+af.length<8796093022208 then(some (ak++af)) else(none)))) else(none))) else(none))=some r:=by first|(rw[aQ];with_reducible exact H)|(have ad:=(Option.bind_some _ _).symm.trans H;rw[aQ];with_reducible exact ad)|(have ad:=(Option.bind_some _ _).symm.trans H;with_reducible exact ad)|with_reducible exact H|(rw[aQ];exact H)|exact H
   have aT:=zz aQ
   clear aQ
   replace H:=yA H
   obtain⟨cv,H⟩:=H
   have cd:=zz cv
   clear cv
   obtain⟨aw,aU⟩:∃y_:List ByteArray,y_=(a3++aj):=⟨_,rfl⟩
   replace H:(if aw.length<8796093022208 then((some (aw++[a1]:List ByteArray)).bind fun ak=>((some (l0.drop (aa:Int).toNat:List ByteArray)).bind fun af=>(if ak.length+af.length<8796093022208 then(some (ak++af)) else(none)))) else(none))=some r:=by first|(rw[aU];with_reducible exact H)|(have ad:=(Option.bind_some _ _).symm.trans H;rw[aU];with_reducible exact ad)|(have ad:=(Option.bind_some _ _).symm.trans H;with_reducible exact ad)|with_reducible exact H|(rw[aU];exact H)|exact H
   have ce:=zz aU
   clear aU
   replace H:=yA H
   obtain⟨cw,H⟩:=H
   have cf:=zz cw
   clear cw
   obtain⟨ak,aV⟩:∃y_:List ByteArray,y_=(aw++[a1]):=⟨_,rfl⟩
   replace H:((some (l0.drop (aa:Int).toNat:List ByteArray)).bind fun af=>(if ak.length+af.length<8796093022208 then(some (ak++af)) else(none)))=some r:=by first|(rw[aV];with_reducible exact H)|(have ad:=(Option.bind_some _ _).symm.trans H;rw[aV];with_reducible exact ad)|(have ad:=(Option.bind_some _ _).symm.trans H;with_reducible exact ad)|with_reducible exact H|(rw[aV];exact H)|exact H
   have cg:=zz aV
   clear aV
   have de:=eq_true (z2:0≤aa)
   have df:=eq_true (z2:aa≤(l0.length:Int))
   obtain⟨af,aW⟩:∃y_:List ByteArray,y_=(l0.drop (aa:Int).toNat):=⟨_,rfl⟩
   replace H:(if ak.length+af.length<8796093022208 then(some (ak++af)) else(none))=some r:=by first|(rw[aW];with_reducible exact H)|(have ad:=(Option.bind_some _ _).symm.trans H;rw[aW];with_reducible exact ad)|(have ad:=(Option.bind_some _ _).symm.trans H;with_reducible exact ad)|with_reducible exact H|(rw[aW];exact H)|exact H
   have a7:=zz aW
   clear aW
   replace H:=yA H
   obtain⟨cx,H⟩:=H
   have ch:=zz cx
   clear cx
   obtain⟨cK,aX⟩:∃y_:List ByteArray,y_=(ak++af):=⟨_,rfl⟩
   replace H:(some cK)=some r:=by first|(rw[aX];with_reducible exact H)|(have ad:=(Option.bind_some _ _).symm.trans H;rw[aX];with_reducible exact ad)|(have ad:=(Option.bind_some _ _).symm.trans H;with_reducible exact ad)|with_reducible exact H|(rw[aX];exact H)|exact H
   have ci:=zz aX
   clear aX
   obtain rfl:=zi H
   obtain⟨an,am,cL⟩:=Kd.qZ ab.out
   subst cL
   try go_wp2_with(first|(refine zN 34 ?_;refine Kd.R_lit Kd.string _ 9 ?hg (N:=34) ?hd (xs:=([]:List ByteArray)) (inner:=[]) (ok:=fun _=>True) (okp:=fun _=>True) ?hr ?hp (fun _ hk=>hk) trivial (Below.refl _ _) (Nat.le_refl _) (by simp) ?_;(case hd=>rfl);(case hg=>rfl);(case hr=>first|(go_simp;done)|(go_simp;rfl));(case hp=>exact(Reps.none _ _));intro cM dG a4 hb hg_ hnew_;clear hg_ hnew_;(first|rw[←bF.out] at a4|(simp only[Int.reduceToNat] at a4;rw[←bF.out] at a4));have bj:=zz (Kd.qY (Kd.R_new' (Kd.R_newM (M:=fun k_=>(ac k_∨w.heap.size≤k_)) a4 (by first|exact HK.out.1|exact(show Kept w _ (fun k_=>ac k_) from by repeat(first|(with_reducible first|exact HK.out|apply Kept.alloc|apply Kept.drewN|apply Kept.drew)|exact HK.out)).1) (fun k_ h_=> .inr h_)) (Kd.R_lt (zR ab.out))) (qF zb));replace ab:=zz (Kd.R_elder' (zR ab.out) (Kd.R_base a4) hb);replace HK:=zz (Kept.below (S:=(fun k_=>ac k_)) (by repeat(first|(with_reducible first|exact HK.out|apply Kept.alloc|apply Kept.drewN|apply Kept.drew)|exact HK.out)) hb);replace HB:=zz (zv zb hb);clear hb a4;have bW:(aa:Int)≤((l0.length:Int):Int):=z2;obtain⟨du,bG,_,cj,_⟩:=info_parts info9;have bd:l0.length≤am:=(Kd.qM ab.out).2.1;have bX:Kd.C Kd.string _ an l0.length l0:=(Kd.qM ab.out).2.2;have bY:=cut_to (P:=Tryz.prog) 101 9 .i64 Tryz.underlying101 bG an l0.length am aa (z2) bW bd;have bv:=Kd.C_take (m:=(aa:Int).toNat) bX (by omega);have bw:aj.length=(aa:Int).toNat:=(by rw[aT.out,List.length_take];omega);rw[←aT.out] at bv;rw[←bw] at bY;have au:=zz bv;have dh:=zz (show aj.length≤am from by omega);clear bv bX bd bG cj;have dv:=zz bw;clear bw;have bz:=zz (show(aa:Int).toNat≤l0.length from by omega);replace bW:=eq_true bW)|((with_reducible refine qT (b:= .append) (xs:= #[.tmp 34,.tmp 37]) rfl ?_);at_builtin;refine Kd.R_append_rows Kd.string (w0:=w0) w0.heap.size rfl (.tmp 34) (.tmp 37) 101 9 (.string ⟨#[]⟩) 16 rfl Tryz.underlying101 info9 rfl (by decide) (by omega) cM a3 aj _ _ _ (fun k_=>(ac k_∨w.heap.size≤k_)∧some k_≠(.slice an l0.length am:Value).ownBlock) (fun _=>False) rfl rfl ?aO ?aR (fun _ _ h=>h) (fun _ h=>h.elim) ?aF ?aB ?aS ?aL ?_;(case aR=>repeat(first|exact(by repeat(first|(with_reducible exact au.out)|(with_reducible refine Kd.C_alloc ?_ _)|(with_reducible refine Kd.C_drewN ?_ _)|(with_reducible refine Kd.C_drew ?_)|exact au.out))|(with_reducible refine Kd.C_alloc ?_ _)|(with_reducible refine Kd.C_drewN ?_ _)|(with_reducible refine Kd.C_drew ?_)));(case aB=>exact zb);(case aF=>exact(fun k_ hk=>⟨(.inr (Nat.le_trans (by first|exact HK.out.1|exact(show Kept w _ (fun k_=>ac k_) from by repeat(first|(with_reducible first|exact HK.out|apply Kept.alloc|apply Kept.drewN|apply Kept.drew)|exact HK.out)).1) hk)),Kd.fresh' (Kd.R_lt (zR ab.out)) k_ hk⟩));(case aO=>exact(by(with_reducible repeat(first|apply Kd.R_alloc|apply Kd.R_drewN|apply Kd.R_drew));exact Kd.vC bj.out (fun _ hk=>⟨hk.1.1,hk.2⟩)));(case aS=>exact(qF zb));(case aL=>have:=cd.out;omega);intro cN cy ho hb hg hat;rw[←ce.out] at ho;replace HB:=zz (hb);replace HK:=zz (Kept.of_grown (S:=(fun k_=>ac k_)) hg (by repeat(first|(with_reducible first|exact HK.out|apply Kept.alloc|apply Kept.drewN|apply Kept.drew)|exact HK.out)) (fun k_ e_=>(bj.out.1 k_ e_).1.1));replace au:=zz ((show Kd.C Kd.string cy an aj.length aj from by rw[aT.out];exact Kd.C_take (m:=(aa:Int).toNat) ((Kd.qM (Kd.R_after (ok:=(fun k_=>(ac k_∨w.heap.size≤k_))) (zR ab.out) hg hat)).2.2) bz.out));replace ab:=zz (Kd.R_after (ok:=(fun k_=>(ac k_∨w.heap.size≤k_))) (zR ab.out) hg hat);have ay:=zz (ho);clear bj;clear ho hb hg hat))
   replace ab:=zz (Kd.R_drew ab.out)
   replace ay:=zz (Kd.R_drew ay.out)
   replace au:=zz (Kd.C_drew au.out)
   replace HK:=zz (Kept.drew HK.out)
   replace HB:=zz (qK HB.out)
   have bZ:(aa:Int)≤((l0.length:Int):Int):=z2
   obtain⟨dw,bH,_,bI,_⟩:=info_parts info9
   have a5:l0.length≤am:=(Kd.qM ab.out).2.1
   have b0:Kd.C Kd.string _ an l0.length l0:=(Kd.qM ab.out).2.2
   have cO:(0:Int)≤(aa:Int):=z2
   have b1:=cut_from (P:=Tryz.prog) 101 9 .i64 Tryz.underlying101 bH 1 bI an l0.length am aa cO bZ
   have ba:=Kd.C_drop (m:=(aa:Int).toNat) (c:=am) b0 (by omega) a5
   obtain⟨b2,bk⟩:∃A1,A1=(if am=(aa:Int).toNat then an else(an:Option Addr).map (·.add ((aa:Int).toNat*1))):=⟨_,rfl⟩
   obtain⟨cV,bA⟩:∃c1,c1=am - (aa:Int).toNat:=⟨_,rfl⟩
   have bl:af.length=l0.length - (aa:Int).toNat:=(by rw[a7.out,List.length_drop]<;>omega)
   rw[show(l0).drop (aa:Int).toNat=af from a7.out.symm] at ba
   replace ba:Kd.C Kd.string _ b2 af.length af:=(by rw[bk];exact ba)
   rw[←bl,←bk,←bA] at b1
   have aY:=zz ba
   have di:=zz (show af.length≤cV from by rw[bl,bA];exact Nat.sub_le_sub_right a5 _)
   clear ba b0 a5 bH bI bA
   have dx:=zz bl
   have b3:=zz bk
   clear bl bk
   have b4:=zz (show(aa:Int).toNat≤l0.length from by omega)
   replace bZ:=eq_true bZ
   refine start_ (n:=9) (S:=fun w'=>True) (ds:=[]) (bp 0 9) zk rfl rfl trivial (fun hHeld=>?_);refine with_tabW spec_l3Add.tab7 spec_l3Add.bits7 (fun HT_ HW_=>?_)
   generalize cy.drew=dH at ab ay au HK HB aY hHeld⊢
   refine zp 0 39 (bp 1 8) ?_
   refine zp 1 40 (bp 2 7) ?_
   refine zp 4 43 (bm 9 19) ?_
   refine zp 5 44 (bm 9 51) ?_
   refine zp 6 45 (bm 9 115) ?_
   refine zo 2 41 (bm 9 119) fun K hK=>?_
   refine value_ (w1:=?_) (v:=?_) (by rfl) rfl ?_ ?_
   rotate_left 2
   ·go_simp
    constructor
    ·rfl
    ·rfl
   refine hK.out _ _ trivial (fun hHeld=>?_)
   clear hK K
   refine zn 41 ?_
   refine zo 3 42 (bp 7 2) fun K hK=>?_
   refine Kd.R_append_step Kd.string (w0:=w0) w0.heap.size (by rfl) (.tmp 39) (.tmp 41) 101 9 (.string ⟨#[]⟩) 16 rfl Tryz.underlying101 info9 rfl (by decide) (by omega) cN aw a1 [.string a1] (fun k_=>(ac k_∨w.heap.size≤k_)∧some k_≠(.slice an l0.length am:Value).ownBlock) (fun _=>False) rfl rfl ?aP (fun _ hk=>hk.elim) ?aF ?aO ?aB ?aS ?aL ?_
   (case aP=>exact rfl)
   (case aB=>exact zb)
   (case aF=>exact(fun k_ hk=>⟨(.inr (Nat.le_trans (by first|exact HK.out.1|exact(show Kept w _ (fun k_=>ac k_) from by repeat(first|(with_reducible first|exact HK.out|apply Kept.alloc|apply Kept.drewN|apply Kept.drew)|exact HK.out)).1) hk)),Kd.fresh' (Kd.R_lt (zR ab.out)) k_ hk⟩))
   (case aO=>exact(zR ay.out))
   (case aS=>exact(qF zb))
   (case aL=>have:=cf.out;omega)
   intro cP cz ho hb hg hat
   rw[←cg.out] at ho
   replace HB:=zz (hb)
   replace HK:=zz (Kept.of_grown (S:=(fun k_=>ac k_)) hg (by repeat(first|(with_reducible first|exact HK.out|apply Kept.alloc|apply Kept.drewN|apply Kept.drew)|exact HK.out)) (fun k_ e_=>(ay.out.1 k_ e_).1))
   replace au:=zz ((show Kd.C Kd.string cz an aj.length aj from by rw[aT.out];exact Kd.C_take (m:=(aa:Int).toNat) ((Kd.qM (Kd.R_after (ok:=(fun k_=>(ac k_∨w.heap.size≤k_))) (zR ab.out) hg hat)).2.2) bz.out))
   replace aY:=zz ((show Kd.C Kd.string cz b2 af.length af from by rw[a7.out,b3.out];exact Kd.C_drop (m:=(aa:Int).toNat) (c:=am) ((Kd.qM (Kd.R_after (ok:=(fun k_=>(ac k_∨w.heap.size≤k_))) (zR ab.out) hg hat)).2.2) b4.out ((Kd.qM (Kd.R_after (ok:=(fun k_=>(ac k_∨w.heap.size≤k_))) (zR ab.out) hg hat)).2.1)))
   replace ab:=zz (Kd.R_after (ok:=(fun k_=>(ac k_∨w.heap.size≤k_))) (zR ab.out) hg hat)
   have bn:=zz (ho)
   clear ay
   clear ho hb hg hat
   refine hK.out _ _ trivial (fun hHeld=>?_)
   clear hK K
   refine zn 42 ?_
   refine zo 7 46 (bp 8 1) fun K hK=>?_
   refine Kd.R_append_rows_step Kd.string (w0:=w0) w0.heap.size (by rfl) (.tmp 42) (.tmp 45) 101 9 (.string ⟨#[]⟩) 16 rfl Tryz.underlying101 info9 rfl (by decide) (by omega) cP ak af _ _ _ (fun k_=>(ac k_∨w.heap.size≤k_)∧some k_≠(.slice an l0.length am:Value).ownBlock) (fun _=>False) rfl rfl ?aO ?aR (fun _ _ h=>h) (fun _ h=>h.elim) ?aF ?aB ?aS ?aL ?_
   (case aR=>repeat(first|exact(by repeat(first|(with_reducible exact aY.out)|(with_reducible refine Kd.C_alloc ?_ _)|(with_reducible refine Kd.C_drewN ?_ _)|(with_reducible refine Kd.C_drew ?_)|exact aY.out))|(with_reducible refine Kd.C_alloc ?_ _)|(with_reducible refine Kd.C_drewN ?_ _)|(with_reducible refine Kd.C_drew ?_)))
   (case aB=>exact zb)
   (case aF=>exact(fun k_ hk=>⟨(.inr (Nat.le_trans (by first|exact HK.out.1|exact(show Kept w _ (fun k_=>ac k_) from by repeat(first|(with_reducible first|exact HK.out|apply Kept.alloc|apply Kept.drewN|apply Kept.drew)|exact HK.out)).1) hk)),Kd.fresh' (Kd.R_lt (zR ab.out)) k_ hk⟩))
   (case aO=>exact(zR bn.out))
   (case aS=>exact(qF zb))
   (case aL=>have:=ch.out;omega)
   intro dy cA ho hb hg hat
   rw[←ci.out] at ho
   replace HB:=zz (hb)
   replace HK:=zz (Kept.of_grown (S:=(fun k_=>ac k_)) hg (by repeat(first|(with_reducible first|exact HK.out|apply Kept.alloc|apply Kept.drewN|apply Kept.drew)|exact HK.out)) (fun k_ e_=>(bn.out.1 k_ e_).1))
   replace au:=zz ((show Kd.C Kd.string cA an aj.length aj from by rw[aT.out];exact Kd.C_take (m:=(aa:Int).toNat) ((Kd.qM (Kd.R_after (ok:=(fun k_=>(ac k_∨w.heap.size≤k_))) (zR ab.out) hg hat)).2.2) bz.out))
   replace aY:=zz ((show Kd.C Kd.string cA b2 af.length af from by rw[a7.out,b3.out];exact Kd.C_drop (m:=(aa:Int).toNat) (c:=am) ((Kd.qM (Kd.R_after (ok:=(fun k_=>(ac k_∨w.heap.size≤k_))) (zR ab.out) hg hat)).2.2) b4.out ((Kd.qM (Kd.R_after (ok:=(fun k_=>(ac k_∨w.heap.size≤k_))) (zR ab.out) hg hat)).2.1)))
   replace ab:=zz (Kd.R_after (ok:=(fun k_=>(ac k_∨w.heap.size≤k_))) (zR ab.out) hg hat)
   have ck:=zz (ho)
   clear bn
   clear ho hb hg hat
   refine hK.out _ _ trivial (fun hHeld=>?_)
   clear hK K
   refine zn 46 ?_
   refine zp 8 4 (bp 9 0) ?_
   refine done_ (done_of HT_.out zk) ?_
   try go_wp2
   go_ret
   exact⟨_,ze,by(with_reducible repeat(first|apply Kd.R_alloc|apply Kd.R_drewN|apply Kd.R_drew));exact Kd.vC ck.out (fun _ hk=>hk.1),zb,by repeat(first|(with_reducible first|exact HK.out|apply Kept.alloc|apply Kept.drewN|apply Kept.drew)|exact HK.out)⟩
mutual
def spec_l10Refs.l0:Nat→List (S87)→List ByteArray→List ByteArray→Int→Option (List ByteArray)
 |0,_,_,_,_=>none
 |k+1,x0,x1,x5,x6=>if x6<(x1.length:Int) then(if 0≤x6 then((spec_AddressOk.f k (rdOf ByteArray.empty x1 x6)).bind fun aa=>(if aa=true then(spec_l10Refs.l1 k x0 x1 x5 x6 0) else(spec_l10Refs.l0 k x0 x1 x5 (wrap64 (x6+1))))) else(none)) else(some x5)
def spec_l10Refs.l1:Nat→List (S87)→List ByteArray→List ByteArray→Int→Int→Option (List ByteArray)
 |0,_,_,_,_,_=>none
 |k+1,x0,x1,x5,x6,x7=>if x7<(x0.length:Int) then(if 0≤x7 then(if 0≤x6 then(if x6<(x1.length:Int) then(if 0≤13 then(if 13≤((rdOf ByteArray.empty x1 x6).size:Int) then((spec_l10Has.f k ((qA x0 x7).f2) ((rdOf ByteArray.empty x1 x6).extract 0 13)).bind fun ab=>(if ab=true then((spec_l3Add.f k x5 (rdOf ByteArray.empty x1 x6)).bind fun ac=>(spec_l10Refs.l0 k x0 x1 ac (wrap64 (x6+1)))) else(spec_l10Refs.l1 k x0 x1 x5 x6 (wrap64 (x7+1))))) else(none)) else(none)) else(none)) else(none)) else(none)) else(spec_l10Refs.l0 k x0 x1 x5 (wrap64 (x6+1)))
end
def spec_l10Refs.f(k:Nat)(l0:List (S87))(l1:List ByteArray):Option (List ByteArray):=spec_l10Refs.l0 k l0 l1 (([]:List ByteArray)) 0
theorem spec_l10Refs.calls(k:Nat)(A0:Option Addr)(c0:Nat)(l0:List (S87))(A1:Option Addr)(c1:Nat)(l1:List ByteArray)(r:List ByteArray)(w:World)(a1:Kd.C k87 w A0 l0.length l0)(a2:l0.length≤c0)(a3:Kd.C Kd.string w A1 l1.length l1)(a4:l1.length≤c1)(h:spec_l10Refs.f k l0 l1=some r):
 Calls Tryz.prog 134 #[.slice A0 l0.length c0,.slice A1 l1.length c1] w fun e w'=>∃a5:Value,e= .returned (a5)∧Kd.R Kd.string 9 w' w.heap.size (fun _=>True) a5 r∧Below w.heap.size w w':=by
 have a6:=zz a1
 have bo:=zz a2
 clear a1 a2
 have aD:=zz a3
 have bq:=zz a4
 clear a3 a4
 have HB:=yB w
 unfold spec_l10Refs.f at h
 have H:=h
 clear h
 obtain⟨aR,az⟩:∃y_:List ByteArray,y_=(([]:List ByteArray)):=⟨_,rfl⟩
 replace H:(spec_l10Refs.l0 k l0 l1 aR 0)=some r:=by first|(rw[az];with_reducible exact H)|(have aS:=(Option.bind_some _ _).symm.trans H;rw[az];with_reducible exact aS)|(have aS:=(Option.bind_some _ _).symm.trans H;with_reducible exact aS)|with_reducible exact H|(rw[az];exact H)|exact H
 have av:=zz az
 clear az
 have H':=zz H
 clear H
 go_enter Tryz.func134,Tryz.ntmps134
 go_wp2_with(first|(refine zN 8 ?_;refine Kd.R_lit Kd.string _ 9 ?hg (N:=8) ?hd (xs:=([]:List ByteArray)) (inner:=[]) (ok:=fun _=>True) (okp:=fun _=>True) ?hr ?hp (fun _ hk=>hk) trivial (Below.refl _ _) (Nat.le_refl _) (by simp) ?_;(case hd=>rfl);(case hg=>rfl);(case hr=>first|(go_simp;done)|(go_simp;rfl));(case hp=>exact(Reps.none _ _));intro aT w3 af hb hg_ hnew_;clear hg_ hnew_;(first|rw[←av.out] at af|(simp only[Int.reduceToNat] at af;rw[←av.out] at af));have aJ:=zz (Kd.qY af (qF zb));replace HB:=zz (zv zb hb);clear hb af))
 repeat(go_quiet (first|(refine zN 8 ?_;refine Kd.R_lit Kd.string _ 9 ?hg (N:=8) ?hd (xs:=([]:List ByteArray)) (inner:=[]) (ok:=fun _=>True) (okp:=fun _=>True) ?hr ?hp (fun _ hk=>hk) trivial (Below.refl _ _) (Nat.le_refl _) (by simp) ?_;(case hd=>rfl);(case hg=>rfl);(case hr=>first|(go_simp;done)|(go_simp;rfl));(case hp=>exact(Reps.none _ _));intro aT w3 af hb hg_ hnew_;clear hg_ hnew_;(first|rw[←av.out] at af|(simp only[Int.reduceToNat] at af;rw[←av.out] at af));have aJ:=zz (Kd.qY af (qF zb));replace HB:=zz (zv zb hb);clear hb af));try go_wp2_with(first|(refine zN 8 ?_;refine Kd.R_lit Kd.string _ 9 ?hg (N:=8) ?hd (xs:=([]:List ByteArray)) (inner:=[]) (ok:=fun _=>True) (okp:=fun _=>True) ?hr ?hp (fun _ hk=>hk) trivial (Below.refl _ _) (Nat.le_refl _) (by simp) ?_;(case hd=>rfl);(case hg=>rfl);(case hr=>first|(go_simp;done)|(go_simp;rfl));(case hp=>exact(Reps.none _ _));intro aT w3 af hb hg_ hnew_;clear hg_ hnew_;(first|rw[←av.out] at af|(simp only[Int.reduceToNat] at af;rw[←av.out] at af));have aJ:=zz (Kd.qY af (qF zb));replace HB:=zz (zv zb hb);clear hb af)))
 go_loopg[5,6] k (fun kq v5 v6 w'=>∃(aE:List ByteArray) (aa:Int),v6= .int .i64 aa∧qC (spec_l10Refs.l0 kq l0 l1 aE aa=some r)∧qC (kq≤k)∧qC (Kd.R Kd.string 9 w' w.heap.size (fun _=>True) v5 aE)∧qC (Below w.heap.size w w'))
 case atStart=>exact⟨(aR),(0),zr,H',⟨Nat.le_refl _⟩,⟨zR aJ.out⟩,⟨zb⟩⟩
 case round=>
  clear H'
  try clear c1
  try clear p2
  obtain⟨aE,aa,rfl,HA,aB,ac,HB⟩:=hrel
  cases gk with
  |zero=>exact absurd HA.out (by simp[spec_l10Refs.l0])
  |succ k1=>
   have H:=HA.out
   clear HA
   simp only[spec_l10Refs.l0] at H
   refine yDn H ?_ ?_<;>clear H<;>intro a9 H
   ·obtain rfl:=zi H
    go_wp2
    repeat(go_quiet (fail);try go_wp2)
    go_ret
    exact⟨_,ze,zR ac.out,zb⟩
   replace H:=yAD H
   obtain⟨ba,H⟩:=H
   replace H:=zf H
   obtain⟨bb,a7,H⟩:=H
   try dsimp only at H
   have A7:=zz a7
   clear a7
   by_cases c8:bb=true
   case neg=>
    replace c8:=Bool.eq_false_iff.mpr c8
    subst c8
    rw[if_neg (show¬(false=true) by decide)] at H
    have H':=zz H
    clear H
    have ao:0≤(aa:Int):=z2
    have ap:aa<(l1.length:Int):=z2
    obtain⟨aw,aN,ag⟩:=Kd.vA aD.out aa ao ap
    cases aN
    replace ag:=z3 HB.out ag
    replace ao:=eq_true ao
    replace ap:=eq_true ap
    go_wp2_with(first|(go_at_call 91;(with_reducible refine(spec_AddressOk.calls k1 (rdOf ByteArray.empty l1 aa) false _ A7.out).mono ?_);rintro e w' ⟨rfl,⟨nd,rfl⟩⟩;(try first|exact⟨rfl,_,World.drewN_drewN _ _ _⟩|exact⟨rfl,_,Eq.trans (World.drewN_drewN _ _ _) (congrArg (World.drewN _) (Nat.add_assoc _ _ _))⟩)))
    repeat(go_quiet (first|(go_at_call 91;(with_reducible refine(spec_AddressOk.calls k1 (rdOf ByteArray.empty l1 aa) false _ A7.out).mono ?_);rintro e w' ⟨rfl,⟨nd,rfl⟩⟩;(try first|exact⟨rfl,_,World.drewN_drewN _ _ _⟩|exact⟨rfl,_,Eq.trans (World.drewN_drewN _ _ _) (congrArg (World.drewN _) (Nat.add_assoc _ _ _))⟩)));try go_wp2_with(first|(go_at_call 91;(with_reducible refine(spec_AddressOk.calls k1 (rdOf ByteArray.empty l1 aa) false _ A7.out).mono ?_);rintro e w' ⟨rfl,⟨nd,rfl⟩⟩;(try first|exact⟨rfl,_,World.drewN_drewN _ _ _⟩|exact⟨rfl,_,Eq.trans (World.drewN_drewN _ _ _) (congrArg (World.drewN _) (Nat.add_assoc _ _ _))⟩))))
    go_roundg k1
    case measure=>have:=aB.out;omega
    case rel=>exact⟨(aE),(wrap64 (aa+1)),zr,H',⟨by have:=aB.out;omega⟩,⟨zR ac.out⟩,⟨zb⟩⟩
   subst c8
   rw[if_pos rfl] at H
   have H':=zz H
   clear H
   have ao:0≤(aa:Int):=z2
   have ap:aa<(l1.length:Int):=z2
   obtain⟨aw,aN,ag⟩:=Kd.vA aD.out aa ao ap
   cases aN
   replace ag:=z3 HB.out ag
   replace ao:=eq_true ao
   replace ap:=eq_true ap
   go_wp2_with(first|(go_at_call 91;(with_reducible refine(spec_AddressOk.calls k1 (rdOf ByteArray.empty l1 aa) true _ A7.out).mono ?_);rintro e w' ⟨rfl,⟨nd,rfl⟩⟩;(try first|exact⟨rfl,_,World.drewN_drewN _ _ _⟩|exact⟨rfl,_,Eq.trans (World.drewN_drewN _ _ _) (congrArg (World.drewN _) (Nat.add_assoc _ _ _))⟩)))
   repeat(go_quiet (first|(go_at_call 91;(with_reducible refine(spec_AddressOk.calls k1 (rdOf ByteArray.empty l1 aa) true _ A7.out).mono ?_);rintro e w' ⟨rfl,⟨nd,rfl⟩⟩;(try first|exact⟨rfl,_,World.drewN_drewN _ _ _⟩|exact⟨rfl,_,Eq.trans (World.drewN_drewN _ _ _) (congrArg (World.drewN _) (Nat.add_assoc _ _ _))⟩)));try go_wp2_with(first|(go_at_call 91;(with_reducible refine(spec_AddressOk.calls k1 (rdOf ByteArray.empty l1 aa) true _ A7.out).mono ?_);rintro e w' ⟨rfl,⟨nd,rfl⟩⟩;(try first|exact⟨rfl,_,World.drewN_drewN _ _ _⟩|exact⟨rfl,_,Eq.trans (World.drewN_drewN _ _ _) (congrArg (World.drewN _) (Nat.add_assoc _ _ _))⟩))))
   go_loopg[5,7] k1 (fun kq v5 v7 w'=>∃(ae:List ByteArray) (ab:Int),v7= .int .i64 ab∧qC (spec_l10Refs.l1 kq l0 l1 ae aa ab=some r)∧qC (kq≤k1)∧qC (Kd.R Kd.string 9 w' w.heap.size (fun _=>True) v5 ae)∧qC (Below w.heap.size w w'))
   case atStart=>exact⟨(aE),(0),zr,H',⟨Nat.le_refl _⟩,⟨zR ac.out⟩,⟨zb⟩⟩
   case round=>
    clear H'
    try clear c1
    try clear p2
    try clear q2
    try clear br
    try clear c5
    try clear a9
    try clear c6
    try clear ba
    try clear p6
    try clear c8
    try clear ag
    try clear p2
    try clear ao
    try clear ap
    obtain⟨ae,ab,rfl,HA,aH,ac,HB⟩:=hrel
    cases gk with
    |zero=>exact absurd HA.out (by simp[spec_l10Refs.l1])
    |succ k2=>
     have H:=HA.out
     clear HA
     simp only[spec_l10Refs.l1] at H
     refine yDn H ?_ ?_<;>clear H<;>intro bn H
     ·have H':=zz H
      clear H
      go_wp2
      repeat(go_quiet (fail);try go_wp2)
      go_roundg k2
      case measure=>have:=aB.out;have:=aH.out;omega
      case rel=>exact⟨(ae),(wrap64 (aa+1)),zr,H',⟨by have:=aB.out;have:=aH.out;omega⟩,⟨zR ac.out⟩,⟨zb⟩⟩
     replace H:=yAD H
     obtain⟨bf,H⟩:=H
     replace H:=yAD H
     obtain⟨bg,H⟩:=H
     replace H:=yAD H
     obtain⟨bh,H⟩:=H
     replace H:=yA H
     obtain⟨aU,H⟩:=H
     have bi:=eq_true aU
     have bj:=z1 aU
     clear aU
     replace H:=yA H
     obtain⟨aV,H⟩:=H
     have bk:=eq_true aV
     have bl:=z1 aV
     clear aV
     replace H:=zf H
     obtain⟨bc,aW,H⟩:=H
     try dsimp only at H
     have aI:=zz aW
     clear aW
     by_cases aQ:bc=true
     case neg=>
      replace aQ:=Bool.eq_false_iff.mpr aQ
      subst aQ
      rw[if_neg (show¬(false=true) by decide)] at H
      have H':=zz H
      clear H
      have bd:=yt (0≤(ab:Int))
      have be:=yt (ab<(l0.length:Int))
      obtain⟨a0,aO,aj,ak,al,am⟩:=at_T87 a6.out ab z2 z2
      cases aO
      replace aj:=z3 HB.out aj
      replace ak:=z3 HB.out ak
      replace al:=z3 HB.out al
      replace am:=z3 HB.out am
      have ax:0≤(aa:Int):=z2
      have ay:aa<(l1.length:Int):=z2
      obtain⟨aK,aP,an⟩:=Kd.vA aD.out aa ax ay
      obtain rfl:aw=aK:=(by injection aP)
      replace an:=z3 HB.out an
      replace ax:=eq_true ax
      replace ay:=eq_true ay
      go_wp2_with(first|(go_at_call 172;(with_reducible refine(spec_l10Has.calls k2 ((qA l0 ab).f2) ((rdOf ByteArray.empty l1 aa).extract 0 13) false _ aI.out).mono ?_);rintro e w' ⟨rfl,⟨nd,rfl⟩⟩;(try first|exact⟨rfl,_,World.drewN_drewN _ _ _⟩|exact⟨rfl,_,Eq.trans (World.drewN_drewN _ _ _) (congrArg (World.drewN _) (Nat.add_assoc _ _ _))⟩)))
      repeat(go_quiet (first|(go_at_call 172;(with_reducible refine(spec_l10Has.calls k2 ((qA l0 ab).f2) ((rdOf ByteArray.empty l1 aa).extract 0 13) false _ aI.out).mono ?_);rintro e w' ⟨rfl,⟨nd,rfl⟩⟩;(try first|exact⟨rfl,_,World.drewN_drewN _ _ _⟩|exact⟨rfl,_,Eq.trans (World.drewN_drewN _ _ _) (congrArg (World.drewN _) (Nat.add_assoc _ _ _))⟩)));try go_wp2_with(first|(go_at_call 172;(with_reducible refine(spec_l10Has.calls k2 ((qA l0 ab).f2) ((rdOf ByteArray.empty l1 aa).extract 0 13) false _ aI.out).mono ?_);rintro e w' ⟨rfl,⟨nd,rfl⟩⟩;(try first|exact⟨rfl,_,World.drewN_drewN _ _ _⟩|exact⟨rfl,_,Eq.trans (World.drewN_drewN _ _ _) (congrArg (World.drewN _) (Nat.add_assoc _ _ _))⟩))))
      go_roundg k2
      case measure=>have:=aB.out;have:=aH.out;omega
      case rel=>exact⟨(ae),(wrap64 (ab+1)),zr,H',⟨by have:=aB.out;have:=aH.out;omega⟩,⟨zR ac.out⟩,⟨zb⟩⟩
     subst aQ
     rw[if_pos rfl] at H
     replace H:=zf H
     obtain⟨aL,aX,H⟩:=H
     try dsimp only at H
     have aY:=zz aX
     clear aX
     have H':=zz H
     clear H
     have bd:=yt (0≤(ab:Int))
     have be:=yt (ab<(l0.length:Int))
     obtain⟨a0,aO,aj,ak,al,am⟩:=at_T87 a6.out ab z2 z2
     cases aO
     replace aj:=z3 HB.out aj
     replace ak:=z3 HB.out ak
     replace al:=z3 HB.out al
     replace am:=z3 HB.out am
     have ax:0≤(aa:Int):=z2
     have ay:aa<(l1.length:Int):=z2
     obtain⟨aK,aP,an⟩:=Kd.vA aD.out aa ax ay
     obtain rfl:aw=aK:=(by injection aP)
     replace an:=z3 HB.out an
     replace ax:=eq_true ax
     replace ay:=eq_true ay
     go_wp2_with(first|(go_at_call 172;(with_reducible refine(spec_l10Has.calls k2 ((qA l0 ab).f2) ((rdOf ByteArray.empty l1 aa).extract 0 13) true _ aI.out).mono ?_);rintro e w' ⟨rfl,⟨nd,rfl⟩⟩;(try first|exact⟨rfl,_,World.drewN_drewN _ _ _⟩|exact⟨rfl,_,Eq.trans (World.drewN_drewN _ _ _) (congrArg (World.drewN _) (Nat.add_assoc _ _ _))⟩);have ah:0≤(aa:Int):=z2;have ai:aa<(l1.length:Int):=z2;obtain⟨aA,aF,ad⟩:=Kd.vA aD.out aa ah ai;obtain rfl:aw=aA:=(by injection aF);replace ad:=z3 HB.out ad;replace ah:=eq_true ah;replace ai:=eq_true ai;obtain⟨ar,au,aG⟩:=Kd.qZ ac.out;subst aG)|(go_at_call 173;(with_reducible refine(spec_l3Add.calls k2 (fun k_=>some k_=(.slice ar ae.length au:Value).ownBlock) (.slice ar ae.length au) ae (rdOf ByteArray.empty l1 aa) aL w _ ?s1 ?s2 aY.out).mono ?_);(case s1=>repeat(first|(with_reducible first|exact HB.out|apply qX|apply qW|apply qK)|exact HB.out));(case s2=>exact Kd.R_tight rfl ac.out);rintro e a8 ⟨aZ,rfl,aC,hb,hkp⟩;have aM:=zz (Kd.vC (ok':=fun k_=>True) aC (fun k_ hk_=>trivial));replace HB:=zz (hb);clear ac;(try clear hb);(try clear hkp);(try clear aC)))
     repeat(go_quiet (first|(go_at_call 172;(with_reducible refine(spec_l10Has.calls k2 ((qA l0 ab).f2) ((rdOf ByteArray.empty l1 aa).extract 0 13) true _ aI.out).mono ?_);rintro e w' ⟨rfl,⟨nd,rfl⟩⟩;(try first|exact⟨rfl,_,World.drewN_drewN _ _ _⟩|exact⟨rfl,_,Eq.trans (World.drewN_drewN _ _ _) (congrArg (World.drewN _) (Nat.add_assoc _ _ _))⟩);have ah:0≤(aa:Int):=z2;have ai:aa<(l1.length:Int):=z2;obtain⟨aA,aF,ad⟩:=Kd.vA aD.out aa ah ai;obtain rfl:aw=aA:=(by injection aF);replace ad:=z3 HB.out ad;replace ah:=eq_true ah;replace ai:=eq_true ai;obtain⟨ar,au,aG⟩:=Kd.qZ ac.out;subst aG)|(go_at_call 173;(with_reducible refine(spec_l3Add.calls k2 (fun k_=>some k_=(.slice ar ae.length au:Value).ownBlock) (.slice ar ae.length au) ae (rdOf ByteArray.empty l1 aa) aL w _ ?s1 ?s2 aY.out).mono ?_);(case s1=>repeat(first|(with_reducible first|exact HB.out|apply qX|apply qW|apply qK)|exact HB.out));(case s2=>exact Kd.R_tight rfl ac.out);rintro e a8 ⟨aZ,rfl,aC,hb,hkp⟩;have aM:=zz (Kd.vC (ok':=fun k_=>True) aC (fun k_ hk_=>trivial));replace HB:=zz (hb);clear ac;(try clear hb);(try clear hkp);(try clear aC)));try go_wp2_with(first|(go_at_call 172;(with_reducible refine(spec_l10Has.calls k2 ((qA l0 ab).f2) ((rdOf ByteArray.empty l1 aa).extract 0 13) true _ aI.out).mono ?_);rintro e w' ⟨rfl,⟨nd,rfl⟩⟩;(try first|exact⟨rfl,_,World.drewN_drewN _ _ _⟩|exact⟨rfl,_,Eq.trans (World.drewN_drewN _ _ _) (congrArg (World.drewN _) (Nat.add_assoc _ _ _))⟩);have ah:0≤(aa:Int):=z2;have ai:aa<(l1.length:Int):=z2;obtain⟨aA,aF,ad⟩:=Kd.vA aD.out aa ah ai;obtain rfl:aw=aA:=(by injection aF);replace ad:=z3 HB.out ad;replace ah:=eq_true ah;replace ai:=eq_true ai;obtain⟨ar,au,aG⟩:=Kd.qZ ac.out;subst aG)|(go_at_call 173;(with_reducible refine(spec_l3Add.calls k2 (fun k_=>some k_=(.slice ar ae.length au:Value).ownBlock) (.slice ar ae.length au) ae (rdOf ByteArray.empty l1 aa) aL w _ ?s1 ?s2 aY.out).mono ?_);(case s1=>repeat(first|(with_reducible first|exact HB.out|apply qX|apply qW|apply qK)|exact HB.out));(case s2=>exact Kd.R_tight rfl ac.out);rintro e a8 ⟨aZ,rfl,aC,hb,hkp⟩;have aM:=zz (Kd.vC (ok':=fun k_=>True) aC (fun k_ hk_=>trivial));replace HB:=zz (hb);clear ac;(try clear hb);(try clear hkp);(try clear aC))))
     go_roundg k2
     case measure=>have:=aB.out;have:=aH.out;omega
     case rel=>exact⟨(aL),(wrap64 (aa+1)),zr,H',⟨by have:=aB.out;have:=aH.out;omega⟩,⟨zR aM.out⟩,⟨zb⟩⟩
end Go.Proofs.YtmdoobnlehkmpaaGreatDoor.Q
