import Derived.Maps.OwnOps
import Derived.Maps.Views
import Derived.Test.YtcekmnclmldmmaaGreatDoorN04
set_option linter.unusedVariables false
set_option linter.unusedSimpArgs false
namespace Go.Proofs.YtcekmnclmldmmaaGreatDoor.Q
open Go.RowKit W1 W2 W3
attribute [local go_sem] max2_int min2_int max_two min_two max_three min_three max_four min_four
attribute [local go_sem high] bl_leq bl_gtr bl_geq
set_option maxHeartbeats 8000000
set_option maxRecDepth 100000
namespace MapSet
open Go.WideMaps Go.Maps
def of:List ByteArray→DataW Unit
 |[]=> .map []
 |s::ds=>(of ds).put (.string s.data.toList) (.lit (.int .i64 1))
theorem isMap:∀ds,IsMap (of ds)
 |[]=>isMap_empty
 |_::ds=>(isMap ds).put _ _
theorem keyed:Keyed Tryz.prog 9:=string_keyed Tryz.underlying9
theorem zero(w:World):(zeroValue 3).run Tryz.prog w= .ok (.int .i64 0) w:=by kernel_rfl
theorem key(s:ByteArray)(h:s.size≤maxLen):keyOf Tryz.prog 9 (.string s)=some (.string s.data.toList):=keyOf_string_mk Tryz.underlying9 h
theorem inj{a b:ByteArray}(h:a.data.toList=b.data.toList):a=b:=by
 cases a with|mk x=>cases b with|mk y=>cases x;cases y;simp_all
def has(u:ByteArray)(ds:List ByteArray):Bool:=ds.any fun s=>decide (u.data.toList=s.data.toList)
theorem at_(u:ByteArray):∀ds,(of ds).atKey (.string u.data.toList) (.lit (.int .i64 0))= .lit (.int .i64 (if has u ds then 1 else 0))
 |[]=>rfl
 |s::ds=>by
  by_cases h:u.data.toList=s.data.toList
  ·have e:has u (s::ds)=true:=by simp[has,h]
   rw[of]
   rw[h,atKey_put_same (k:= .string s.data.toList) (isMap ds) trivial,e]
   rfl
  ·have hne:(Lit.string u.data.toList)≠ .string s.data.toList:=fun e=>h (by injection e)
   have e:has u (s::ds)=has u ds:=by rw[has,List.any_cons,decide_eq_false h];rfl
   rw[of,atKey_put_other hne,at_ u ds,e]
theorem is0{u:ByteArray}{ds:List ByteArray}{c:Int}(h:(of ds).atKey (.string u.data.toList) (.lit (.int .i64 0))= .lit (.int .i64 c)):c=if has u ds then 1 else 0:=by
 rw[at_] at h
 injection h with h
 injection h with _ h
 exact h.symm
def MS(w:World)(b:Nat)(ds:List ByteArray):Prop:=w.ownsMap Tryz.prog 9 (plainElem (H:=Unit) Tryz.prog 3) b ds.length (of ds)
theorem MS.below{w W:World}{b:Nat}{ds:List ByteArray}(h:MS w b ds)(hb:Below w.heap.size w W):MS W b ds:=
 World.ownsMap.kept (row:=none) h ⟨hb.os,hb.tape,hb.output,hb.size,fun k hk _=>hb.block k hk⟩ (by simp)
theorem grown{a W W':World}{b:Nat}(h:Below a.heap.size a W)(hg:W.grownBy W' (some b))(hb:a.heap.size≤b):Below a.heap.size a W':=
 h.grown hg h.size (fun k hk=>by cases hk;exact hb)
def put(ds:List ByteArray)(s:ByteArray):Option (List ByteArray):=if s.size≤140737488355328∧ds.length<4194304 then some (s::ds) else none
def get(ds:List ByteArray)(s:ByteArray):Option Int:=if s.size≤140737488355328 then some (if has s ds then 1 else 0) else none
section
variable {ops : Array Oper} {rest : List Oper} {o : Oper} {a : Act} {Q : Exit → Act → World → Prop} {W : World} {b : Nat} {ds : List ByteArray}
theorem make_event(hgd:o.guard=none){N:Tmp}(hd:o.dst=some N){t:TypeId}(ho:o.op= .makeMap t none)
 (h:∀g w1,W.heap.size≤g→MS w1 g []→Below W.heap.size W w1→wpList Tryz.prog ops Q rest (a.put o.dst (.map (some g))) w1):wpList Tryz.prog ops Q (o::rest) a W:=by
 refine Kd.event_run hgd (w1:=W.alloc (.map #[] 0)) (v:= .map (some W.heap.size)) ?_ (h _ _ (Nat.le_refl _) (World.ownsMap_made _ _ _ _) (vA (Below.refl _ _) _))
 unfold execOp
 simp[ho,Instr.makeMap]
theorem gate_put{t:TypeId}{m k:Tmp}{v:Operand}(_ho:o.op= .mapUpdate t (.tmp m) (.tmp k) v)(h:wpList Tryz.prog ops Q (o::rest) a W):wpList Tryz.prog ops Q (o::rest) a W:=h
theorem gate_get{t:TypeId}{m k:Tmp}(_ho:o.op= .lookup t (.tmp m) (.tmp k) false)(h:wpList Tryz.prog ops Q (o::rest) a W):wpList Tryz.prog ops Q (o::rest) a W:=h
theorem put_event(hgd:o.guard=none){m k:Tmp}(ho:o.op= .mapUpdate 136 (.tmp m) (.tmp k) (.const (.int .i64 1))){s:ByteArray}(hm:a.eval (.tmp m)= .map (some b))(hk:a.eval (.tmp k)= .string s)
 (hM:MS W b ds) {ds':List ByteArray} (hp:put ds s=some ds')
 (h:∀w1,MS w1 b ds'→W.grownBy w1 (some b)→wpList Tryz.prog ops Q rest (a.put o.dst undef) w1):wpList Tryz.prog ops Q (o::rest) a W:=by
 unfold put at hp
 split at hp
 ·rename_i hc
  obtain rfl:=Option.some.inj hp
  exact wpList_mapUpdate_own W hgd (.tmp m) (.tmp k) (.const (.int .i64 1)) 136 ho 9 3 keyed Tryz.underlying136 _ b ds.length (of ds) hm hM (by simp only[maxLen];omega) _ _ _ hk rfl (key s (Nat.le_trans hc.1 (by decide))) (.lit (.int .i64 1)) [] (plainElem_int Tryz.underlying3 (by decide)) (fun w1 h1 h2=>h w1 h1 h2)
 ·exact absurd hp (by simp)
theorem get_event(hgd:o.guard=none){m k:Tmp}(ho:o.op= .lookup 136 (.tmp m) (.tmp k) false){s:ByteArray}(hm:a.eval (.tmp m)= .map (some b))(hk:a.eval (.tmp k)= .string s)
 (hM:MS W b ds) {c:Int} (hp:get ds s=some c) (h:wpList Tryz.prog ops Q rest (a.put o.dst (.int .i64 c)) W):wpList Tryz.prog ops Q (o::rest) a W:=by
 unfold get at hp
 split at hp
 ·rename_i hc
  obtain⟨c',hrun,hat,_⟩:=World.ownsMap.lookup_int hM keyed Tryz.underlying136 Tryz.underlying3 (zero W) (key s (Nat.le_trans hc (by decide)))
  have e:=is0 hat
  obtain rfl:=Option.some.inj hp
  rw[e] at hrun
  refine Kd.event_run hgd ?_ h
  unfold execOp
  simp only[ho,hm,hk,Sem.run_bind,hrun,Result.andThen_ok]
  rfl
 ·exact absurd hp (by simp)
end
end MapSet
theorem own_strs_made(w:World)(e:Nat)(xs:List ByteArray)(hl:xs.length≤maxLen):
 Kd.R Kd.string e (w.alloc (.cells (xs.map Value.string).toArray e)) w.heap.size (fun _=>True) (.slice (some ⟨w.heap.size,0,none⟩) xs.length xs.length) xs:=by
 refine⟨fun _ _=>trivial,xs.map Value.string,⟨by simp[Kd.string,Kd.scalar],.inr ⟨w.heap.size,xs.length,(xs.map Value.string).toArray,rfl,Nat.le_refl _,heap_alloc_new w _,Nat.le_refl _,hl,by simp[Kd.string,Kd.scalar],?_⟩⟩,?_⟩
 ·simp[Kd.string,Kd.scalar]
  rw[List.take_of_length_le (by simp)]
 ·refine⟨by simp[Kd.string,Kd.scalar],fun j p hj=>?_⟩
  have hlt:j<xs.length:=(List.getElem?_eq_some_iff.1 hj).1
  have hp:xs[j]=p:=(List.getElem?_eq_some_iff.1 hj).2
  show((xs.map Value.string).drop (j*1)).take 1=[Value.string p]
  rw[Nat.mul_one,List.drop_eq_getElem_cons (by simpa using hlt)]
  simp[hp]
def strings_Split.f(a0 a1:ByteArray):Option (List ByteArray):=
 if 1≤a1.size∧a0.size<4294967281 then some (Lib.splitB a1 0 (Lib.countB a0 a1) a0) else none
theorem strings_Split.calls(a0 a1:ByteArray)(r:List ByteArray)(w:World)(hG_:GOK w)(h:strings_Split.f a0 a1=some r):
 Calls Tryz.prog 132 #[.string a0,.string a1] w fun e w'=>∃v0_:Value,e= .returned v0_∧Kd.R Kd.string 9 w' w.heap.size (fun _=>True) v0_ r∧Below w.heap.size w w':=by
 unfold strings_Split.f at h
 split at h
 ·rename_i hc
  obtain rfl:=Option.some.inj h
  obtain⟨m,hm⟩:=hG_.out
  refine(Tryz.strings_Split a0 a1 m w hc.2 hm hc.1).mono fun e w' ⟨he,hw⟩=>⟨_,he,?_,?_⟩
  ·subst hw
   have hlen:=Lib.splitB_all a1 hc.1 0 (Lib.countB a0 a1) a0 rfl
   have hle:=Lib.countB_le a1 hc.1 a0.size a0 (Nat.le_refl _)
   rw[←hlen]
   exact own_strs_made w 9 _ (by simp only[maxLen];omega)
  ·subst hw
   exact(Below.refl _ _).alloc (Nat.le_refl _) _
 ·exact absurd h (by simp)
def impl_pathOk.l0:Nat→List ByteArray→Int→Int→Option (Bool)
 |0,_,_,_=>none
 |k+1,x11,x12,x13=>if x13<x12 then(if 0≤x13 then(if x13<(x11.length:Int) then((impl_NameOk.f k (rdOf ByteArray.empty x11 x13)).bind fun t546=>(if t546=true then(impl_pathOk.l0 k x11 x12 (wrap64 (x13+1))) else(some false))) else(none)) else(none)) else(some true)
def impl_pathOk.f(k:Nat)(a0:ByteArray):Option (Bool):=(strings_Split.f a0 (⟨#[47]⟩:ByteArray)).bind fun t542=>(if(t542.length:Int)>8 then(some false) else(impl_pathOk.l0 k t542 (t542.length:Int) 0))
theorem impl_pathOk.calls(k:Nat)(a0:ByteArray)(r:Bool)(w:World)(hG_:GOK w)(h:impl_pathOk.f k a0=some r):
 Calls Tryz.prog 105 #[.string a0] w fun e w'=>e= .returned (.bool r)∧Below w.heap.size w w':=by
 have HG:=zz hG_
 clear hG_
 have HB:=zz (Below.refl w.heap.size w)
 unfold impl_pathOk.f at h
 have H:=h
 clear h
 replace HB:=HB.out
 have HW:=zz (Below.refl w.heap.size w)
 go_enter Tryz.func105,Tryz.ntmps105
 replace H:=zf H
 obtain⟨t542,A2,H⟩:=H
 try dsimp only at H
 replace A2:=zz A2
 by_cases c3:(t542.length:Int)>8
 ·rw[if_pos c3] at H
  have c3b0:=zgt c3
  have c3b1:decide (8<t542.length)=true:=z1 (by omega)
  clear c3
  go_wp2_with(fail)
  refine(strings_Split.calls _ _ _ _ (GOK.below HG.out (zv HW.out HB)) A2.out).mono ?_
  rintro e w4 ⟨vHO544,rfl,hHO544,hb⟩
  replace HB:=zv HB hb
  clear hb
  have hst:=HB
  replace HW:=zz (zv HW.out hst)
  clear hst
  replace HB:=Below.refl w4.heap.size w4
  obtain⟨AHRo5,cHRo5,rfl,hl_,hC_⟩:=Kd.R_reads hHO544
  have HRo5:=zz hC_
  have HCo5:=zz hl_
  clear hl_ hC_ hHO544
  obtain rfl:=zi H
  go_wp2_with(fail)
  go_ret
  exact⟨ze,zv HW.out HB⟩
 rw[if_neg c3] at H
 have c3b0:=zgtn c3
 have c3b1:decide (8<t542.length)=false:=z0 (by omega)
 clear c3
 go_wp2_with(fail)
 refine(strings_Split.calls _ _ _ _ (GOK.below HG.out (zv HW.out HB)) A2.out).mono ?_
 rintro e w6 ⟨vHO544,rfl,hHO544,hb⟩
 replace HB:=zv HB hb
 clear hb
 have hst:=HB
 replace HW:=zz (zv HW.out hst)
 clear hst
 replace HB:=Below.refl w6.heap.size w6
 obtain⟨AHRo7,cHRo7,rfl,hl_,hC_⟩:=Kd.R_reads hHO544
 have HRo7:=zz hC_
 have HCo7:=zz hl_
 clear hl_ hC_ hHO544
 go_wp2_with(fail)
 go_loopg[13] k (fun kq v13 w'=>∃(x13_kl8:Int),v13= .int .i64 x13_kl8∧qB (impl_pathOk.l0 kq t542 (t542.length:Int) x13_kl8=some r)∧qB (kq≤k)∧qB (Below w6.heap.size w6 w'))
 case atStart=>exact⟨(0),zr,⟨H⟩,⟨Nat.le_refl _⟩,⟨HB⟩⟩
 case round=>
  clear H HB
  obtain⟨x13_kl8,rfl,H,HKkl8,HB⟩:=hrel
  replace HB:=HB.out
  replace H:=H.out
  have HLkl8:=zz (Below.refl w6.heap.size w6)
  cases gk with
  |zero=>exact absurd H (by simp[impl_pathOk.l0])
  |succ kl8=>
   simp only[impl_pathOk.l0] at H
   by_cases c9:x13_kl8<(t542.length:Int)
   case neg=>
    rw[if_neg c9] at H
    have c9b0:=z0 c9
    clear c9
    obtain rfl:=zi H
    go_wp2_with(fail)
    go_ret
    exact⟨ze,zv HW.out HB⟩
   rw[if_pos c9] at H
   have c9b0:=z1 c9
   clear c9
   by_cases c10:0≤x13_kl8
   case neg=>exact zno H c10
   rw[if_pos c10] at H
   have c10b0:=z1 c10
   clear c10
   by_cases c11:x13_kl8<(t542.length:Int)
   case neg=>exact zno H c11
   rw[if_pos c11] at H
   have c11b0:=z1 c11
   clear c11
   have p545:0≤(x13_kl8:Int):=z2
   have q545:(x13_kl8:Int)<(t542.length:Int):=z2
   obtain⟨ad545,e545,hx545_0⟩:=Kd.vC HRo7.out x13_kl8 p545 q545
   cases e545
   replace hx545_0:=qR hx545_0
   replace p545:=eq_true p545
   replace q545:=eq_true q545
   replace H:=zf H
   obtain⟨t546,A12,H⟩:=H
   try dsimp only at H
   replace A12:=zz A12
   by_cases c13:t546=true
   ·subst c13
    rw[if_pos rfl] at H
    go_wp2_with(fail)
    refine(impl_NameOk.calls kl8 _ _ _ A12.out).mono ?_
    rintro e w14 ⟨rfl,hd⟩
    replace HB:=zv HB hd.below
    clear hd
    go_wp2_with(fail)
    go_roundg kl8
    case measure=>have:=HKkl8.out;omega
    case rel=>exact⟨(wrap64 (x13_kl8+1)),zr,⟨H⟩,⟨by have:=HKkl8.out;omega⟩,⟨zv HLkl8.out HB⟩⟩
   replace c13:=Bool.eq_false_iff.mpr c13
   subst c13
   rw[if_neg (by decide)] at H
   go_wp2_with(fail)
   refine(impl_NameOk.calls kl8 _ _ _ A12.out).mono ?_
   rintro e w15 ⟨rfl,hd⟩
   replace HB:=zv HB hd.below
   clear hd
   obtain rfl:=zi H
   go_wp2_with(fail)
   go_ret
   exact⟨ze,zv HW.out HB⟩
def bytealg_LastIndexByteString.l0:Nat→ByteArray→Int→Int→Option (Int)
 |0,_,_,_=>none
 |k+1,x0,x1,x5=>if x5≥0 then(if 0≤x5 then(if x5<(x0.size:Int) then(if(bt x0 x5)=x1 then(some x5) else(bytealg_LastIndexByteString.l0 k x0 x1 (wrap64 (x5 - 1)))) else(none)) else(none)) else(some (-1))
def bytealg_LastIndexByteString.f(k:Nat)(a0:ByteArray)(a1:Int):Option (Int):=bytealg_LastIndexByteString.l0 k a0 a1 (wrap64 ((a0.size:Int) - 1))
theorem bytealg_LastIndexByteString.calls(k:Nat)(a0:ByteArray)(a1:Int)(r:Int)(w:World)(h:bytealg_LastIndexByteString.f k a0 a1=some r):
 Calls Tryz.prog 157 #[.string a0,.int .u8 a1] w fun e w'=>e= .returned (.int .i64 r)∧qE w w':=by
 unfold bytealg_LastIndexByteString.f at h
 have H:=h
 clear h
 have H':=zz H
 clear H
 go_enter Tryz.func157,Tryz.ntmps157
 go_wp2
 go_loopg[5] k (fun kq v5 w'=>∃(x5_1:Int),v5= .int .i64 x5_1∧qB (bytealg_LastIndexByteString.l0 kq a0 a1 x5_1=some r)∧qB (kq≤k)∧qE w w')
 case atStart=>exact⟨(wrap64 ((a0.size:Int) - 1)),zr,H',⟨Nat.le_refl _⟩,by repeat(first|exact qE.refl _|apply qE.step)⟩
 case round=>
  clear H'
  try clear c1
  try clear p2
  obtain⟨x5_1,rfl,HA,HK1,⟨m1,rfl⟩⟩:=hrel
  cases gk with
  |zero=>exact absurd HA.out (by simp[bytealg_LastIndexByteString.l0])
  |succ k1=>
   have H:=HA.out
   clear HA
   simp only[bytealg_LastIndexByteString.l0] at H
   by_cases c3:x5_1≥0
   case neg=>
    rw[if_neg c3] at H
    have c3b0:=zgen c3
    clear c3
    obtain rfl:=zi H
    go_wp2
    go_ret
    exact⟨zr,by repeat(first|exact qE.refl _|apply qE.step)⟩
   rw[if_pos c3] at H
   have c3b0:=zge c3
   clear c3
   by_cases c4:0≤x5_1
   case neg=>exact zno H c4
   rw[if_pos c4] at H
   have c4b0:=z1 c4
   clear c4
   by_cases c5:x5_1<(a0.size:Int)
   case neg=>exact zno H c5
   rw[if_pos c5] at H
   have c5b0:=z1 c5
   clear c5
   by_cases c7:(bt a0 x5_1)=a1
   ·rw[if_pos c7] at H
    obtain⟨c7b0,c7b1⟩:=zq c7
    clear c7
    obtain rfl:=zi H
    have p6:0≤(x5_1:Int):=z2
    have q6:x5_1<(a0.size:Int):=z2
    have hx6:=bt_at a0 x5_1
    replace p6:=eq_true p6
    replace q6:=eq_true q6
    go_wp2
    go_ret
    exact⟨zr,by repeat(first|exact qE.refl _|apply qE.step)⟩
   rw[if_neg c7] at H
   obtain⟨c7b0,c7b1⟩:=zw c7
   have H':=zz H
   clear H
   have p6:0≤(x5_1:Int):=z2
   have q6:x5_1<(a0.size:Int):=z2
   have hx6:=bt_at a0 x5_1
   replace p6:=eq_true p6
   replace q6:=eq_true q6
   go_wp2
   go_roundg k1
   case measure=>have:=HK1.out;omega
   case rel=>exact⟨(wrap64 (x5_1 - 1)),zr,H',⟨by have:=HK1.out;omega⟩,by repeat(first|exact qE.refl _|apply qE.step)⟩
def strings_LastIndexByte.f(k:Nat)(a0:ByteArray)(a1:Int):Option (Int):=(bytealg_LastIndexByteString.f k a0 a1).bind fun t547=>(some t547)
theorem strings_LastIndexByte.calls(k:Nat)(a0:ByteArray)(a1:Int)(r:Int)(w:World)(h:strings_LastIndexByte.f k a0 a1=some r):
 Calls Tryz.prog 133 #[.string a0,.int .u8 a1] w fun e w'=>e= .returned (.int .i64 r)∧qE w w':=by
 unfold strings_LastIndexByte.f at h
 have H:=h
 clear h
 replace H:=zf H
 obtain⟨t547,A30,H⟩:=H
 try dsimp only at H
 have A3:=zz A30
 clear A30
 obtain rfl:=zi H
 go_enter Tryz.func133,Tryz.ntmps133
 go_wp2_with(first|(refine zL 157 7 Tryz.func157 #[.string a0,.int .u8 a1] ?_;(with_reducible refine(bytealg_LastIndexByteString.calls k a0 a1 t547 _ A3.out).mono ?_);rintro e w' ⟨rfl,⟨nd,rfl⟩⟩;refine⟨_,rfl,?_⟩))
 go_ret
 exact⟨zr,by repeat(first|exact qE.refl _|apply qE.step)⟩
def impl_upper.f(k:Nat)(a0:ByteArray):Option (ByteArray×Bool):=(strings_LastIndexByte.f k a0 47).bind fun t548=>(if t548<0 then(some ((⟨#[]⟩:ByteArray),false)) else(if 0≤t548 then(if t548≤(a0.size:Int) then(some (a0.extract 0 (t548:Int).toNat,true)) else(none)) else(none)))
theorem impl_upper.calls(k:Nat)(a0:ByteArray)(r1:ByteArray)(r2:Bool)(w:World)(h:impl_upper.f k a0=some (r1,r2)):
 Calls Tryz.prog 106 #[.string a0] w fun e w'=>e= .returned (.tuple #[.string r1,.bool r2])∧qE w w':=by
 unfold impl_upper.f at h
 have H:=h
 clear h
 replace H:=zf H
 obtain⟨t548,A20,H⟩:=H
 try dsimp only at H
 have A2:=zz A20
 clear A20
 by_cases c3:t548<0
 ·rw[if_pos c3] at H
  have c3b0:=z1 c3
  clear c3
  simp only[Option.some.injEq,Prod.mk.injEq] at H
  obtain⟨rfl,rfl⟩:=H
  go_enter Tryz.func106,Tryz.ntmps106
  go_wp2_with(first|(refine zL 133 6 Tryz.func133 #[.string a0,.int .u8 47] ?_;(with_reducible refine(strings_LastIndexByte.calls k a0 47 t548 _ A2.out).mono ?_);rintro e w' ⟨rfl,⟨nd,rfl⟩⟩;refine⟨_,rfl,?_⟩))
  go_ret2
  exact⟨zr,by repeat(first|exact qE.refl _|apply qE.step)⟩
 rw[if_neg c3] at H
 have c3b0:=z0 c3
 clear c3
 by_cases c4:0≤t548
 case neg=>exact zno H c4
 rw[if_pos c4] at H
 have c4b0:=eq_true c4
 have c4b1:=z1 c4
 clear c4
 by_cases c5:t548≤(a0.size:Int)
 case neg=>exact zno H c5
 rw[if_pos c5] at H
 have c5b0:=eq_true c5
 have c5b1:=z1 c5
 clear c5
 simp only[Option.some.injEq,Prod.mk.injEq] at H
 obtain⟨rfl,rfl⟩:=H
 go_enter Tryz.func106,Tryz.ntmps106
 go_wp2_with(first|(refine zL 133 6 Tryz.func133 #[.string a0,.int .u8 47] ?_;(with_reducible refine(strings_LastIndexByte.calls k a0 47 t548 _ A2.out).mono ?_);rintro e w' ⟨rfl,⟨nd,rfl⟩⟩;refine⟨_,rfl,?_⟩))
 go_ret2
 exact⟨zr,by repeat(first|exact qE.refl _|apply qE.step)⟩
mutual
def impl_TreeOk.l0:Nat→List (S96)→List ByteArray→List (S96)→Int→Int→Option (Bool)
 |0,_,_,_,_,_=>none
 |k+1,x0,x3,x14,x15,x16=>if x16<x15 then(if 0≤x16 then(if x16<(x14.length:Int) then((impl_pathOk.f k ((qA x14 x16).f0)).bind fun t551=>(if t551=true then(if x16>0 then(if 0≤(wrap64 (x16 - 1)) then(if(wrap64 (x16 - 1))<(x0.length:Int) then(if((Op.bytesLess (((qA x0 (wrap64 (x16 - 1))).f0).toList) (((qA x14 x16).f0).toList))=true) then(if(qA x14 x16).f3=true then(if((qA x14 x16).f1)=2 then(if((qA x14 x16).f1)=1 then(if((qA x14 x16).f2).toList=([]:List UInt8) then((MapSet.put x3 ((qA x14 x16).f0)).bind fun t553=>(impl_TreeOk.l0 k x0 t553 x14 x15 (wrap64 (x16+1)))) else(some false)) else(if(((qA x14 x16).f2).size:Int)>20000 then(some false) else(impl_TreeOk.l0 k x0 x3 x14 x15 (wrap64 (x16+1))))) else(some false)) else(if((qA x14 x16).f1)=1 then(if((qA x14 x16).f2).toList=([]:List UInt8) then((MapSet.put x3 ((qA x14 x16).f0)).bind fun t554=>(impl_TreeOk.l0 k x0 t554 x14 x15 (wrap64 (x16+1)))) else(some false)) else(if((qA x14 x16).f1)=2 then(if(((qA x14 x16).f2).size:Int)>20000 then(some false) else(impl_TreeOk.l0 k x0 x3 x14 x15 (wrap64 (x16+1)))) else(if((qA x14 x16).f1)=3 then(if(((qA x14 x16).f2).size:Int)<1 then(some false) else(if(((qA x14 x16).f2).size:Int)>20000 then(some false) else(impl_TreeOk.l0 k x0 x3 x14 x15 (wrap64 (x16+1))))) else(some false))))) else(some false)) else(none)) else(none)) else(if(qA x14 x16).f3=true then(if((qA x14 x16).f1)=2 then(if((qA x14 x16).f1)=1 then(if((qA x14 x16).f2).toList=([]:List UInt8) then((MapSet.put x3 ((qA x14 x16).f0)).bind fun t555=>(impl_TreeOk.l0 k x0 t555 x14 x15 (wrap64 (x16+1)))) else(some false)) else(if(((qA x14 x16).f2).size:Int)>20000 then(some false) else(impl_TreeOk.l0 k x0 x3 x14 x15 (wrap64 (x16+1))))) else(some false)) else(if((qA x14 x16).f1)=1 then(if((qA x14 x16).f2).toList=([]:List UInt8) then((MapSet.put x3 ((qA x14 x16).f0)).bind fun t556=>(impl_TreeOk.l0 k x0 t556 x14 x15 (wrap64 (x16+1)))) else(some false)) else(if((qA x14 x16).f1)=2 then(if(((qA x14 x16).f2).size:Int)>20000 then(some false) else(impl_TreeOk.l0 k x0 x3 x14 x15 (wrap64 (x16+1)))) else(if((qA x14 x16).f1)=3 then(if(((qA x14 x16).f2).size:Int)<1 then(some false) else(if(((qA x14 x16).f2).size:Int)>20000 then(some false) else(impl_TreeOk.l0 k x0 x3 x14 x15 (wrap64 (x16+1))))) else(some false)))))) else(some false))) else(none)) else(none)) else(impl_TreeOk.l1 k x3 x0 (x0.length:Int) 0)
def impl_TreeOk.l1:Nat→List ByteArray→List (S96)→Int→Int→Option (Bool)
 |0,_,_,_,_=>none
 |k+1,x3,x78,x79,x80=>if x80<x79 then(if 0≤x80 then(if x80<(x78.length:Int) then((impl_upper.f k ((qA x78 x80).f0)).bind fun bt559=>(if bt559.2=true then((MapSet.get x3 bt559.1).bind fun t561=>(if t561=0 then(some false) else(impl_TreeOk.l1 k x3 x78 x79 (wrap64 (x80+1))))) else(impl_TreeOk.l1 k x3 x78 x79 (wrap64 (x80+1))))) else(none)) else(none)) else(some true)
end
def impl_TreeOk.f(k:Nat)(l0:List (S96)):Option (Bool):=if(l0.length:Int)>500 then(some false) else(impl_TreeOk.l0 k l0 ([]:List ByteArray) l0 (l0.length:Int) 0)
theorem impl_TreeOk.calls(k:Nat)(A0:Option Addr)(c0:Nat)(l0:List (S96))(r:Bool)(w:World)(hr0:Kd.C k96 w A0 l0.length l0)(hc0:l0.length≤c0)(hG_:GOK w)(h:impl_TreeOk.f k l0=some r):
 Calls Tryz.prog 66 #[.slice A0 l0.length c0] w fun e w'=>e= .returned (.bool r)∧Below w.heap.size w w':=by
 have hu96:=Tryz.underlying96
 have HG:=zz hG_
 clear hG_
 have HR0:=zz hr0
 have HC0:=zz hc0
 clear hr0 hc0
 have HB:=zz (Below.refl w.heap.size w)
 unfold impl_TreeOk.f at h
 have H:=h
 clear h
 replace HB:=HB.out
 have HW:=zz (Below.refl w.heap.size w)
 go_enter Tryz.func66,Tryz.ntmps66
 by_cases c2:(l0.length:Int)>500
 ·rw[if_pos c2] at H
  have c2b0:=zgt c2
  have c2b1:decide (500<l0.length)=true:=z1 (by omega)
  clear c2
  obtain rfl:=zi H
  go_wp2_with(fail)
  go_ret
  exact⟨ze,zv HW.out HB⟩
 rw[if_neg c2] at H
 have c2b0:=zgtn c2
 have c2b1:decide (500<l0.length)=false:=z0 (by omega)
 clear c2
 go_wp2_with(first|(refine zN 13 ?_;refine MapSet.make_event ?hg (N:=13) ?hd (t:=136) ?ho ?_;(case hd=>rfl);(case hg=>rfl);(case ho=>rfl);intro bm wm hbm hms hb;have HBM:=zz (Nat.le_trans (qG HB) hbm);have HM:=zz hms;have HLm:=zz (Below.refl wm.heap.size wm);replace HB:=zv HB hb;clear hb hbm hms))
 go_loopg[16] k (fun kq v16 w'=>∃(x3_kl3:List ByteArray) (x16_kl3:Int),v16= .int .i64 x16_kl3∧qB (impl_TreeOk.l0 kq l0 x3_kl3 l0 (l0.length:Int) x16_kl3=some r)∧qB (kq≤k)∧qB (Below w.heap.size w w')∧qB (MapSet.MS w' bm x3_kl3))
 case atStart=>exact⟨([]:List ByteArray),(0),zr,⟨H⟩,⟨Nat.le_refl _⟩,⟨HB⟩,HM⟩
 case round=>
  clear H HB
  try clear HM
  obtain⟨x3_kl3,x16_kl3,rfl,H,HKkl3,HB,HM_⟩:=hrel
  have HM:=HM_
  clear HM_
  replace HB:=HB.out
  replace H:=H.out
  rename World=>w
  have HLkl3:=zz HB
  replace HW:=zz (zv HW.out HB)
  replace HR0:=zz (Kd.qC HR0.out HB)
  have HLm:=zz (Below.refl w.heap.size w)
  replace HB:=Below.refl w.heap.size w
  cases gk with
  |zero=>exact absurd H (by simp[impl_TreeOk.l0])
  |succ kl3=>
   simp only[impl_TreeOk.l0] at H
   by_cases c4:x16_kl3<(l0.length:Int)
   ·rw[if_pos c4] at H
    have c4b0:=z1 c4
    clear c4
    by_cases c5:0≤x16_kl3
    case neg=>exact zno H c5
    rw[if_pos c5] at H
    have c5b0:=z1 c5
    clear c5
    by_cases c6:x16_kl3<(l0.length:Int)
    case neg=>exact zno H c6
    rw[if_pos c6] at H
    have c6b0:=z1 c6
    clear c6
    have p549:0≤(x16_kl3:Int):=z2
    have q549:(x16_kl3:Int)<(l0.length:Int):=z2
    obtain⟨ad549,e549,hx549_0,hx549_1,hx549_2,hx549_3⟩:=at_T96 HR0.out x16_kl3 p549 q549
    cases e549
    replace hx549_0:=qR hx549_0
    replace hx549_1:=qR hx549_1
    replace hx549_2:=qR hx549_2
    replace hx549_3:=qR hx549_3
    replace p549:=eq_true p549
    replace q549:=eq_true q549
    go_wp2_with(first|(refine zN 5 ?_;(try(refine z4 ?_;dsimp only));refine zX 5 96 #[.string (⟨#[]⟩:ByteArray),.int .i64 0,.string (⟨#[]⟩:ByteArray),.bool false] ?_;intro gb550 hg w7 hbox hb;have hge:w.heap.size≤gb550:=(by rw[hg];exact qG HB);clear hg;have hst:Below w.heap.size w ((((w7.setCell ⟨gb550,0,none⟩ (.string ((qA l0 x16_kl3).f0))).setCell ⟨gb550,1,none⟩ (.int .i64 ((qA l0 x16_kl3).f1))).setCell ⟨gb550,2,none⟩ (.string ((qA l0 x16_kl3).f2))).setCell ⟨gb550,3,none⟩ (.bool ((qA l0 x16_kl3).f3))):=(qM (qM (qM (qM (zv HB hb) hge) hge) hge) hge);have hbx:((((w7.setCell ⟨gb550,0,none⟩ (.string ((qA l0 x16_kl3).f0))).setCell ⟨gb550,1,none⟩ (.int .i64 ((qA l0 x16_kl3).f1))).setCell ⟨gb550,2,none⟩ (.string ((qA l0 x16_kl3).f2))).setCell ⟨gb550,3,none⟩ (.bool ((qA l0 x16_kl3).f3))).heap[gb550]?=some (.cells #[.string ((qA l0 x16_kl3).f0),.int .i64 ((qA l0 x16_kl3).f1),.string ((qA l0 x16_kl3).f2),.bool ((qA l0 x16_kl3).f3)] 96 (0,0)):=(qP (cs:= #[.string ((qA l0 x16_kl3).f0),.int .i64 ((qA l0 x16_kl3).f1),.string ((qA l0 x16_kl3).f2),.bool false]) (qP (cs:= #[.string ((qA l0 x16_kl3).f0),.int .i64 ((qA l0 x16_kl3).f1),.string (⟨#[]⟩:ByteArray),.bool false]) (qP (cs:= #[.string ((qA l0 x16_kl3).f0),.int .i64 0,.string (⟨#[]⟩:ByteArray),.bool false]) (qP (cs:= #[.string (⟨#[]⟩:ByteArray),.int .i64 0,.string (⟨#[]⟩:ByteArray),.bool false]) hbox 0 _ rfl) 1 _ rfl) 2 _ rfl) 3 _ rfl);obtain⟨hs550_0,hs550_1,hs550_2,hs550_3,hf550_0,hf550_1,hf550_2,hf550_3⟩:=zc4 hbox)|((with_reducible refine qY (t:=96) (p:=5) rfl ?_);(try(refine z4 ?_;dsimp only));refine qV (t:=96) (p:=5) (v:=?vo_w8) (w1:=((((w7.setCell ⟨gb550,0,none⟩ (.string ((qA l0 x16_kl3).f0))).setCell ⟨gb550,1,none⟩ (.int .i64 ((qA l0 x16_kl3).f1))).setCell ⟨gb550,2,none⟩ (.string ((qA l0 x16_kl3).f2))).setCell ⟨gb550,3,none⟩ (.bool ((qA l0 x16_kl3).f3)))) ?hg ?ho ?hn ?hr ?_;(case ho=>rfl);(case hg=>rfl);(case hn=>rfl);(case hr=>first|(go_simp;done)|(go_simp;rfl));intro w8 hw;replace hst:=hst;rw[←hw] at hst hbx;clear hw hb hbox hge HB hs550_0 hf550_0 hs550_1 hf550_1 hs550_2 hf550_2 hs550_3 hf550_3;replace HW:=zz (zv HW.out hst);replace HLm:=zz (zv HLm.out hst);replace HLkl3:=zz (zv HLkl3.out hst);replace HR0:=zz (Kd.qC HR0.out hst);replace hx549_0:=qH hx549_0 hst;replace hx549_1:=qH hx549_1 hst;replace hx549_2:=qH hx549_2 hst;replace hx549_3:=qH hx549_3 hst;obtain⟨hbx550_0,hbx550_1,hbx550_2,hbx550_3⟩:=zx4 hbx;have HB:=Below.refl w8.heap.size w8;clear hbx hst))
    try simp only[Act.put,List.setIfInBounds_toArray,List.set_cons_zero,List.set_cons_succ]
    refine vB (C:=fun W_=>Below w8.heap.size w8 W_) zk zk (qQ HB) ?_
    replace H:=zf H
    obtain⟨t551,A9,H⟩:=H
    try dsimp only at H
    replace A9:=zz A9
    by_cases c10:t551=true
    case neg=>
     replace c10:=Bool.eq_false_iff.mpr c10
     subst c10
     rw[if_neg (by decide)] at H
     obtain rfl:=zi H
     repeat(first|go_big_quiet_skip|(go_big_quiet_want;go_big_quiet_op;first|go_big_quiet_on|(with_reducible apply Exists.intro;refine⟨fun W hW=>?_,?_⟩;(first|with_reducible rfl|(go_at_call 105;exact callB (impl_pathOk.calls kl3 _ _ _ (GOK.below HG.out (zv HW.out hW)) A9.out) hW)|(go_simp;with_reducible rfl));go_big_quiet_on)))
     clear HB
     refine zW fun w75 (HB:Below w8.heap.size w8 w75)=>?_
     go_wp2_with(fail)
     go_ret
     exact⟨ze,zv HW.out HB⟩
    subst c10
    rw[if_pos rfl] at H
    by_cases c11:x16_kl3>0
    case neg=>
     rw[if_neg c11] at H
     have c11b0:=zgtn c11
     clear c11
     by_cases c46:(qA l0 x16_kl3).f3=true
     ·rw[if_pos c46] at H
      have c46b0:(qA l0 x16_kl3).f3=true:=c46
      clear c46
      by_cases c47:((qA l0 x16_kl3).f1)=2
      case neg=>
       rw[if_neg c47] at H
       obtain⟨c47b0,c47b1⟩:=zw c47
       obtain rfl:=zi H
       repeat(first|go_big_quiet_skip|(go_big_quiet_want;go_big_quiet_op;first|go_big_quiet_on|(with_reducible apply Exists.intro;refine⟨fun W hW=>?_,?_⟩;(first|with_reducible rfl|(go_at_call 105;exact callB (impl_pathOk.calls kl3 _ _ _ (GOK.below HG.out (zv HW.out hW)) A9.out) hW)|(go_simp;with_reducible rfl));go_big_quiet_on)))
       clear HB
       refine zW fun w57 (HB:Below w8.heap.size w8 w57)=>?_
       go_wp2_with(fail)
       go_ret
       exact⟨ze,zv HW.out HB⟩
      rw[if_pos c47] at H
      obtain⟨c47b0,c47b1⟩:=zq c47
      clear c47
      by_cases c48:((qA l0 x16_kl3).f1)=1
      case neg=>
       rw[if_neg c48] at H
       obtain⟨c48b0,c48b1⟩:=zw c48
       by_cases c54:(((qA l0 x16_kl3).f2).size:Int)>20000
       ·rw[if_pos c54] at H
        have c54b0:=zgt c54
        have c54b1:decide (20000<((qA l0 x16_kl3).f2).size)=true:=z1 (by omega)
        clear c54
        obtain rfl:=zi H
        repeat(first|go_big_quiet_skip|(go_big_quiet_want;go_big_quiet_op;first|go_big_quiet_on|(with_reducible apply Exists.intro;refine⟨fun W hW=>?_,?_⟩;(first|with_reducible rfl|(go_at_call 105;exact callB (impl_pathOk.calls kl3 _ _ _ (GOK.below HG.out (zv HW.out hW)) A9.out) hW)|(go_simp;with_reducible rfl));go_big_quiet_on)))
        clear HB
        refine zW fun w55 (HB:Below w8.heap.size w8 w55)=>?_
        go_wp2_with(fail)
        go_ret
        exact⟨ze,zv HW.out HB⟩
       rw[if_neg c54] at H
       have c54b0:=zgtn c54
       have c54b1:decide (20000<((qA l0 x16_kl3).f2).size)=false:=z0 (by omega)
       clear c54
       repeat(first|go_big_quiet_skip|(go_big_quiet_want;go_big_quiet_op;first|go_big_quiet_on|(with_reducible apply Exists.intro;refine⟨fun W hW=>?_,?_⟩;(first|with_reducible rfl|(go_at_call 105;exact callB (impl_pathOk.calls kl3 _ _ _ (GOK.below HG.out (zv HW.out hW)) A9.out) hW)|(go_simp;with_reducible rfl));go_big_quiet_on)))
       clear HB
       refine zW fun w56 (HB:Below w8.heap.size w8 w56)=>?_
       go_wp2_with(fail)
       go_roundg kl3
       case measure=>have:=HKkl3.out;omega
       case rel=>exact⟨(x3_kl3),(wrap64 (x16_kl3+1)),zr,⟨H⟩,⟨by have:=HKkl3.out;omega⟩,⟨zv HLkl3.out HB⟩,⟨HM.out.below (zv HLm.out HB)⟩⟩
      rw[if_pos c48] at H
      obtain⟨c48b0,c48b1⟩:=zq c48
      clear c48
      by_cases c49:((qA l0 x16_kl3).f2).toList=([]:List UInt8)
      case neg=>
       rw[if_neg c49] at H
       obtain⟨c49b0,c49b1⟩:=zw c49
       obtain rfl:=zi H
       repeat(first|go_big_quiet_skip|(go_big_quiet_want;go_big_quiet_op;first|go_big_quiet_on|(with_reducible apply Exists.intro;refine⟨fun W hW=>?_,?_⟩;(first|with_reducible rfl|(go_at_call 105;exact callB (impl_pathOk.calls kl3 _ _ _ (GOK.below HG.out (zv HW.out hW)) A9.out) hW)|(go_simp;with_reducible rfl));go_big_quiet_on)))
       clear HB
       refine zW fun w53 (HB:Below w8.heap.size w8 w53)=>?_
       go_wp2_with(fail)
       go_ret
       exact⟨ze,zv HW.out HB⟩
      rw[if_pos c49] at H
      obtain⟨c49b0,c49b1⟩:=zq c49
      clear c49
      replace H:=zf H
      obtain⟨t555,A50,H⟩:=H
      try dsimp only at H
      replace A50:=zz A50
      repeat(first|go_big_quiet_skip|(go_big_quiet_want;go_big_quiet_op;first|go_big_quiet_on|(with_reducible apply Exists.intro;refine⟨fun W hW=>?_,?_⟩;(first|with_reducible rfl|(go_at_call 105;exact callB (impl_pathOk.calls kl3 _ _ _ (GOK.below HG.out (zv HW.out hW)) A9.out) hW)|(go_simp;with_reducible rfl));go_big_quiet_on)))
      clear HB
      refine zW fun w51 (HB:Below w8.heap.size w8 w51)=>?_
      go_wp2_with(first|((with_reducible refine MapSet.gate_put (t:=136) (m:=56) (k:=58) rfl ?_);refine MapSet.put_event rfl rfl rfl rfl (HM.out.below (zv HLm.out HB)) A50.out ?_;intro w52 hms hg;have n1_:=zz hms;have n2_:=zz (MapSet.grown (zv HLkl3.out HB) hg HBM.out);have n3_:=zz (MapSet.grown (zv HW.out HB) hg HBM.out);clear HM HB HLm HW HLkl3 hms hg;have HM:=n1_;have HLkl3:=n2_;have HW:=n3_;have HB:=Below.refl w52.heap.size w52;have HLm:=zz (Below.refl w52.heap.size w52);clear n1_ n2_ n3_))
      go_roundg kl3
      case measure=>have:=HKkl3.out;omega
      case rel=>exact⟨(t555),(wrap64 (x16_kl3+1)),zr,⟨H⟩,⟨by have:=HKkl3.out;omega⟩,⟨zv HLkl3.out HB⟩,⟨HM.out.below (zv HLm.out HB)⟩⟩
     rw[if_neg c46] at H
     have c46b0:(qA l0 x16_kl3).f3=false:=by simpa using c46
     clear c46
     by_cases c58:((qA l0 x16_kl3).f1)=1
     case neg=>
      rw[if_neg c58] at H
      obtain⟨c58b0,c58b1⟩:=zw c58
      by_cases c64:((qA l0 x16_kl3).f1)=2
      case neg=>
       rw[if_neg c64] at H
       obtain⟨c64b0,c64b1⟩:=zw c64
       by_cases c68:((qA l0 x16_kl3).f1)=3
       case neg=>
        rw[if_neg c68] at H
        obtain⟨c68b0,c68b1⟩:=zw c68
        obtain rfl:=zi H
        repeat(first|go_big_quiet_skip|(go_big_quiet_want;go_big_quiet_op;first|go_big_quiet_on|(with_reducible apply Exists.intro;refine⟨fun W hW=>?_,?_⟩;(first|with_reducible rfl|(go_at_call 105;exact callB (impl_pathOk.calls kl3 _ _ _ (GOK.below HG.out (zv HW.out hW)) A9.out) hW)|(go_simp;with_reducible rfl));go_big_quiet_on)))
        clear HB
        refine zW fun w74 (HB:Below w8.heap.size w8 w74)=>?_
        go_wp2_with(fail)
        go_ret
        exact⟨ze,zv HW.out HB⟩
       rw[if_pos c68] at H
       obtain⟨c68b0,c68b1⟩:=zq c68
       clear c68
       by_cases c69:(((qA l0 x16_kl3).f2).size:Int)<1
       ·rw[if_pos c69] at H
        have c69b0:=z1 c69
        have c69b1:decide (((qA l0 x16_kl3).f2).size<1)=true:=z1 (by omega)
        clear c69
        obtain rfl:=zi H
        repeat(first|go_big_quiet_skip|(go_big_quiet_want;go_big_quiet_op;first|go_big_quiet_on|(with_reducible apply Exists.intro;refine⟨fun W hW=>?_,?_⟩;(first|with_reducible rfl|(go_at_call 105;exact callB (impl_pathOk.calls kl3 _ _ _ (GOK.below HG.out (zv HW.out hW)) A9.out) hW)|(go_simp;with_reducible rfl));go_big_quiet_on)))
        clear HB
        refine zW fun w70 (HB:Below w8.heap.size w8 w70)=>?_
        go_wp2_with(fail)
        go_ret
        exact⟨ze,zv HW.out HB⟩
       rw[if_neg c69] at H
       have c69b0:=z0 c69
       have c69b1:decide (((qA l0 x16_kl3).f2).size<1)=false:=z0 (by omega)
       clear c69
       by_cases c71:(((qA l0 x16_kl3).f2).size:Int)>20000
       ·rw[if_pos c71] at H
        have c71b0:=zgt c71
        have c71b1:decide (20000<((qA l0 x16_kl3).f2).size)=true:=z1 (by omega)
        clear c71
        obtain rfl:=zi H
        repeat(first|go_big_quiet_skip|(go_big_quiet_want;go_big_quiet_op;first|go_big_quiet_on|(with_reducible apply Exists.intro;refine⟨fun W hW=>?_,?_⟩;(first|with_reducible rfl|(go_at_call 105;exact callB (impl_pathOk.calls kl3 _ _ _ (GOK.below HG.out (zv HW.out hW)) A9.out) hW)|(go_simp;with_reducible rfl));go_big_quiet_on)))
        clear HB
        refine zW fun w72 (HB:Below w8.heap.size w8 w72)=>?_
        go_wp2_with(fail)
        go_ret
        exact⟨ze,zv HW.out HB⟩
       rw[if_neg c71] at H
       have c71b0:=zgtn c71
       have c71b1:decide (20000<((qA l0 x16_kl3).f2).size)=false:=z0 (by omega)
       clear c71
       repeat(first|go_big_quiet_skip|(go_big_quiet_want;go_big_quiet_op;first|go_big_quiet_on|(with_reducible apply Exists.intro;refine⟨fun W hW=>?_,?_⟩;(first|with_reducible rfl|(go_at_call 105;exact callB (impl_pathOk.calls kl3 _ _ _ (GOK.below HG.out (zv HW.out hW)) A9.out) hW)|(go_simp;with_reducible rfl));go_big_quiet_on)))
       clear HB
       refine zW fun w73 (HB:Below w8.heap.size w8 w73)=>?_
       go_wp2_with(fail)
       go_roundg kl3
       case measure=>have:=HKkl3.out;omega
       case rel=>exact⟨(x3_kl3),(wrap64 (x16_kl3+1)),zr,⟨H⟩,⟨by have:=HKkl3.out;omega⟩,⟨zv HLkl3.out HB⟩,⟨HM.out.below (zv HLm.out HB)⟩⟩
      rw[if_pos c64] at H
      obtain⟨c64b0,c64b1⟩:=zq c64
      clear c64
      by_cases c65:(((qA l0 x16_kl3).f2).size:Int)>20000
      ·rw[if_pos c65] at H
       have c65b0:=zgt c65
       have c65b1:decide (20000<((qA l0 x16_kl3).f2).size)=true:=z1 (by omega)
       clear c65
       obtain rfl:=zi H
       repeat(first|go_big_quiet_skip|(go_big_quiet_want;go_big_quiet_op;first|go_big_quiet_on|(with_reducible apply Exists.intro;refine⟨fun W hW=>?_,?_⟩;(first|with_reducible rfl|(go_at_call 105;exact callB (impl_pathOk.calls kl3 _ _ _ (GOK.below HG.out (zv HW.out hW)) A9.out) hW)|(go_simp;with_reducible rfl));go_big_quiet_on)))
       clear HB
       refine zW fun w66 (HB:Below w8.heap.size w8 w66)=>?_
       go_wp2_with(fail)
       go_ret
       exact⟨ze,zv HW.out HB⟩
      rw[if_neg c65] at H
      have c65b0:=zgtn c65
      have c65b1:decide (20000<((qA l0 x16_kl3).f2).size)=false:=z0 (by omega)
      clear c65
      repeat(first|go_big_quiet_skip|(go_big_quiet_want;go_big_quiet_op;first|go_big_quiet_on|(with_reducible apply Exists.intro;refine⟨fun W hW=>?_,?_⟩;(first|with_reducible rfl|(go_at_call 105;exact callB (impl_pathOk.calls kl3 _ _ _ (GOK.below HG.out (zv HW.out hW)) A9.out) hW)|(go_simp;with_reducible rfl));go_big_quiet_on)))
      clear HB
      refine zW fun w67 (HB:Below w8.heap.size w8 w67)=>?_
      go_wp2_with(fail)
      go_roundg kl3
      case measure=>have:=HKkl3.out;omega
      case rel=>exact⟨(x3_kl3),(wrap64 (x16_kl3+1)),zr,⟨H⟩,⟨by have:=HKkl3.out;omega⟩,⟨zv HLkl3.out HB⟩,⟨HM.out.below (zv HLm.out HB)⟩⟩
     rw[if_pos c58] at H
     obtain⟨c58b0,c58b1⟩:=zq c58
     clear c58
     by_cases c59:((qA l0 x16_kl3).f2).toList=([]:List UInt8)
     case neg=>
      rw[if_neg c59] at H
      obtain⟨c59b0,c59b1⟩:=zw c59
      obtain rfl:=zi H
      repeat(first|go_big_quiet_skip|(go_big_quiet_want;go_big_quiet_op;first|go_big_quiet_on|(with_reducible apply Exists.intro;refine⟨fun W hW=>?_,?_⟩;(first|with_reducible rfl|(go_at_call 105;exact callB (impl_pathOk.calls kl3 _ _ _ (GOK.below HG.out (zv HW.out hW)) A9.out) hW)|(go_simp;with_reducible rfl));go_big_quiet_on)))
      clear HB
      refine zW fun w63 (HB:Below w8.heap.size w8 w63)=>?_
      go_wp2_with(fail)
      go_ret
      exact⟨ze,zv HW.out HB⟩
     rw[if_pos c59] at H
     obtain⟨c59b0,c59b1⟩:=zq c59
     clear c59
     replace H:=zf H
     obtain⟨t556,A60,H⟩:=H
     try dsimp only at H
     replace A60:=zz A60
     repeat(first|go_big_quiet_skip|(go_big_quiet_want;go_big_quiet_op;first|go_big_quiet_on|(with_reducible apply Exists.intro;refine⟨fun W hW=>?_,?_⟩;(first|with_reducible rfl|(go_at_call 105;exact callB (impl_pathOk.calls kl3 _ _ _ (GOK.below HG.out (zv HW.out hW)) A9.out) hW)|(go_simp;with_reducible rfl));go_big_quiet_on)))
     clear HB
     refine zW fun w61 (HB:Below w8.heap.size w8 w61)=>?_
     go_wp2_with(first|((with_reducible refine MapSet.gate_put (t:=136) (m:=56) (k:=58) rfl ?_);refine MapSet.put_event rfl rfl rfl rfl (HM.out.below (zv HLm.out HB)) A60.out ?_;intro w62 hms hg;have n1_:=zz hms;have n2_:=zz (MapSet.grown (zv HLkl3.out HB) hg HBM.out);have n3_:=zz (MapSet.grown (zv HW.out HB) hg HBM.out);clear HM HB HLm HW HLkl3 hms hg;have HM:=n1_;have HLkl3:=n2_;have HW:=n3_;have HB:=Below.refl w62.heap.size w62;have HLm:=zz (Below.refl w62.heap.size w62);clear n1_ n2_ n3_))
     go_roundg kl3
     case measure=>have:=HKkl3.out;omega
     case rel=>exact⟨(t556),(wrap64 (x16_kl3+1)),zr,⟨H⟩,⟨by have:=HKkl3.out;omega⟩,⟨zv HLkl3.out HB⟩,⟨HM.out.below (zv HLm.out HB)⟩⟩
    rw[if_pos c11] at H
    have c11b0:=zgt c11
    clear c11
    obtain⟨ji12,hji12⟩:∃j_:Int,(wrap64 (x16_kl3 - 1))=j_:=⟨_,rfl⟩
    (first|rw[hji12] at H|simp only[hji12] at H)
    have hji12w:(IntKind.i64.wrap (x16_kl3 - 1))=ji12:=(i64_w _).trans hji12
    (try rw[hji12] at A9)
    by_cases c13:0≤(ji12)
    case neg=>exact zno H c13
    rw[if_pos c13] at H
    have c13b0:=z1 c13
    clear c13
    by_cases c14:(ji12)<(l0.length:Int)
    case neg=>exact zno H c14
    rw[if_pos c14] at H
    have c14b0:=z1 c14
    clear c14
    have p552:0≤((ji12):Int):=z2
    have q552:((ji12):Int)<(l0.length:Int):=z2
    obtain⟨ad552,e552,hx552_0,hx552_1,hx552_2,hx552_3⟩:=at_T96 HR0.out (ji12) p552 q552
    obtain rfl:ad549=ad552:=(by injection e552)
    replace hx552_0:=qR hx552_0
    replace hx552_1:=qR hx552_1
    replace hx552_2:=qR hx552_2
    replace hx552_3:=qR hx552_3
    replace p552:=eq_true p552
    replace q552:=eq_true q552
    by_cases c15:((Op.bytesLess (((qA l0 (ji12)).f0).toList) (((qA l0 x16_kl3).f0).toList))=true)
    case neg=>
     rw[if_neg c15] at H
     have c15b0:(Op.bytesLess (((qA l0 (ji12)).f0).toList) (((qA l0 x16_kl3).f0).toList))=false:=by simpa using c15
     clear c15
     obtain rfl:=zi H
     repeat(first|go_big_quiet_skip|(go_big_quiet_want;go_big_quiet_op;first|go_big_quiet_on|(with_reducible apply Exists.intro;refine⟨fun W hW=>?_,?_⟩;(first|with_reducible rfl|(go_at_call 105;exact callB (impl_pathOk.calls kl3 _ _ _ (GOK.below HG.out (zv HW.out hW)) A9.out) hW)|(go_simp;with_reducible rfl));go_big_quiet_on)))
     clear HB
     refine zW fun w45 (HB:Below w8.heap.size w8 w45)=>?_
     go_wp2_with(fail)
     go_ret
     exact⟨ze,zv HW.out HB⟩
    rw[if_pos c15] at H
    have c15b0:(Op.bytesLess (((qA l0 (ji12)).f0).toList) (((qA l0 x16_kl3).f0).toList))=true:=c15
    clear c15
    by_cases c16:(qA l0 x16_kl3).f3=true
    ·rw[if_pos c16] at H
     have c16b0:(qA l0 x16_kl3).f3=true:=c16
     clear c16
     by_cases c17:((qA l0 x16_kl3).f1)=2
     case neg=>
      rw[if_neg c17] at H
      obtain⟨c17b0,c17b1⟩:=zw c17
      obtain rfl:=zi H
      repeat(first|go_big_quiet_skip|(go_big_quiet_want;go_big_quiet_op;first|go_big_quiet_on|(with_reducible apply Exists.intro;refine⟨fun W hW=>?_,?_⟩;(first|with_reducible rfl|(go_at_call 105;exact callB (impl_pathOk.calls kl3 _ _ _ (GOK.below HG.out (zv HW.out hW)) A9.out) hW)|(go_simp;with_reducible rfl));go_big_quiet_on)))
      clear HB
      refine zW fun w27 (HB:Below w8.heap.size w8 w27)=>?_
      go_wp2_with(fail)
      go_ret
      exact⟨ze,zv HW.out HB⟩
     rw[if_pos c17] at H
     obtain⟨c17b0,c17b1⟩:=zq c17
     clear c17
     by_cases c18:((qA l0 x16_kl3).f1)=1
     case neg=>
      rw[if_neg c18] at H
      obtain⟨c18b0,c18b1⟩:=zw c18
      by_cases c24:(((qA l0 x16_kl3).f2).size:Int)>20000
      ·rw[if_pos c24] at H
       have c24b0:=zgt c24
       have c24b1:decide (20000<((qA l0 x16_kl3).f2).size)=true:=z1 (by omega)
       clear c24
       obtain rfl:=zi H
       repeat(first|go_big_quiet_skip|(go_big_quiet_want;go_big_quiet_op;first|go_big_quiet_on|(with_reducible apply Exists.intro;refine⟨fun W hW=>?_,?_⟩;(first|with_reducible rfl|(go_at_call 105;exact callB (impl_pathOk.calls kl3 _ _ _ (GOK.below HG.out (zv HW.out hW)) A9.out) hW)|(go_simp;with_reducible rfl));go_big_quiet_on)))
       clear HB
       refine zW fun w25 (HB:Below w8.heap.size w8 w25)=>?_
       go_wp2_with(fail)
       go_ret
       exact⟨ze,zv HW.out HB⟩
      rw[if_neg c24] at H
      have c24b0:=zgtn c24
      have c24b1:decide (20000<((qA l0 x16_kl3).f2).size)=false:=z0 (by omega)
      clear c24
      repeat(first|go_big_quiet_skip|(go_big_quiet_want;go_big_quiet_op;first|go_big_quiet_on|(with_reducible apply Exists.intro;refine⟨fun W hW=>?_,?_⟩;(first|with_reducible rfl|(go_at_call 105;exact callB (impl_pathOk.calls kl3 _ _ _ (GOK.below HG.out (zv HW.out hW)) A9.out) hW)|(go_simp;with_reducible rfl));go_big_quiet_on)))
      clear HB
      refine zW fun w26 (HB:Below w8.heap.size w8 w26)=>?_
      go_wp2_with(fail)
      go_roundg kl3
      case measure=>have:=HKkl3.out;omega
      case rel=>exact⟨(x3_kl3),(wrap64 (x16_kl3+1)),zr,⟨H⟩,⟨by have:=HKkl3.out;omega⟩,⟨zv HLkl3.out HB⟩,⟨HM.out.below (zv HLm.out HB)⟩⟩
     rw[if_pos c18] at H
     obtain⟨c18b0,c18b1⟩:=zq c18
     clear c18
     by_cases c19:((qA l0 x16_kl3).f2).toList=([]:List UInt8)
     case neg=>
      rw[if_neg c19] at H
      obtain⟨c19b0,c19b1⟩:=zw c19
      obtain rfl:=zi H
      repeat(first|go_big_quiet_skip|(go_big_quiet_want;go_big_quiet_op;first|go_big_quiet_on|(with_reducible apply Exists.intro;refine⟨fun W hW=>?_,?_⟩;(first|with_reducible rfl|(go_at_call 105;exact callB (impl_pathOk.calls kl3 _ _ _ (GOK.below HG.out (zv HW.out hW)) A9.out) hW)|(go_simp;with_reducible rfl));go_big_quiet_on)))
      clear HB
      refine zW fun w23 (HB:Below w8.heap.size w8 w23)=>?_
      go_wp2_with(fail)
      go_ret
      exact⟨ze,zv HW.out HB⟩
     rw[if_pos c19] at H
     obtain⟨c19b0,c19b1⟩:=zq c19
     clear c19
     replace H:=zf H
     obtain⟨t553,A20,H⟩:=H
     try dsimp only at H
     replace A20:=zz A20
     repeat(first|go_big_quiet_skip|(go_big_quiet_want;go_big_quiet_op;first|go_big_quiet_on|(with_reducible apply Exists.intro;refine⟨fun W hW=>?_,?_⟩;(first|with_reducible rfl|(go_at_call 105;exact callB (impl_pathOk.calls kl3 _ _ _ (GOK.below HG.out (zv HW.out hW)) A9.out) hW)|(go_simp;with_reducible rfl));go_big_quiet_on)))
     clear HB
     refine zW fun w21 (HB:Below w8.heap.size w8 w21)=>?_
     go_wp2_with(first|((with_reducible refine MapSet.gate_put (t:=136) (m:=56) (k:=58) rfl ?_);refine MapSet.put_event rfl rfl rfl rfl (HM.out.below (zv HLm.out HB)) A20.out ?_;intro w22 hms hg;have n1_:=zz hms;have n2_:=zz (MapSet.grown (zv HLkl3.out HB) hg HBM.out);have n3_:=zz (MapSet.grown (zv HW.out HB) hg HBM.out);clear HM HB HLm HW HLkl3 hms hg;have HM:=n1_;have HLkl3:=n2_;have HW:=n3_;have HB:=Below.refl w22.heap.size w22;have HLm:=zz (Below.refl w22.heap.size w22);clear n1_ n2_ n3_))
     go_roundg kl3
     case measure=>have:=HKkl3.out;omega
     case rel=>exact⟨(t553),(wrap64 (x16_kl3+1)),zr,⟨H⟩,⟨by have:=HKkl3.out;omega⟩,⟨zv HLkl3.out HB⟩,⟨HM.out.below (zv HLm.out HB)⟩⟩
    rw[if_neg c16] at H
    have c16b0:(qA l0 x16_kl3).f3=false:=by simpa using c16
    clear c16
    by_cases c28:((qA l0 x16_kl3).f1)=1
    case neg=>
     rw[if_neg c28] at H
     obtain⟨c28b0,c28b1⟩:=zw c28
     by_cases c34:((qA l0 x16_kl3).f1)=2
     case neg=>
      rw[if_neg c34] at H
      obtain⟨c34b0,c34b1⟩:=zw c34
      by_cases c38:((qA l0 x16_kl3).f1)=3
      case neg=>
       rw[if_neg c38] at H
       obtain⟨c38b0,c38b1⟩:=zw c38
       obtain rfl:=zi H
       repeat(first|go_big_quiet_skip|(go_big_quiet_want;go_big_quiet_op;first|go_big_quiet_on|(with_reducible apply Exists.intro;refine⟨fun W hW=>?_,?_⟩;(first|with_reducible rfl|(go_at_call 105;exact callB (impl_pathOk.calls kl3 _ _ _ (GOK.below HG.out (zv HW.out hW)) A9.out) hW)|(go_simp;with_reducible rfl));go_big_quiet_on)))
       clear HB
       refine zW fun w44 (HB:Below w8.heap.size w8 w44)=>?_
       go_wp2_with(fail)
       go_ret
       exact⟨ze,zv HW.out HB⟩
      rw[if_pos c38] at H
      obtain⟨c38b0,c38b1⟩:=zq c38
      clear c38
      by_cases c39:(((qA l0 x16_kl3).f2).size:Int)<1
      ·rw[if_pos c39] at H
       have c39b0:=z1 c39
       have c39b1:decide (((qA l0 x16_kl3).f2).size<1)=true:=z1 (by omega)
       clear c39
       obtain rfl:=zi H
       repeat(first|go_big_quiet_skip|(go_big_quiet_want;go_big_quiet_op;first|go_big_quiet_on|(with_reducible apply Exists.intro;refine⟨fun W hW=>?_,?_⟩;(first|with_reducible rfl|(go_at_call 105;exact callB (impl_pathOk.calls kl3 _ _ _ (GOK.below HG.out (zv HW.out hW)) A9.out) hW)|(go_simp;with_reducible rfl));go_big_quiet_on)))
       clear HB
       refine zW fun w40 (HB:Below w8.heap.size w8 w40)=>?_
       go_wp2_with(fail)
       go_ret
       exact⟨ze,zv HW.out HB⟩
      rw[if_neg c39] at H
      have c39b0:=z0 c39
      have c39b1:decide (((qA l0 x16_kl3).f2).size<1)=false:=z0 (by omega)
      clear c39
      by_cases c41:(((qA l0 x16_kl3).f2).size:Int)>20000
      ·rw[if_pos c41] at H
       have c41b0:=zgt c41
       have c41b1:decide (20000<((qA l0 x16_kl3).f2).size)=true:=z1 (by omega)
       clear c41
       obtain rfl:=zi H
       repeat(first|go_big_quiet_skip|(go_big_quiet_want;go_big_quiet_op;first|go_big_quiet_on|(with_reducible apply Exists.intro;refine⟨fun W hW=>?_,?_⟩;(first|with_reducible rfl|(go_at_call 105;exact callB (impl_pathOk.calls kl3 _ _ _ (GOK.below HG.out (zv HW.out hW)) A9.out) hW)|(go_simp;with_reducible rfl));go_big_quiet_on)))
       clear HB
       refine zW fun w42 (HB:Below w8.heap.size w8 w42)=>?_
       go_wp2_with(fail)
       go_ret
       exact⟨ze,zv HW.out HB⟩
      rw[if_neg c41] at H
      have c41b0:=zgtn c41
      have c41b1:decide (20000<((qA l0 x16_kl3).f2).size)=false:=z0 (by omega)
      clear c41
      repeat(first|go_big_quiet_skip|(go_big_quiet_want;go_big_quiet_op;first|go_big_quiet_on|(with_reducible apply Exists.intro;refine⟨fun W hW=>?_,?_⟩;(first|with_reducible rfl|(go_at_call 105;exact callB (impl_pathOk.calls kl3 _ _ _ (GOK.below HG.out (zv HW.out hW)) A9.out) hW)|(go_simp;with_reducible rfl));go_big_quiet_on)))
      clear HB
      refine zW fun w43 (HB:Below w8.heap.size w8 w43)=>?_
      go_wp2_with(fail)
      go_roundg kl3
      case measure=>have:=HKkl3.out;omega
      case rel=>exact⟨(x3_kl3),(wrap64 (x16_kl3+1)),zr,⟨H⟩,⟨by have:=HKkl3.out;omega⟩,⟨zv HLkl3.out HB⟩,⟨HM.out.below (zv HLm.out HB)⟩⟩
     rw[if_pos c34] at H
     obtain⟨c34b0,c34b1⟩:=zq c34
     clear c34
     by_cases c35:(((qA l0 x16_kl3).f2).size:Int)>20000
     ·rw[if_pos c35] at H
      have c35b0:=zgt c35
      have c35b1:decide (20000<((qA l0 x16_kl3).f2).size)=true:=z1 (by omega)
      clear c35
      obtain rfl:=zi H
      repeat(first|go_big_quiet_skip|(go_big_quiet_want;go_big_quiet_op;first|go_big_quiet_on|(with_reducible apply Exists.intro;refine⟨fun W hW=>?_,?_⟩;(first|with_reducible rfl|(go_at_call 105;exact callB (impl_pathOk.calls kl3 _ _ _ (GOK.below HG.out (zv HW.out hW)) A9.out) hW)|(go_simp;with_reducible rfl));go_big_quiet_on)))
      clear HB
      refine zW fun w36 (HB:Below w8.heap.size w8 w36)=>?_
      go_wp2_with(fail)
      go_ret
      exact⟨ze,zv HW.out HB⟩
     rw[if_neg c35] at H
     have c35b0:=zgtn c35
     have c35b1:decide (20000<((qA l0 x16_kl3).f2).size)=false:=z0 (by omega)
     clear c35
     repeat(first|go_big_quiet_skip|(go_big_quiet_want;go_big_quiet_op;first|go_big_quiet_on|(with_reducible apply Exists.intro;refine⟨fun W hW=>?_,?_⟩;(first|with_reducible rfl|(go_at_call 105;exact callB (impl_pathOk.calls kl3 _ _ _ (GOK.below HG.out (zv HW.out hW)) A9.out) hW)|(go_simp;with_reducible rfl));go_big_quiet_on)))
     clear HB
     refine zW fun w37 (HB:Below w8.heap.size w8 w37)=>?_
     go_wp2_with(fail)
     go_roundg kl3
     case measure=>have:=HKkl3.out;omega
     case rel=>exact⟨(x3_kl3),(wrap64 (x16_kl3+1)),zr,⟨H⟩,⟨by have:=HKkl3.out;omega⟩,⟨zv HLkl3.out HB⟩,⟨HM.out.below (zv HLm.out HB)⟩⟩
    rw[if_pos c28] at H
    obtain⟨c28b0,c28b1⟩:=zq c28
    clear c28
    by_cases c29:((qA l0 x16_kl3).f2).toList=([]:List UInt8)
    case neg=>
     rw[if_neg c29] at H
     obtain⟨c29b0,c29b1⟩:=zw c29
     obtain rfl:=zi H
     repeat(first|go_big_quiet_skip|(go_big_quiet_want;go_big_quiet_op;first|go_big_quiet_on|(with_reducible apply Exists.intro;refine⟨fun W hW=>?_,?_⟩;(first|with_reducible rfl|(go_at_call 105;exact callB (impl_pathOk.calls kl3 _ _ _ (GOK.below HG.out (zv HW.out hW)) A9.out) hW)|(go_simp;with_reducible rfl));go_big_quiet_on)))
     clear HB
     refine zW fun w33 (HB:Below w8.heap.size w8 w33)=>?_
     go_wp2_with(fail)
     go_ret
     exact⟨ze,zv HW.out HB⟩
    rw[if_pos c29] at H
    obtain⟨c29b0,c29b1⟩:=zq c29
    clear c29
    replace H:=zf H
    obtain⟨t554,A30,H⟩:=H
    try dsimp only at H
    replace A30:=zz A30
    repeat(first|go_big_quiet_skip|(go_big_quiet_want;go_big_quiet_op;first|go_big_quiet_on|(with_reducible apply Exists.intro;refine⟨fun W hW=>?_,?_⟩;(first|with_reducible rfl|(go_at_call 105;exact callB (impl_pathOk.calls kl3 _ _ _ (GOK.below HG.out (zv HW.out hW)) A9.out) hW)|(go_simp;with_reducible rfl));go_big_quiet_on)))
    clear HB
    refine zW fun w31 (HB:Below w8.heap.size w8 w31)=>?_
    go_wp2_with(first|((with_reducible refine MapSet.gate_put (t:=136) (m:=56) (k:=58) rfl ?_);refine MapSet.put_event rfl rfl rfl rfl (HM.out.below (zv HLm.out HB)) A30.out ?_;intro w32 hms hg;have n1_:=zz hms;have n2_:=zz (MapSet.grown (zv HLkl3.out HB) hg HBM.out);have n3_:=zz (MapSet.grown (zv HW.out HB) hg HBM.out);clear HM HB HLm HW HLkl3 hms hg;have HM:=n1_;have HLkl3:=n2_;have HW:=n3_;have HB:=Below.refl w32.heap.size w32;have HLm:=zz (Below.refl w32.heap.size w32);clear n1_ n2_ n3_))
    go_roundg kl3
    case measure=>have:=HKkl3.out;omega
    case rel=>exact⟨(t554),(wrap64 (x16_kl3+1)),zr,⟨H⟩,⟨by have:=HKkl3.out;omega⟩,⟨zv HLkl3.out HB⟩,⟨HM.out.below (zv HLm.out HB)⟩⟩
   rw[if_neg c4] at H
   have c4b0:=z0 c4
   clear c4
   go_wp2_with(fail)
   go_loopg[80] kl3 (fun kq v80 w'=>∃(x80_kl76:Int),v80= .int .i64 x80_kl76∧qB (impl_TreeOk.l1 kq x3_kl3 l0 (l0.length:Int) x80_kl76=some r)∧qB (kq≤kl3)∧qB (Below w.heap.size w w')∧qB (MapSet.MS w' bm x3_kl3))
   case atStart=>exact⟨(0),zr,⟨H⟩,⟨Nat.le_refl _⟩,⟨HB⟩,⟨HM.out.below (zv HLm.out HB)⟩⟩
   case round=>
    clear H HB
    try clear HM
    obtain⟨x80_kl76,rfl,H,HKkl76,HB,HM_⟩:=hrel
    have HM:=HM_
    clear HM_
    replace HB:=HB.out
    replace H:=H.out
    rename World=>w
    have HLkl76:=zz HB
    replace HW:=zz (zv HW.out HB)
    replace HLkl3:=zz (zv HLkl3.out HB)
    replace HR0:=zz (Kd.qC HR0.out HB)
    have HLm:=zz (Below.refl w.heap.size w)
    replace HB:=Below.refl w.heap.size w
    cases gk with
    |zero=>exact absurd H (by simp[impl_TreeOk.l1])
    |succ kl76=>
     simp only[impl_TreeOk.l1] at H
     by_cases c77:x80_kl76<(l0.length:Int)
     case neg=>
      rw[if_neg c77] at H
      have c77b0:=z0 c77
      clear c77
      obtain rfl:=zi H
      go_wp2_with(fail)
      go_ret
      exact⟨ze,zv HW.out HB⟩
     rw[if_pos c77] at H
     have c77b0:=z1 c77
     clear c77
     by_cases c78:0≤x80_kl76
     case neg=>exact zno H c78
     rw[if_pos c78] at H
     have c78b0:=z1 c78
     clear c78
     by_cases c79:x80_kl76<(l0.length:Int)
     case neg=>exact zno H c79
     rw[if_pos c79] at H
     have c79b0:=z1 c79
     clear c79
     have p557:0≤(x80_kl76:Int):=z2
     have q557:(x80_kl76:Int)<(l0.length:Int):=z2
     obtain⟨ad557,e557,hx557_0,hx557_1,hx557_2,hx557_3⟩:=at_T96 HR0.out x80_kl76 p557 q557
     cases e557
     replace hx557_0:=qR hx557_0
     replace hx557_1:=qR hx557_1
     replace hx557_2:=qR hx557_2
     replace hx557_3:=qR hx557_3
     replace p557:=eq_true p557
     replace q557:=eq_true q557
     replace H:=zf H
     obtain⟨⟨t559,t560⟩,A80,H⟩:=H
     try dsimp only at H
     replace A80:=zz A80
     go_wp2_with(first|(refine zN 7 ?_;(try(refine z4 ?_;dsimp only));refine zX 7 96 #[.string (⟨#[]⟩:ByteArray),.int .i64 0,.string (⟨#[]⟩:ByteArray),.bool false] ?_;intro gb558 hg w82 hbox hb;have hge:w.heap.size≤gb558:=(by rw[hg];exact qG HB);clear hg;have hst:Below w.heap.size w ((((w82.setCell ⟨gb558,0,none⟩ (.string ((qA l0 x80_kl76).f0))).setCell ⟨gb558,1,none⟩ (.int .i64 ((qA l0 x80_kl76).f1))).setCell ⟨gb558,2,none⟩ (.string ((qA l0 x80_kl76).f2))).setCell ⟨gb558,3,none⟩ (.bool ((qA l0 x80_kl76).f3))):=(qM (qM (qM (qM (zv HB hb) hge) hge) hge) hge);have hbx:((((w82.setCell ⟨gb558,0,none⟩ (.string ((qA l0 x80_kl76).f0))).setCell ⟨gb558,1,none⟩ (.int .i64 ((qA l0 x80_kl76).f1))).setCell ⟨gb558,2,none⟩ (.string ((qA l0 x80_kl76).f2))).setCell ⟨gb558,3,none⟩ (.bool ((qA l0 x80_kl76).f3))).heap[gb558]?=some (.cells #[.string ((qA l0 x80_kl76).f0),.int .i64 ((qA l0 x80_kl76).f1),.string ((qA l0 x80_kl76).f2),.bool ((qA l0 x80_kl76).f3)] 96 (0,0)):=(qP (cs:= #[.string ((qA l0 x80_kl76).f0),.int .i64 ((qA l0 x80_kl76).f1),.string ((qA l0 x80_kl76).f2),.bool false]) (qP (cs:= #[.string ((qA l0 x80_kl76).f0),.int .i64 ((qA l0 x80_kl76).f1),.string (⟨#[]⟩:ByteArray),.bool false]) (qP (cs:= #[.string ((qA l0 x80_kl76).f0),.int .i64 0,.string (⟨#[]⟩:ByteArray),.bool false]) (qP (cs:= #[.string (⟨#[]⟩:ByteArray),.int .i64 0,.string (⟨#[]⟩:ByteArray),.bool false]) hbox 0 _ rfl) 1 _ rfl) 2 _ rfl) 3 _ rfl);obtain⟨hs558_0,hs558_1,hs558_2,hs558_3,hf558_0,hf558_1,hf558_2,hf558_3⟩:=zc4 hbox)|((with_reducible refine qY (t:=96) (p:=7) rfl ?_);(try(refine z4 ?_;dsimp only));refine qV (t:=96) (p:=7) (v:=?vo_w83) (w1:=((((w82.setCell ⟨gb558,0,none⟩ (.string ((qA l0 x80_kl76).f0))).setCell ⟨gb558,1,none⟩ (.int .i64 ((qA l0 x80_kl76).f1))).setCell ⟨gb558,2,none⟩ (.string ((qA l0 x80_kl76).f2))).setCell ⟨gb558,3,none⟩ (.bool ((qA l0 x80_kl76).f3)))) ?hg ?ho ?hn ?hr ?_;(case ho=>rfl);(case hg=>rfl);(case hn=>rfl);(case hr=>first|(go_simp;done)|(go_simp;rfl));intro w83 hw;replace hst:=hst;rw[←hw] at hst hbx;clear hw hb hbox hge HB hs558_0 hf558_0 hs558_1 hf558_1 hs558_2 hf558_2 hs558_3 hf558_3;replace HW:=zz (zv HW.out hst);replace HLm:=zz (zv HLm.out hst);replace HLkl3:=zz (zv HLkl3.out hst);replace HLkl76:=zz (zv HLkl76.out hst);replace HR0:=zz (Kd.qC HR0.out hst);replace hx557_0:=qH hx557_0 hst;replace hx557_1:=qH hx557_1 hst;replace hx557_2:=qH hx557_2 hst;replace hx557_3:=qH hx557_3 hst;obtain⟨hbx558_0,hbx558_1,hbx558_2,hbx558_3⟩:=zx4 hbx;have HB:=Below.refl w83.heap.size w83;clear hbx hst))
     refine(impl_upper.calls kl76 _ _ _ _ A80.out).mono ?_
     rintro e w84 ⟨rfl,hd⟩
     replace HB:=zv HB hd.below
     clear hd
     by_cases c81:t560=true
     case neg=>
      replace c81:=Bool.eq_false_iff.mpr c81
      subst c81
      rw[if_neg (by decide)] at H
      go_wp2_with(fail)
      go_roundg kl76
      case measure=>have:=HKkl3.out;have:=HKkl76.out;omega
      case rel=>exact⟨(wrap64 (x80_kl76+1)),zr,⟨H⟩,⟨by have:=HKkl3.out;have:=HKkl76.out;omega⟩,⟨zv HLkl76.out HB⟩,⟨HM.out.below (zv HLm.out HB)⟩⟩
     subst c81
     rw[if_pos rfl] at H
     replace H:=zf H
     obtain⟨t561,A85,H⟩:=H
     try dsimp only at H
     replace A85:=zz A85
     by_cases c86:t561=0
     case neg=>
      rw[if_neg c86] at H
      obtain⟨c86b0,c86b1⟩:=zw c86
      go_wp2_with(first|((with_reducible refine MapSet.gate_get (t:=136) (m:=92) (k:=93) rfl ?_);(try(refine z4 ?_;dsimp only));refine MapSet.get_event rfl rfl rfl rfl (HM.out.below (zv HLm.out HB)) A85.out ?_))
      go_roundg kl76
      case measure=>have:=HKkl3.out;have:=HKkl76.out;omega
      case rel=>exact⟨(wrap64 (x80_kl76+1)),zr,⟨H⟩,⟨by have:=HKkl3.out;have:=HKkl76.out;omega⟩,⟨zv HLkl76.out HB⟩,⟨HM.out.below (zv HLm.out HB)⟩⟩
     rw[if_pos c86] at H
     obtain⟨c86b0,c86b1⟩:=zq c86
     clear c86
     obtain rfl:=zi H
     go_wp2_with(first|((with_reducible refine MapSet.gate_get (t:=136) (m:=92) (k:=93) rfl ?_);(try(refine z4 ?_;dsimp only));refine MapSet.get_event rfl rfl rfl rfl (HM.out.below (zv HLm.out HB)) A85.out ?_))
     go_ret
     exact⟨ze,zv HW.out HB⟩
mutual
def spec_l10Names.l0:Nat→ByteArray→List ByteArray→Int→Int→Option (List ByteArray×Bool)
 |0,_,_,_,_=>none
 |k+1,x0,x4,x5,x6=>if x6≤(x0.size:Int) then(if x6=(x0.size:Int) then(spec_l10Names.j1 k x0 x4 x5 x6 true) else(if 0≤x6 then(if x6<(x0.size:Int) then(spec_l10Names.j1 k x0 x4 x5 x6 ((bt x0 x6)==47)) else(none)) else(none))) else(some (x4,true))
def spec_l10Names.j1:Nat→ByteArray→List ByteArray→Int→Int→Bool→Option (List ByteArray×Bool)
 |0,_,_,_,_,_=>none
 |k+1,x0,x4,x5,x6,x23=>if x23=true then(if 0≤x5 then(if x5≤x6 then(if x6≤(x0.size:Int) then((spec_NameOk.f k (x0.extract (x5:Int).toNat (x6:Int).toNat)).bind fun t294=>(if t294=true then(if(x4.length:Int)=8 then(some (x4,false)) else(if x4.length<8796093022208 then(spec_l10Names.l0 k x0 (x4++[x0.extract (x5:Int).toNat (x6:Int).toNat]) (wrap64 (x6+1)) (wrap64 (x6+1))) else(none))) else(some (x4,false)))) else(none)) else(none)) else(none)) else(spec_l10Names.l0 k x0 x4 x5 (wrap64 (x6+1)))
end
def spec_l10Names.f(k:Nat)(a0:ByteArray):Option (List ByteArray×Bool):=spec_l10Names.l0 k a0 (([]:List ByteArray)) 0 0
theorem spec_l10Names.calls(k:Nat)(a0:ByteArray)(r1:List ByteArray)(r2:Bool)(w:World)(h:spec_l10Names.f k a0=some (r1,r2)):
 Calls Tryz.prog 142 #[.string a0] w fun e w'=>∃v0_:Value,e= .returned (.tuple #[v0_,.bool r2])∧Kd.R Kd.string 9 w' w.heap.size (fun _=>True) v0_ r1∧Below w.heap.size w w':=by
 have HB:=zz (Below.refl w.heap.size w)
 unfold spec_l10Names.f at h
 have H:=h
 clear h
 obtain⟨y291,hy291⟩:∃y_:List ByteArray,y_=(([]:List ByteArray)):=⟨_,rfl⟩
 replace H:(spec_l10Names.l0 k a0 y291 0 0)=some (r1,r2):=by first|(rw[hy291];with_reducible exact H)|(have H2_:=(Option.bind_some _ _).symm.trans H;rw[hy291];with_reducible exact H2_)|(have H2_:=(Option.bind_some _ _).symm.trans H;with_reducible exact H2_)|with_reducible exact H|(rw[hy291];exact H)|exact H
 have Ny291:=zz hy291
 clear hy291
 have H':=zz H
 clear H
 go_enter Tryz.func142,Tryz.ntmps142
 go_wp2_with(first|(refine zN 7 ?_;(try(refine z4 ?_;dsimp only));refine Kd.R_lit Kd.string _ 9 ?hg (N:=7) ?hd (xs:=([]:List ByteArray)) (inner:=[]) (ok:=fun _=>True) (okp:=fun _=>True) ?hr ?hp (fun _ hk=>hk) trivial (Below.refl _ _) (Nat.le_refl _) (by simp) ?_;(case hd=>rfl);(case hg=>rfl);(case hr=>first|(go_simp;done)|(go_simp;rfl));(case hp=>exact(Reps.none _ _));intro v292 w2 ho3 hb hg_ hnew_;clear hg_ hnew_;(first|rw[←Ny291.out] at ho3|(simp only[Int.reduceToNat] at ho3;rw[←Ny291.out] at ho3));have HO293:=zz (Kd.vH ho3 (qG zb));replace HB:=zz (zv zb hb);clear hb ho3))
 go_loopg[4,5,6] k (fun kq v4 v5 v6 w'=>∃(x4_1:List ByteArray) (x5_1:Int) (x6_1:Int),v5= .int .i64 x5_1∧v6= .int .i64 x6_1∧qB (spec_l10Names.l0 kq a0 x4_1 x5_1 x6_1=some (r1,r2))∧qB (kq≤k)∧qB (Kd.R Kd.string 9 w' w.heap.size (fun _=>True) v4 x4_1)∧qB (Below w.heap.size w w'))
 case atStart=>exact⟨(y291),(0),(0),zr,zr,H',⟨Nat.le_refl _⟩,⟨by(with_reducible repeat(first|apply Kd.qU|apply Kd.qT|apply Kd.qX));exact HO293.out⟩,⟨zb⟩⟩
 case round=>
  clear H'
  try clear c1
  try clear p2
  obtain⟨x4_1,x5_1,x6_1,rfl,rfl,HA,HK1,HO_4,HB⟩:=hrel
  cases gk with
  |zero=>exact absurd HA.out (by simp[spec_l10Names.l0])
  |succ k1=>
   have H:=HA.out
   clear HA
   simp only[spec_l10Names.l0] at H
   by_cases c4:x6_1≤(a0.size:Int)
   case neg=>
    rw[if_neg c4] at H
    have c4b0:=z0 c4
    clear c4
    simp only[Option.some.injEq,Prod.mk.injEq] at H
    obtain⟨rfl,rfl⟩:=H
    go_wp2
    go_ret2
    exact⟨_,ze,by(with_reducible repeat(first|apply Kd.qU|apply Kd.qT|apply Kd.qX));exact HO_4.out,zb⟩
   rw[if_pos c4] at H
   have c4b0:=z1 c4
   clear c4
   have HC5:=zz H
   clear H
   go_upto_region 6 with(fail)
   go_cut [23] (fun v23 wc=>∃(kq:Nat) (x23_4:Bool),v23= .bool x23_4∧qB (spec_l10Names.j1 kq a0 x4_1 x5_1 x6_1 x23_4=some (r1,r2))∧qB (kq≤k1)∧qB (Kd.R Kd.string 9 wc w.heap.size (fun _=>True) u4 x4_1)∧qB (Below w.heap.size w wc))
   case first=>
    have H:=HC5.out
    clear HC5
    by_cases c6:x6_1=(a0.size:Int)
    ·rw[if_pos c6] at H
     obtain⟨c6b0,c6b1⟩:=zq c6
     clear c6
     (first|rw[c6b0]|(simp only[i64_w,i32_w];rw[c6b0])|skip)
     have H':=zz H
     clear H
     go_wp2
     go_meet
     case rel=>exact⟨_,(true),zr,H',⟨by have:=HK1.out;first|omega|exact Nat.le_refl _⟩,⟨by(with_reducible repeat(first|apply Kd.qU|apply Kd.qT|apply Kd.qX));exact HO_4.out⟩,⟨zb⟩⟩
    ·rw[if_neg c6] at H
     obtain⟨c6b0,c6b1⟩:=zw c6
     (first|rw[c6b0]|(simp only[i64_w,i32_w];rw[c6b0])|skip)
     by_cases c7:0≤x6_1
     ·rw[if_pos c7] at H
      have c7b0:=z1 c7
      clear c7
      by_cases c8:x6_1<(a0.size:Int)
      ·rw[if_pos c8] at H
       have c8b0:=z1 c8
       clear c8
       have H':=zz H
       clear H
       have p9:0≤(x6_1:Int):=z2
       have q9:x6_1<(a0.size:Int):=z2
       have hx9:=bt_at a0 x6_1
       replace p9:=eq_true p9
       replace q9:=eq_true q9
       go_wp2
       go_meet
       case rel=>exact⟨_,(((bt a0 x6_1)==47)),zr,H',⟨by have:=HK1.out;first|omega|exact Nat.le_refl _⟩,⟨by(with_reducible repeat(first|apply Kd.qU|apply Kd.qT|apply Kd.qX));exact HO_4.out⟩,⟨zb⟩⟩
      ·rw[if_neg c8] at H
       exact absurd H (by simp)
     ·rw[if_neg c7] at H
      exact absurd H (by simp)
   case rest=>
    clear HC5
    try clear c1
    try clear p2
    try clear c4
    try clear c4b0
    try clear c6
    try clear c6b0
    try clear c6b1
    try clear c7
    try clear c7b0
    try clear c8
    try clear c8b0
    try clear p9
    try clear q9
    try clear hx9
    try clear p2
    try clear p9
    try clear q9
    obtain⟨kq,x23_4,rfl,HA,HJ4,HO_4,HB⟩:=hcut
    cases kq with
    |zero=>exact absurd HA.out (by simp[spec_l10Names.j1])
    |succ kj4=>
     have H:=HA.out
     clear HA
     simp only[spec_l10Names.j1] at H
     by_cases c10:x23_4=true
     case neg=>
      replace c10:=Bool.eq_false_iff.mpr c10
      subst c10
      rw[if_neg (show¬(false=true) by decide)] at H
      have H':=zz H
      clear H
      go_wp2
      go_roundg kj4
      case measure=>have:=HK1.out;have:=HJ4.out;omega
      case rel=>exact⟨(x4_1),(x5_1),(wrap64 (x6_1+1)),zr,zr,H',⟨by have:=HK1.out;have:=HJ4.out;omega⟩,⟨by(with_reducible repeat(first|apply Kd.qU|apply Kd.qT|apply Kd.qX));exact HO_4.out⟩,⟨zb⟩⟩
     subst c10
     rw[if_pos rfl] at H
     by_cases c11:0≤x5_1
     case neg=>exact zno H c11
     rw[if_pos c11] at H
     have c11b0:=eq_true c11
     have c11b1:=z1 c11
     clear c11
     by_cases c12:x5_1≤x6_1
     case neg=>exact zno H c12
     rw[if_pos c12] at H
     have c12b0:=eq_true c12
     have c12b1:=z1 c12
     clear c12
     by_cases c13:x6_1≤(a0.size:Int)
     case neg=>exact zno H c13
     rw[if_pos c13] at H
     have c13b0:=eq_true c13
     have c13b1:=z1 c13
     clear c13
     replace H:=zf H
     obtain⟨t294,A140,H⟩:=H
     try dsimp only at H
     have A14:=zz A140
     clear A140
     by_cases c15:t294=true
     case neg=>
      replace c15:=Bool.eq_false_iff.mpr c15
      subst c15
      rw[if_neg (show¬(false=true) by decide)] at H
      simp only[Option.some.injEq,Prod.mk.injEq] at H
      obtain⟨rfl,rfl⟩:=H
      go_wp2_with(first|(refine zL 35 28 Tryz.func35 #[.string (a0.extract (x5_1:Int).toNat (x6_1:Int).toNat)] ?_;(with_reducible refine(spec_NameOk.calls kj4 (a0.extract (x5_1:Int).toNat (x6_1:Int).toNat) false _ A14.out).mono ?_);rintro e w' ⟨rfl,⟨nd,rfl⟩⟩;refine⟨_,rfl,?_⟩))
      go_ret2
      exact⟨_,ze,by(with_reducible repeat(first|apply Kd.qU|apply Kd.qT|apply Kd.qX));exact HO_4.out,zb⟩
     subst c15
     rw[if_pos rfl] at H
     by_cases c16:(x4_1.length:Int)=8
     ·rw[if_pos c16] at H
      obtain⟨c16b0,c16b1⟩:=zq c16
      clear c16
      simp only[Option.some.injEq,Prod.mk.injEq] at H
      obtain⟨rfl,rfl⟩:=H
      go_wp2_with(first|(refine zL 35 28 Tryz.func35 #[.string (a0.extract (x5_1:Int).toNat (x6_1:Int).toNat)] ?_;(with_reducible refine(spec_NameOk.calls kj4 (a0.extract (x5_1:Int).toNat (x6_1:Int).toNat) true _ A14.out).mono ?_);rintro e w' ⟨rfl,⟨nd,rfl⟩⟩;refine⟨_,rfl,?_⟩;obtain⟨Ao17,co17,eo17⟩:=Kd.vG HO_4.out;subst eo17))
      go_ret2
      exact⟨_,ze,by(with_reducible repeat(first|apply Kd.qU|apply Kd.qT|apply Kd.qX));exact HO_4.out,zb⟩
     rw[if_neg c16] at H
     obtain⟨c16b0,c16b1⟩:=zw c16
     have c18b0:=eq_true (z2:0≤x5_1)
     have c19b0:=eq_true (z2:x5_1≤x6_1)
     have c20b0:=eq_true (z2:x6_1≤(a0.size:Int))
     by_cases c21:x4_1.length<8796093022208
     case neg=>exact zno H c21
     rw[if_pos c21] at H
     have LMc21:=zz c21
     clear c21
     obtain⟨y295,hy295⟩:∃y_:List ByteArray,y_=(x4_1++[a0.extract (x5_1:Int).toNat (x6_1:Int).toNat]):=⟨_,rfl⟩
     replace H:(spec_l10Names.l0 kj4 a0 y295 (wrap64 (x6_1+1)) (wrap64 (x6_1+1)))=some (r1,r2):=by first|(rw[hy295];with_reducible exact H)|(have H2_:=(Option.bind_some _ _).symm.trans H;rw[hy295];with_reducible exact H2_)|(have H2_:=(Option.bind_some _ _).symm.trans H;with_reducible exact H2_)|with_reducible exact H|(rw[hy295];exact H)|exact H
     have Ny295:=zz hy295
     clear hy295
     have H':=zz H
     clear H
     go_wp2_with(first|(refine zL 35 28 Tryz.func35 #[.string (a0.extract (x5_1:Int).toNat (x6_1:Int).toNat)] ?_;(with_reducible refine(spec_NameOk.calls kj4 (a0.extract (x5_1:Int).toNat (x6_1:Int).toNat) true _ A14.out).mono ?_);rintro e w' ⟨rfl,⟨nd,rfl⟩⟩;refine⟨_,rfl,?_⟩;obtain⟨Ao22,co22,eo22⟩:=Kd.vG HO_4.out;subst eo22)|((with_reducible refine vJ (b:= .append) (xs:= #[.tmp 36,.tmp 41]) rfl ?_);(try(refine z4 ?_;dsimp only));at_builtin;refine Kd.R_append Kd.string (w0:=w) w.heap.size rfl (.tmp 36) (.tmp 41) 39 9 (.string ⟨#[]⟩) 16 rfl Tryz.underlying39 info9 rfl (by decide) (by omega) (.slice Ao22 x4_1.length co22) x4_1 (a0.extract (x5_1:Int).toNat (x6_1:Int).toNat) [.string (a0.extract (x5_1:Int).toNat (x6_1:Int).toNat)] (fun _=>True) (fun _=>False) rfl rfl ?aP (fun _ hk=>hk.elim) ?aF ?aO ?aB ?aS ?aL ?_;(case aP=>exact rfl);(case aB=>exact zb);(case aF=>exact(fun _ _=>trivial));(case aO=>exact(zR HO_4.out));(case aS=>exact(qG zb));(case aL=>have:=LMc21.out;omega);intro v296 w23 ho hb hg hat;rw[←Ny295.out] at ho;replace HB:=zz (hb);have HO297:=zz (ho);clear HO_4;clear ho hb hg hat))
     go_roundg kj4
     case measure=>have:=HK1.out;have:=HJ4.out;omega
     case rel=>exact⟨(y295),(wrap64 (x6_1+1)),(wrap64 (x6_1+1)),zr,zr,H',⟨by have:=HK1.out;have:=HJ4.out;omega⟩,⟨by(with_reducible repeat(first|apply Kd.qU|apply Kd.qT|apply Kd.qX));exact HO297.out⟩,⟨zb⟩⟩
def spec_l10EntryOk.f(k:Nat)(a0_0:ByteArray)(a0_1:Int)(a0_2:ByteArray)(a0_3:Bool):Option (Bool):=(spec_l10Names.f k a0_0).bind fun bt299=>(if bt299.2=true then(if(a0_2.size:Int)>20000 then(some false) else(if a0_1=1 then(if a0_2.toList=([]:List UInt8) then(some (!a0_3)) else(some false)) else(if a0_1=2 then(some true) else(if a0_1=3 then(if a0_2.toList=([]:List UInt8) then(some false) else(some (!a0_3))) else(some false))))) else(some false))
theorem spec_l10EntryOk.calls(k:Nat)(a0_0:ByteArray)(a0_1:Int)(a0_2:ByteArray)(a0_3:Bool)(r:Bool)(w:World)(h:spec_l10EntryOk.f k a0_0 a0_1 a0_2 a0_3=some r):
 Calls Tryz.prog 119 #[.agg #[.string a0_0,.int .i64 a0_1,.string a0_2,.bool a0_3]] w fun e w'=>e= .returned (.bool r)∧Below w.heap.size w w':=by
 have hu96:=Tryz.underlying96
 have HB:=zz (Below.refl w.heap.size w)
 unfold spec_l10EntryOk.f at h
 have H:=h
 clear h
 replace HB:=HB.out
 have HW:=zz (Below.refl w.heap.size w)
 go_enter Tryz.func119,Tryz.ntmps119
 replace H:=zf H
 obtain⟨⟨t299,t300⟩,A2,H⟩:=H
 try dsimp only at H
 replace A2:=zz A2
 go_wp2_with(first|(refine zN 1 ?_;(try(refine z4 ?_;dsimp only));refine zX 1 96 #[.string a0_0,.int .i64 a0_1,.string a0_2,.bool a0_3] ?_;intro gb298 hg w5 hbox hb;have hst:=zv HB hb;clear hg hb HB;replace HW:=zz (zv HW.out hst);obtain⟨hbx298_0,hbx298_1,hbx298_2,hbx298_3⟩:=zx4 hbox;have HB:=Below.refl w5.heap.size w5;clear hbox hst))
 refine(spec_l10Names.calls k _ _ _ _ A2.out).mono ?_
 rintro e w6 ⟨vHO302,rfl,hHO302,hb⟩
 replace HB:=zv HB hb
 clear hb
 have hst:=HB
 replace HW:=zz (zv HW.out hst)
 replace hbx298_0:=qH hbx298_0 hst
 replace hbx298_1:=qH hbx298_1 hst
 replace hbx298_2:=qH hbx298_2 hst
 replace hbx298_3:=qH hbx298_3 hst
 clear hst
 replace HB:=Below.refl w6.heap.size w6
 obtain⟨AHRo7,cHRo7,rfl,hl_,hC_⟩:=Kd.R_reads hHO302
 have HRo7:=zz hC_
 have HCo7:=zz hl_
 clear hl_ hC_ hHO302
 by_cases c3:t300=true
 case neg=>
  replace c3:=Bool.eq_false_iff.mpr c3
  subst c3
  rw[if_neg (by decide)] at H
  obtain rfl:=zi H
  go_wp2_with(fail)
  go_ret
  exact⟨ze,zv HW.out HB⟩
 subst c3
 rw[if_pos rfl] at H
 by_cases c4:(a0_2.size:Int)>20000
 ·rw[if_pos c4] at H
  have c4b0:=zgt c4
  have c4b1:decide (20000<a0_2.size)=true:=z1 (by omega)
  clear c4
  obtain rfl:=zi H
  go_wp2_with(fail)
  go_ret
  exact⟨ze,zv HW.out HB⟩
 rw[if_neg c4] at H
 have c4b0:=zgtn c4
 have c4b1:decide (20000<a0_2.size)=false:=z0 (by omega)
 clear c4
 by_cases c8:a0_1=1
 case neg=>
  rw[if_neg c8] at H
  obtain⟨c8b0,c8b1⟩:=zw c8
  by_cases c16:a0_1=2
  ·rw[if_pos c16] at H
   obtain⟨c16b0,c16b1⟩:=zq c16
   clear c16
   obtain rfl:=zi H
   go_wp2_with(fail)
   go_ret
   exact⟨ze,zv HW.out HB⟩
  rw[if_neg c16] at H
  obtain⟨c16b0,c16b1⟩:=zw c16
  by_cases c20:a0_1=3
  case neg=>
   rw[if_neg c20] at H
   obtain⟨c20b0,c20b1⟩:=zw c20
   obtain rfl:=zi H
   go_wp2_with(fail)
   go_ret
   exact⟨ze,zv HW.out HB⟩
  rw[if_pos c20] at H
  obtain⟨c20b0,c20b1⟩:=zq c20
  clear c20
  by_cases c21:a0_2.toList=([]:List UInt8)
  case neg=>
   rw[if_neg c21] at H
   obtain⟨c21b0,c21b1⟩:=zw c21
   obtain rfl:=zi H
   go_wp2_with(fail)
   go_ret
   exact⟨ze,zv HW.out HB⟩
  rw[if_pos c21] at H
  obtain⟨c21b0,c21b1⟩:=zq c21
  clear c21
  obtain rfl:=zi H
  go_wp2_with(fail)
  go_ret
  exact⟨ze,zv HW.out HB⟩
 rw[if_pos c8] at H
 obtain⟨c8b0,c8b1⟩:=zq c8
 clear c8
 by_cases c9:a0_2.toList=([]:List UInt8)
 case neg=>
  rw[if_neg c9] at H
  obtain⟨c9b0,c9b1⟩:=zw c9
  obtain rfl:=zi H
  go_wp2_with(fail)
  go_ret
  exact⟨ze,zv HW.out HB⟩
 rw[if_pos c9] at H
 obtain⟨c9b0,c9b1⟩:=zq c9
 clear c9
 obtain rfl:=zi H
 go_wp2_with(fail)
 go_ret
 exact⟨ze,zv HW.out HB⟩
def spec_l10Up.l0:Nat→ByteArray→Int→Option (ByteArray)
 |0,_,_=>none
 |k+1,x0,x3=>if x3≥0 then(if 0≤x3 then(if x3<(x0.size:Int) then(if(bt x0 x3)=47 then(if x3≤(x0.size:Int) then(some (x0.extract 0 (x3:Int).toNat)) else(none)) else(spec_l10Up.l0 k x0 (wrap64 (x3 - 1)))) else(none)) else(none)) else(some (⟨#[]⟩:ByteArray))
def spec_l10Up.f(k:Nat)(a0:ByteArray):Option (ByteArray):=spec_l10Up.l0 k a0 (wrap64 ((a0.size:Int) - 1))
theorem spec_l10Up.calls(k:Nat)(a0:ByteArray)(r:ByteArray)(w:World)(h:spec_l10Up.f k a0=some r):
 Calls Tryz.prog 120 #[.string a0] w fun e w'=>e= .returned (.string r)∧qE w w':=by
 unfold spec_l10Up.f at h
 have H:=h
 clear h
 have H':=zz H
 clear H
 go_enter Tryz.func120,Tryz.ntmps120
 go_wp2
 go_loopg[3] k (fun kq v3 w'=>∃(x3_1:Int),v3= .int .i64 x3_1∧qB (spec_l10Up.l0 kq a0 x3_1=some r)∧qB (kq≤k)∧qE w w')
 case atStart=>exact⟨(wrap64 ((a0.size:Int) - 1)),zr,H',⟨Nat.le_refl _⟩,by repeat(first|exact qE.refl _|apply qE.step)⟩
 case round=>
  clear H'
  try clear c1
  obtain⟨x3_1,rfl,HA,HK1,⟨m1,rfl⟩⟩:=hrel
  cases gk with
  |zero=>exact absurd HA.out (by simp[spec_l10Up.l0])
  |succ k1=>
   have H:=HA.out
   clear HA
   simp only[spec_l10Up.l0] at H
   by_cases c2:x3_1≥0
   case neg=>
    rw[if_neg c2] at H
    have c2b0:=zgen c2
    clear c2
    obtain rfl:=zi H
    go_wp2
    go_ret
    exact⟨zr,by repeat(first|exact qE.refl _|apply qE.step)⟩
   rw[if_pos c2] at H
   have c2b0:=zge c2
   clear c2
   by_cases c3:0≤x3_1
   case neg=>exact zno H c3
   rw[if_pos c3] at H
   have c3b0:=z1 c3
   clear c3
   by_cases c4:x3_1<(a0.size:Int)
   case neg=>exact zno H c4
   rw[if_pos c4] at H
   have c4b0:=z1 c4
   clear c4
   by_cases c6:(bt a0 x3_1)=47
   case neg=>
    rw[if_neg c6] at H
    obtain⟨c6b0,c6b1⟩:=zw c6
    have H':=zz H
    clear H
    have p5:0≤(x3_1:Int):=z2
    have q5:x3_1<(a0.size:Int):=z2
    have hx5:=bt_at a0 x3_1
    replace p5:=eq_true p5
    replace q5:=eq_true q5
    go_wp2
    go_roundg k1
    case measure=>have:=HK1.out;omega
    case rel=>exact⟨(wrap64 (x3_1 - 1)),zr,H',⟨by have:=HK1.out;omega⟩,by repeat(first|exact qE.refl _|apply qE.step)⟩
   rw[if_pos c6] at H
   obtain⟨c6b0,c6b1⟩:=zq c6
   clear c6
   have c7b0:=eq_true (z2:0≤x3_1)
   by_cases c8:x3_1≤(a0.size:Int)
   case neg=>exact zno H c8
   rw[if_pos c8] at H
   have c8b0:=eq_true c8
   have c8b1:=z1 c8
   clear c8
   obtain rfl:=zi H
   have p5:0≤(x3_1:Int):=z2
   have q5:x3_1<(a0.size:Int):=z2
   have hx5:=bt_at a0 x3_1
   replace p5:=eq_true p5
   replace q5:=eq_true q5
   go_wp2
   go_ret
   exact⟨zr,by repeat(first|exact qE.refl _|apply qE.step)⟩
def spec_l10Find.l0:Nat→List (S96)→ByteArray→Int→Int→Option (Int)
 |0,_,_,_,_=>none
 |k+1,x0,x1,x5,x6=>if x5<x6 then(if 0≤(wrap64 (Int.tdiv (wrap64 (x5+x6)) 2)) then(if(wrap64 (Int.tdiv (wrap64 (x5+x6)) 2))<(x0.length:Int) then(if(Op.bytesLess (((qA x0 (wrap64 (Int.tdiv (wrap64 (x5+x6)) 2))).f0).toList) x1.toList)=true then(spec_l10Find.l0 k x0 x1 (wrap64 ((wrap64 (Int.tdiv (wrap64 (x5+x6)) 2))+1)) x6) else(spec_l10Find.l0 k x0 x1 x5 (wrap64 (Int.tdiv (wrap64 (x5+x6)) 2)))) else(none)) else(none)) else(if x5<(x0.length:Int) then(if 0≤x5 then(if((qA x0 x5).f0).toList=x1.toList then(some x5) else(some (-1))) else(none)) else(some (-1)))
def spec_l10Find.f(k:Nat)(l0:List (S96))(a1:ByteArray):Option (Int):=spec_l10Find.l0 k l0 a1 0 (l0.length:Int)
theorem spec_l10Find.calls(k:Nat)(A0:Option Addr)(c0:Nat)(l0:List (S96))(a1:ByteArray)(r:Int)(w:World)(hr0:Kd.C k96 w A0 l0.length l0)(hc0:l0.length≤c0)(h:spec_l10Find.f k l0 a1=some r):
 Calls Tryz.prog 103 #[.slice A0 l0.length c0,.string a1] w fun e w'=>e= .returned (.int .i64 r)∧qE w w':=by
 have HR0:=zz hr0
 have HC0:=zz hc0
 clear hr0 hc0
 unfold spec_l10Find.f at h
 have H:=h
 clear h
 have H':=zz H
 clear H
 go_enter Tryz.func103,Tryz.ntmps103
 go_wp2
 go_loopg[5,6] k (fun kq v5 v6 w'=>∃(x5_1:Int) (x6_1:Int),v5= .int .i64 x5_1∧v6= .int .i64 x6_1∧qB (spec_l10Find.l0 kq l0 a1 x5_1 x6_1=some r)∧qB (kq≤k)∧qE w w')
 case atStart=>exact⟨(0),((l0.length:Int)),zr,zr,H',⟨Nat.le_refl _⟩,by repeat(first|exact qE.refl _|apply qE.step)⟩
 case round=>
  clear H'
  try clear c1
  try clear p2
  obtain⟨x5_1,x6_1,rfl,rfl,HA,HK1,⟨m1,rfl⟩⟩:=hrel
  cases gk with
  |zero=>exact absurd HA.out (by simp[spec_l10Find.l0])
  |succ k1=>
   have H:=HA.out
   clear HA
   simp only[spec_l10Find.l0] at H
   by_cases c3:x5_1<x6_1
   case neg=>
    rw[if_neg c3] at H
    have c3b0:=z0 c3
    clear c3
    by_cases c8:x5_1<(l0.length:Int)
    case neg=>
     rw[if_neg c8] at H
     have c8b0:=z0 c8
     clear c8
     obtain rfl:=zi H
     go_wp2
     go_ret
     exact⟨zr,by repeat(first|exact qE.refl _|apply qE.step)⟩
    rw[if_pos c8] at H
    have c8b0:=z1 c8
    clear c8
    by_cases c9:0≤x5_1
    case neg=>exact zno H c9
    rw[if_pos c9] at H
    have c9b0:=z1 c9
    clear c9
    by_cases c10:((qA l0 x5_1).f0).toList=a1.toList
    case neg=>
     rw[if_neg c10] at H
     obtain⟨c10b0,c10b1⟩:=zw c10
     obtain rfl:=zi H
     have p304:0≤(x5_1:Int):=z2
     have q304:x5_1<(l0.length:Int):=z2
     obtain⟨ad304,e304,hx304_0,hx304_1,hx304_2,hx304_3⟩:=at_T96 HR0.out x5_1 p304 q304
     cases e304
     replace p304:=eq_true p304
     replace q304:=eq_true q304
     go_wp2
     go_ret
     exact⟨zr,by repeat(first|exact qE.refl _|apply qE.step)⟩
    rw[if_pos c10] at H
    obtain⟨c10b0,c10b1⟩:=zq c10
    clear c10
    obtain rfl:=zi H
    have p304:0≤(x5_1:Int):=z2
    have q304:x5_1<(l0.length:Int):=z2
    obtain⟨ad304,e304,hx304_0,hx304_1,hx304_2,hx304_3⟩:=at_T96 HR0.out x5_1 p304 q304
    cases e304
    replace p304:=eq_true p304
    replace q304:=eq_true q304
    go_wp2
    go_ret
    exact⟨zr,by repeat(first|exact qE.refl _|apply qE.step)⟩
   rw[if_pos c3] at H
   have c3b0:=z1 c3
   clear c3
   obtain⟨ji4,hji4⟩:∃j_:Int,(wrap64 (Int.tdiv (wrap64 (x5_1+x6_1)) 2))=j_:=⟨_,rfl⟩
   replace H:(if 0≤(ji4) then(if(ji4)<(l0.length:Int) then(if(Op.bytesLess (((qA l0 (ji4)).f0).toList) a1.toList)=true then(spec_l10Find.l0 k1 l0 a1 (wrap64 ((ji4)+1)) x6_1) else(spec_l10Find.l0 k1 l0 a1 x5_1 ji4)) else(none)) else(none))=some r:=by first|(rw[hji4] at H;exact H)|(simp only[hji4] at H⊢;exact H)
   have hji4w:(IntKind.i64.wrap (Int.tdiv (wrap64 (x5_1+x6_1)) 2))=ji4:=(i64_w _).trans hji4
   by_cases c5:0≤(ji4)
   case neg=>exact zno H c5
   rw[if_pos c5] at H
   have c5b0:=z1 c5
   clear c5
   by_cases c6:(ji4)<(l0.length:Int)
   case neg=>exact zno H c6
   rw[if_pos c6] at H
   have c6b0:=z1 c6
   clear c6
   by_cases c7:(Op.bytesLess (((qA l0 (ji4)).f0).toList) a1.toList)=true
   ·rw[if_pos c7] at H
    have c7b0:(Op.bytesLess (((qA l0 (ji4)).f0).toList) a1.toList)=true:=c7
    clear c7
    have H':=zz H
    clear H
    have p303:0≤((ji4):Int):=z2
    have q303:(ji4)<(l0.length:Int):=z2
    obtain⟨ad303,e303,hx303_0,hx303_1,hx303_2,hx303_3⟩:=at_T96 HR0.out (ji4) p303 q303
    cases e303
    replace p303:=eq_true p303
    replace q303:=eq_true q303
    go_wp2
    go_roundg k1
    case measure=>have:=HK1.out;omega
    case rel=>exact⟨(wrap64 ((ji4)+1)),(x6_1),(by first|rfl|(simp;done)|(simp only[←hji4]<;>(first|rfl|simp))|(simp[*];done)),zr,H',⟨by have:=HK1.out;omega⟩,by repeat(first|exact qE.refl _|apply qE.step)⟩
   rw[if_neg c7] at H
   have c7b0:(Op.bytesLess (((qA l0 (ji4)).f0).toList) a1.toList)=false:=by simpa using c7
   clear c7
   have H':=zz H
   clear H
   have p303:0≤((ji4):Int):=z2
   have q303:(ji4)<(l0.length:Int):=z2
   obtain⟨ad303,e303,hx303_0,hx303_1,hx303_2,hx303_3⟩:=at_T96 HR0.out (ji4) p303 q303
   cases e303
   replace p303:=eq_true p303
   replace q303:=eq_true q303
   go_wp2
   go_roundg k1
   case measure=>have:=HK1.out;omega
   case rel=>exact⟨(x5_1),(ji4),zr,(by first|rfl|(simp;done)|(simp only[←hji4]<;>(first|rfl|simp))|(simp[*];done)),H',⟨by have:=HK1.out;omega⟩,by repeat(first|exact qE.refl _|apply qE.step)⟩
def spec_l10Dir.f(k:Nat)(l0:List (S96))(a1:ByteArray):Option (Bool):=(spec_l10Find.f k l0 a1).bind fun t305=>(if t305≥0 then(if 0≤t305 then(if t305<(l0.length:Int) then(some (((qA l0 t305).f1)==1)) else(none)) else(none)) else(some false))
theorem spec_l10Dir.calls(k:Nat)(A0:Option Addr)(c0:Nat)(l0:List (S96))(a1:ByteArray)(r:Bool)(w:World)(hr0:Kd.C k96 w A0 l0.length l0)(hc0:l0.length≤c0)(h:spec_l10Dir.f k l0 a1=some r):
 Calls Tryz.prog 121 #[.slice A0 l0.length c0,.string a1] w fun e w'=>e= .returned (.bool r)∧qE w w':=by
 have HR0:=zz hr0
 have HC0:=zz hc0
 clear hr0 hc0
 unfold spec_l10Dir.f at h
 have H:=h
 clear h
 replace H:=zf H
 obtain⟨t305,A30,H⟩:=H
 try dsimp only at H
 have A3:=zz A30
 clear A30
 by_cases c4:t305≥0
 case neg=>
  rw[if_neg c4] at H
  have c4b0:=zgen c4
  clear c4
  obtain rfl:=zi H
  go_enter Tryz.func121,Tryz.ntmps121
  go_wp2_with(first|(refine zL 103 8 Tryz.func103 #[.slice A0 l0.length c0,.string a1] ?_;(with_reducible refine(spec_l10Find.calls k _ _ l0 a1 t305 _ ?s1 ?s2 A3.out).mono ?_);(case s1=>exact zd HR0.out);(case s2=>exact HC0.out);rintro e w' ⟨rfl,⟨nd,rfl⟩⟩;refine⟨_,rfl,?_⟩))
  go_ret
  exact⟨zr,by repeat(first|exact qE.refl _|apply qE.step)⟩
 rw[if_pos c4] at H
 have c4b0:=zge c4
 clear c4
 by_cases c5:0≤t305
 case neg=>exact zno H c5
 rw[if_pos c5] at H
 have c5b0:=z1 c5
 clear c5
 by_cases c6:t305<(l0.length:Int)
 case neg=>exact zno H c6
 rw[if_pos c6] at H
 have c6b0:=z1 c6
 clear c6
 obtain rfl:=zi H
 go_enter Tryz.func121,Tryz.ntmps121
 go_wp2_with(first|(refine zL 103 8 Tryz.func103 #[.slice A0 l0.length c0,.string a1] ?_;(with_reducible refine(spec_l10Find.calls k _ _ l0 a1 t305 _ ?s1 ?s2 A3.out).mono ?_);(case s1=>exact zd HR0.out);(case s2=>exact HC0.out);rintro e w' ⟨rfl,⟨nd,rfl⟩⟩;refine⟨_,rfl,?_⟩;have p306:0≤(t305:Int):=z2;have q306:t305<(l0.length:Int):=z2;obtain⟨ad306,e306,hx306_0,hx306_1,hx306_2,hx306_3⟩:=at_T96 HR0.out t305 p306 q306;cases e306;replace p306:=eq_true p306;replace q306:=eq_true q306))
 go_ret
 exact⟨zr,by repeat(first|exact qE.refl _|apply qE.step)⟩
end Go.Proofs.YtcekmnclmldmmaaGreatDoor.Q
