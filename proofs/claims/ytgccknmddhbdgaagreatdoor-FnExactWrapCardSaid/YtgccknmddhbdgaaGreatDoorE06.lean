import Derived.Maps.OwnOps
import Derived.Maps.Views
import Derived.Test.YtgccknmddhbdgaaGreatDoorE04
namespace Go.Proofs.YtgccknmddhbdgaaGreatDoor.Q
open Go.RowKit W1 W2 W3
attribute [local go_sem] max2_int min2_int max_two min_two max_three min_three max_four min_four
attribute [local go_sem high] bl_leq bl_gtr bl_geq
set_option maxHeartbeats 8000000
set_option maxRecDepth 100000
namespace MapSet
open Go.WideMaps Go.Maps
def of:List ByteArray->DataW Unit
 |[]=> .map []
 |s::ds=>(of ds).put (.string s.data.toList) (.lit (.int .i64 1))
theorem isMap:∀ds,IsMap (of ds)
 |[]=>isMap_empty
 |_::ds=>(isMap ds).put _ _
theorem keyed:Keyed Tryz.prog 9:=string_keyed Tryz.underlying9
theorem zero(w:World):(zeroValue 3).run Tryz.prog w= .ok (.int .i64 0) w:=by kernel_rfl
theorem key(s:ByteArray)(h:s.size<=maxLen):keyOf Tryz.prog 9 (.string s)=some (.string s.data.toList):=keyOf_string_mk Tryz.underlying9 h
theorem inj{a b:ByteArray}(h:a.data.toList=b.data.toList):a=b:=by
 cases a with|mk x=>cases b with|mk y=>cases x;cases y;simp_all
def has(u:ByteArray)(ds:List ByteArray):Bool:=ds.any fun s=>decide (u.data.toList=s.data.toList)
theorem at_(u:ByteArray):∀ds,(of ds).atKey (.string u.data.toList) (.lit (.int .i64 0))= .lit (.int .i64 (if has u ds then 1 else 0))
 |[]=>rfl
 |s::ds=>by
  by_cases h:u.data.toList=s.data.toList
  ·have e:has u (s::ds)=true:=by simp[has,h]
   rw[of];rw[h,atKey_put_same (k:= .string s.data.toList) (isMap ds) trivial,e];rfl
  ·have hne:(Lit.string u.data.toList)≠ .string s.data.toList:=fun e=>h (by injection e);have e:has u (s::ds)=has u ds:=by rw[has,List.any_cons,decide_eq_false h];rfl
   rw[of,atKey_put_other hne,at_ u ds,e]
theorem is0{u:ByteArray}{ds:List ByteArray}{c:Int}(h:(of ds).atKey (.string u.data.toList) (.lit (.int .i64 0))= .lit (.int .i64 c)):c=if has u ds then 1 else 0:=by
 rw[at_] at h;injection h with h
 injection h with _ h
 exact h.symm
def MS(w:World)(b:Nat)(ds:List ByteArray):Prop:=w.ownsMap Tryz.prog 9 (plainElem (H:=Unit) Tryz.prog 3) b ds.length (of ds)
theorem MS.below{w W:World}{b:Nat}{ds:List ByteArray}(h:MS w b ds)(hb:Below w.heap.size w W):MS W b ds:=
 World.ownsMap.kept (row:=none) h ⟨hb.os,hb.tape,hb.output,hb.size,fun k hk _=>hb.block k hk⟩ (by simp)
theorem grown{a W W':World}{b:Nat}(h:Below a.heap.size a W)(hg:W.grownBy W' (some b))(hb:a.heap.size<=b):Below a.heap.size a W':=
 h.grown hg h.size (fun k hk=>by cases hk;exact hb)
def put(ds:List ByteArray)(s:ByteArray):Option (List ByteArray):=if s.size<=140737488355328/\ds.length<4194304 then some (s::ds) else none
def get(ds:List ByteArray)(s:ByteArray):Option Int:=if s.size<=140737488355328 then some (if has s ds then 1 else 0) else none
section
variable {ops : Array Oper} {rest : List Oper} {o : Oper} {a : Act} {Q : Exit -> Act -> World -> Prop} {W : World} {b : Nat} {ds : List ByteArray}
theorem make_event(hgd:o.guard=none){N:Tmp}(hd:o.dst=some N){t:TypeId}(ho:o.op= .makeMap t none)
 (h:∀g w1,W.heap.size<=g->MS w1 g []->Below W.heap.size W w1->wpList Tryz.prog ops Q rest (a.put o.dst (.map (some g))) w1):wpList Tryz.prog ops Q (o::rest) a W:=by
 refine Kd.event_run hgd (w1:=W.alloc (.map #[] 0)) (v:= .map (some W.heap.size)) ?_ (h _ _ (Nat.le_refl _) (World.ownsMap_made _ _ _ _) (qS (Below.refl _ _) _));unfold execOp;simp[ho,Instr.makeMap]
theorem gate_put{t:TypeId}{m k:Tmp}{v:Operand}(_ho:o.op= .mapUpdate t (.tmp m) (.tmp k) v)(h:wpList Tryz.prog ops Q (o::rest) a W):wpList Tryz.prog ops Q (o::rest) a W:=h
theorem gate_get{t:TypeId}{m k:Tmp}(_ho:o.op= .lookup t (.tmp m) (.tmp k) false)(h:wpList Tryz.prog ops Q (o::rest) a W):wpList Tryz.prog ops Q (o::rest) a W:=h
theorem put_event(hgd:o.guard=none){m k:Tmp}(ho:o.op= .mapUpdate 110 (.tmp m) (.tmp k) (.const (.int .i64 1))){s:ByteArray}(hm:a.eval (.tmp m)= .map (some b))(hk:a.eval (.tmp k)= .string s)
 (hM:MS W b ds) {ds':List ByteArray} (hp:put ds s=some ds')
 (h:∀w1,MS w1 b ds'->W.grownBy w1 (some b)->wpList Tryz.prog ops Q rest (a.put o.dst undef) w1):wpList Tryz.prog ops Q (o::rest) a W:=by
 unfold put at hp;split at hp
 ·rename_i hc
  obtain rfl:=Option.some.inj hp;exact wpList_mapUpdate_own W hgd (.tmp m) (.tmp k) (.const (.int .i64 1)) 110 ho 9 3 keyed Tryz.underlying110 _ b ds.length (of ds) hm hM (by simp only[maxLen];omega) _ _ _ hk rfl (key s (Nat.le_trans hc.1 (by decide))) (.lit (.int .i64 1)) [] (plainElem_int Tryz.underlying3 (by decide)) (fun w1 h1 h2=>h w1 h1 h2)
 ·exact absurd hp (by simp)
theorem get_event(hgd:o.guard=none){m k:Tmp}(ho:o.op= .lookup 110 (.tmp m) (.tmp k) false){s:ByteArray}(hm:a.eval (.tmp m)= .map (some b))(hk:a.eval (.tmp k)= .string s)
 (hM:MS W b ds) {c:Int} (hp:get ds s=some c) (h:wpList Tryz.prog ops Q rest (a.put o.dst (.int .i64 c)) W):wpList Tryz.prog ops Q (o::rest) a W:=by
 unfold get at hp;split at hp
 ·rename_i hc
  obtain⟨c',hrun,hat,_⟩:=World.ownsMap.lookup_int hM keyed Tryz.underlying110 Tryz.underlying3 (zero W) (key s (Nat.le_trans hc (by decide)));have e:=is0 hat;obtain rfl:=Option.some.inj hp;rw[e] at hrun;refine Kd.event_run hgd ?_ h;unfold execOp;simp only[ho,hm,hk,Sem.run_bind,hrun,Result.andThen_ok];rfl
 ·exact absurd hp (by simp)
end
end MapSet
theorem own_strs_made(w:World)(e:Nat)(xs:List ByteArray)(hl:xs.length<=maxLen):
 Kd.R Kd.string e (w.alloc (.cells (xs.map Value.string).toArray e)) w.heap.size (fun _=>True) (.slice (some ⟨w.heap.size,0,none⟩) xs.length xs.length) xs:=by
 refine⟨fun _ _=>trivial,xs.map Value.string,⟨by simp[Kd.string,Kd.scalar],.inr ⟨w.heap.size,xs.length,(xs.map Value.string).toArray,rfl,Nat.le_refl _,heap_alloc_new w _,Nat.le_refl _,hl,by simp[Kd.string,Kd.scalar],?_⟩⟩,?_⟩
 ·simp[Kd.string,Kd.scalar];rw[List.take_of_length_le (by simp)]
 ·refine⟨by simp[Kd.string,Kd.scalar],fun j p hj=>?_⟩;have hlt:j<xs.length:=(List.getElem?_eq_some_iff.1 hj).1;have hp:xs[j]=p:=(List.getElem?_eq_some_iff.1 hj).2;show((xs.map Value.string).drop (j*1)).take 1=[Value.string p]
  rw[Nat.mul_one,List.drop_eq_getElem_cons (by simpa using hlt)];simp[hp]
def strings_Split.f(a0 a1:ByteArray):Option (List ByteArray):=
 if 1<=a1.size/\a0.size<4294967281 then some (Lib.splitB a1 0 (Lib.countB a0 a1) a0) else none
theorem strings_Split.calls(a0 a1:ByteArray)(r:List ByteArray)(w:World)(hG_:GOK w)(h:strings_Split.f a0 a1=some r):
 Calls Tryz.prog 92 #[.string a0,.string a1] w fun e w'=>∃v0_:Value,e= .returned v0_/\Kd.R Kd.string 9 w' w.heap.size (fun _=>True) v0_ r/\Below w.heap.size w w':=by
 unfold strings_Split.f at h;split at h
 ·rename_i hc
  obtain rfl:=Option.some.inj h;obtain⟨m,hm⟩:=hG_.out;refine(Tryz.strings_Split a0 a1 m w hc.2 hm hc.1).mono fun e w' ⟨he,hw⟩=>⟨_,he,?_,?_⟩
  ·subst hw;have hlen:=Lib.splitB_all a1 hc.1 0 (Lib.countB a0 a1) a0 rfl;have hle:=Lib.countB_le a1 hc.1 a0.size a0 (Nat.le_refl _);rw[<-hlen];exact own_strs_made w 9 _ (by simp only[maxLen];omega)
  ·subst hw;exact(Below.refl _ _).alloc (Nat.le_refl _) _
 ·exact absurd h (by simp)
def impl_pathOk.l0:Nat->List ByteArray->Int->Int->Option (Bool)
 |0,_,_,_=>none
 |k+1,ab,ac,aa=>if aa<ac then(if 0<=aa then(if aa<(ab.length:Int) then((impl_NameOk.f k (rdOf ByteArray.empty ab aa)).bind fun ad=>(if ad=true then(impl_pathOk.l0 k ab ac (wrap64 (aa+1))) else(some false))) else(none)) else(none)) else(some true)
def impl_pathOk.f(k:Nat)(a0:ByteArray):Option (Bool):=(strings_Split.f a0 (⟨#[47]⟩:ByteArray)).bind fun aa=>(if(aa.length:Int)>8 then(some false) else(impl_pathOk.l0 k aa (aa.length:Int) 0))
theorem impl_pathOk.calls(k:Nat)(a0:ByteArray)(r:Bool)(w:World)(hG_:GOK w)(H:impl_pathOk.f k a0=some r):
 Calls Tryz.prog 63 #[.string a0] w fun e w'=>e= .returned (.bool r)/\Below w.heap.size w w':=by
 have HG:=zz hG_;clear hG_;have HB:=yB w;unfold impl_pathOk.f at H;replace HB:=HB.out;have HW:=yB w;go_enter Tryz.func63,Tryz.ntmps63;replace H:=yf H;obtain⟨ac,A2,H⟩:=H;refine yC H ?_ ?_<;>clear H<;>intro c3 H
 ·have al:=zgt c3;have am:decide (8<ac.length)=true:=z1 yo_;clear c3;go_wp2_with(fail)
  refine(strings_Split.calls _ _ _ _ (GOK.below HG.out (zv HW.out HB)) A2.out).mono ?_;rintro e w4 ⟨ah,rfl,ab,hb⟩;replace HB:=zv HB hb;clear hb;have hst:=HB;replace HW:=zz (zv HW.out hst);clear hst;replace HB:=Below.refl w4.heap.size w4;obtain⟨ar,au,rfl,hl_,hC_⟩:=Kd.R_reads ab;have aA:=zz hC_;have aB:=zz hl_;clear hl_ hC_ ab;obtain rfl:=zi H;exact yR
 have al:=zgtn c3;have am:decide (8<ac.length)=false:=z0 yo_;clear c3;go_wp2_with(fail)
 refine(strings_Split.calls _ _ _ _ (GOK.below HG.out (zv HW.out HB)) A2.out).mono ?_;rintro e w6 ⟨ah,rfl,ab,hb⟩;replace HB:=zv HB hb;clear hb;have hst:=HB;replace HW:=zz (zv HW.out hst);clear hst;replace HB:=Below.refl w6.heap.size w6;obtain⟨av,aw,rfl,hl_,hC_⟩:=Kd.R_reads ab;have an:=zz hC_;have aC:=zz hl_;clear hl_ hC_ ab;go_wp2_with(fail)
 go_loopg[13] k (fun kq ap w'=>∃(aa:Int),ap= .int .i64 aa/\qB (impl_pathOk.l0 kq ac (ac.length:Int) aa=some r)/\qB (kq<=k)/\qB (Below w6.heap.size w6 w'))
 case atStart=>exact⟨(0),zr,⟨H⟩,⟨Nat.le_refl _⟩,⟨HB⟩⟩
 case round=>
  clear H HB;obtain⟨aa,rfl,H,ag,HB⟩:=hrel;replace HB:=HB.out;replace H:=H.out;have aj:=yB w6;cases gk with
  |zero=>simp[impl_pathOk.l0] at H
  |succ ai=>
   simp only[impl_pathOk.l0] at H;refine yDn H ?_ ?_<;>clear H<;>intro aD H
   ·obtain rfl:=zi H;exact yR
   replace H:=yAD H;obtain⟨ax,H⟩:=H;replace H:=yAD H;obtain⟨ay,H⟩:=H;have ae:0<=(aa:Int):=z2;have af:(aa:Int)<(ac.length:Int):=z2;obtain⟨az,ao,ad⟩:=Kd.vA an.out aa ae af;cases ao;replace ad:=qL ad;replace ae:=eq_true ae;replace af:=eq_true af;replace H:=yf H;obtain⟨aE,ak,H⟩:=H;refine yT H ?_ ?_<;>clear H<;>rintro rfl H
   ·go_wp2_with(fail)
    refine(impl_NameOk.calls ai _ _ _ ak.out).mono ?_;rintro e aF ⟨rfl,hd⟩;replace HB:=zv HB hd.below;clear hd;go_wp2_with(fail)
    go_roundg ai
    case measure=>exact yM1 ag
    case rel=>exact⟨(wrap64 (aa+1)),zr,⟨H⟩,⟨yM1 ag⟩,⟨zv aj.out HB⟩⟩
   go_wp2_with(fail)
   refine(impl_NameOk.calls ai _ _ _ ak.out).mono ?_;rintro e aG ⟨rfl,hd⟩;replace HB:=zv HB hd.below;clear hd;obtain rfl:=zi H;exact yR
def bytealg_LastIndexByteString.l0:Nat->ByteArray->Int->Int->Option (Int)
 |0,_,_,_=>none
 |k+1,x0,x1,x5=>if x5>=0 then(if 0<=x5 then(if x5<(x0.size:Int) then(if(bt x0 x5)=x1 then(some x5) else(bytealg_LastIndexByteString.l0 k x0 x1 (wrap64 (x5 - 1)))) else(none)) else(none)) else(some (-1))
def bytealg_LastIndexByteString.f(k:Nat)(a0:ByteArray)(a1:Int):Option (Int):=bytealg_LastIndexByteString.l0 k a0 a1 (wrap64 ((a0.size:Int) - 1))
theorem bytealg_LastIndexByteString.calls(k:Nat)(a0:ByteArray)(a1:Int)(r:Int)(w:World)(H:bytealg_LastIndexByteString.f k a0 a1=some r):
 Calls Tryz.prog 111 #[.string a0,.int .u8 a1] w fun e w'=>e= .returned (.int .i64 r)/\vB w w':=by
 unfold bytealg_LastIndexByteString.f at H;have H':=zz H;clear H;go_enter Tryz.func111,Tryz.ntmps111;go_wp2;go_loopg[5] k (fun kq v5 w'=>∃(aa:Int),v5= .int .i64 aa/\qB (bytealg_LastIndexByteString.l0 kq a0 a1 aa=some r)/\qB (kq<=k)/\vB w w')
 case atStart=>exact⟨(wrap64 ((a0.size:Int) - 1)),zr,H',⟨Nat.le_refl _⟩,yD0⟩
 case round=>
  clear H';obtain⟨aa,rfl,HA,ab,⟨m1,rfl⟩⟩:=hrel;cases gk with
  |zero=>exact absurd HA.out (by simp[bytealg_LastIndexByteString.l0])
  |succ k1=>
   have H:=HA.out;clear HA;simp only[bytealg_LastIndexByteString.l0] at H;refine yEn H ?_ ?_<;>clear H<;>intro af H
   ·obtain rfl:=zi H;exact yr
   replace H:=yAD H;obtain⟨ag,H⟩:=H;replace H:=yAD H;obtain⟨ah,H⟩:=H;refine yC H ?_ ?_<;>clear H<;>intro c7 H
   ·obtain⟨ac,ad⟩:=zq c7;clear c7;obtain rfl:=zi H;have p6:0<=(aa:Int):=z2;have q6:aa<(a0.size:Int):=z2;have ae:=bt_at a0 aa;replace p6:=eq_true p6;replace q6:=eq_true q6;exact yr
   obtain⟨ac,ad⟩:=zw c7;have H':=zz H;clear H;have p6:0<=(aa:Int):=z2;have q6:aa<(a0.size:Int):=z2;have ae:=bt_at a0 aa;replace p6:=eq_true p6;replace q6:=eq_true q6;go_wp2;go_roundg k1
   case measure=>exact yM1 ab
   case rel=>exact⟨(wrap64 (aa - 1)),zr,H',⟨yM1 ab⟩,yD0⟩
def strings_LastIndexByte.f(k:Nat)(a0:ByteArray)(a1:Int):Option (Int):=(bytealg_LastIndexByteString.f k a0 a1).bind fun aa=>(some aa)
theorem strings_LastIndexByte.calls(k:Nat)(a0:ByteArray)(a1:Int)(r:Int)(w:World)(H:strings_LastIndexByte.f k a0 a1=some r):
 Calls Tryz.prog 93 #[.string a0,.int .u8 a1] w fun e w'=>e= .returned (.int .i64 r)/\vB w w':=by
 unfold strings_LastIndexByte.f at H;replace H:=zf H;obtain⟨ab,aa,H⟩:=H;try dsimp only at H
 have A3:=zz aa;clear aa;obtain rfl:=zi H;go_enter Tryz.func93,Tryz.ntmps93;go_wp2_with(first|(refine zL 111 7 Tryz.func111 #[.string a0,.int .u8 a1] ?_;(with_reducible refine(bytealg_LastIndexByteString.calls k a0 a1 ab _ A3.out).mono ?_);rintro e w' ⟨rfl,⟨nd,rfl⟩⟩;refine⟨_,rfl,?_⟩))
 go_ret;exact⟨zr,yD0⟩
def impl_upper.f(k:Nat)(a0:ByteArray):Option (ByteArray×Bool):=(strings_LastIndexByte.f k a0 47).bind fun aa=>(if aa<0 then(some ((⟨#[]⟩:ByteArray),false)) else(if 0<=aa then(if aa<=(a0.size:Int) then(some (a0.extract 0 (aa:Int).toNat,true)) else(none)) else(none)))
theorem impl_upper.calls(k:Nat)(a0:ByteArray)(r1:ByteArray)(r2:Bool)(w:World)(H:impl_upper.f k a0=some (r1,r2)):
 Calls Tryz.prog 64 #[.string a0] w fun e w'=>e= .returned (.tuple #[.string r1,.bool r2])/\vB w w':=by
 unfold impl_upper.f at H;replace H:=zf H;obtain⟨aa,ab,H⟩:=H;try dsimp only at H
 have A2:=zz ab;clear ab;refine yD H ?_ ?_<;>clear H<;>intro ac H
 ·simp only[Option.some.injEq,Prod.mk.injEq] at H;obtain⟨rfl,rfl⟩:=H;go_enter Tryz.func64,Tryz.ntmps64;go_wp2_with(first|(refine zL 93 6 Tryz.func93 #[.string a0,.int .u8 47] ?_;(with_reducible refine(strings_LastIndexByte.calls k a0 47 aa _ A2.out).mono ?_);rintro e w' ⟨rfl,⟨nd,rfl⟩⟩;refine⟨_,rfl,?_⟩))
  go_ret2
  exact⟨zr,yD0⟩
 replace H:=yA H;obtain⟨c4,H⟩:=H;have ad:=eq_true c4;have ae:=z1 c4;clear c4;replace H:=yA H;obtain⟨c5,H⟩:=H;have af:=eq_true c5;have ag:=z1 c5;clear c5;simp only[Option.some.injEq,Prod.mk.injEq] at H;obtain⟨rfl,rfl⟩:=H;go_enter Tryz.func64,Tryz.ntmps64;go_wp2_with(first|(refine zL 93 6 Tryz.func93 #[.string a0,.int .u8 47] ?_;(with_reducible refine(strings_LastIndexByte.calls k a0 47 aa _ A2.out).mono ?_);rintro e w' ⟨rfl,⟨nd,rfl⟩⟩;refine⟨_,rfl,?_⟩))
 go_ret2
 exact⟨zr,yD0⟩
mutual
def impl_TreeOk.l0:Nat->List (S63)->List ByteArray->List (S63)->Int->Int->Option (Bool)
 |0,_,_,_,_,_=>none
 |k+1,x0,x3,ab,ac,aa=>if aa<ac then(if 0<=aa then(if aa<(ab.length:Int) then((impl_pathOk.f k ((qA ab aa).f0)).bind fun ah=>(if ah=true then(if aa>0 then(if 0<=(wrap64 (aa - 1)) then(if(wrap64 (aa - 1))<(x0.length:Int) then(if((Op.bytesLess (((qA x0 (wrap64 (aa - 1))).f0).toList) (((qA ab aa).f0).toList))=true) then(if(qA ab aa).f3=true then(if((qA ab aa).f1)=2 then(if((qA ab aa).f1)=1 then(if((qA ab aa).f2).toList=([]:List UInt8) then((MapSet.put x3 ((qA ab aa).f0)).bind fun ai=>(impl_TreeOk.l0 k x0 ai ab ac (wrap64 (aa+1)))) else(some false)) else(if(((qA ab aa).f2).size:Int)>20000 then(some false) else(impl_TreeOk.l0 k x0 x3 ab ac (wrap64 (aa+1))))) else(some false)) else(if((qA ab aa).f1)=1 then(if((qA ab aa).f2).toList=([]:List UInt8) then((MapSet.put x3 ((qA ab aa).f0)).bind fun aj=>(impl_TreeOk.l0 k x0 aj ab ac (wrap64 (aa+1)))) else(some false)) else(if((qA ab aa).f1)=2 then(if(((qA ab aa).f2).size:Int)>20000 then(some false) else(impl_TreeOk.l0 k x0 x3 ab ac (wrap64 (aa+1)))) else(if((qA ab aa).f1)=3 then(if(((qA ab aa).f2).size:Int)<1 then(some false) else(if(((qA ab aa).f2).size:Int)>20000 then(some false) else(impl_TreeOk.l0 k x0 x3 ab ac (wrap64 (aa+1))))) else(some false))))) else(some false)) else(none)) else(none)) else(if(qA ab aa).f3=true then(if((qA ab aa).f1)=2 then(if((qA ab aa).f1)=1 then(if((qA ab aa).f2).toList=([]:List UInt8) then((MapSet.put x3 ((qA ab aa).f0)).bind fun ak=>(impl_TreeOk.l0 k x0 ak ab ac (wrap64 (aa+1)))) else(some false)) else(if(((qA ab aa).f2).size:Int)>20000 then(some false) else(impl_TreeOk.l0 k x0 x3 ab ac (wrap64 (aa+1))))) else(some false)) else(if((qA ab aa).f1)=1 then(if((qA ab aa).f2).toList=([]:List UInt8) then((MapSet.put x3 ((qA ab aa).f0)).bind fun al=>(impl_TreeOk.l0 k x0 al ab ac (wrap64 (aa+1)))) else(some false)) else(if((qA ab aa).f1)=2 then(if(((qA ab aa).f2).size:Int)>20000 then(some false) else(impl_TreeOk.l0 k x0 x3 ab ac (wrap64 (aa+1)))) else(if((qA ab aa).f1)=3 then(if(((qA ab aa).f2).size:Int)<1 then(some false) else(if(((qA ab aa).f2).size:Int)>20000 then(some false) else(impl_TreeOk.l0 k x0 x3 ab ac (wrap64 (aa+1))))) else(some false)))))) else(some false))) else(none)) else(none)) else(impl_TreeOk.l1 k x3 x0 (x0.length:Int) 0)
def impl_TreeOk.l1:Nat->List ByteArray->List (S63)->Int->Int->Option (Bool)
 |0,_,_,_,_=>none
 |k+1,x3,ae,ag,ad=>if ad<ag then(if 0<=ad then(if ad<(ae.length:Int) then((impl_upper.f k ((qA ae ad).f0)).bind fun af=>(if af.2=true then((MapSet.get x3 af.1).bind fun am=>(if am=0 then(some false) else(impl_TreeOk.l1 k x3 ae ag (wrap64 (ad+1))))) else(impl_TreeOk.l1 k x3 ae ag (wrap64 (ad+1))))) else(none)) else(none)) else(some true)
end
def impl_TreeOk.f(k:Nat)(l0:List (S63)):Option (Bool):=if(l0.length:Int)>500 then(some false) else(impl_TreeOk.l0 k l0 ([]:List ByteArray) l0 (l0.length:Int) 0)
theorem impl_TreeOk.calls(k:Nat)(A0:Option Addr)(c0:Nat)(l0:List (S63))(r:Bool)(w:World)(co:Kd.C k63 w A0 l0.length l0)(cp:l0.length<=c0)(hG_:GOK w)(H:impl_TreeOk.f k l0=some r):
 Calls Tryz.prog 30 #[.slice A0 l0.length c0] w fun e w'=>e= .returned (.bool r)/\Below w.heap.size w w':=by
 have df:=Tryz.underlying63;have HG:=zz hG_;clear hG_;have ai:=zz co;have dw:=zz cp;clear co cp;have HB:=yB w;unfold impl_TreeOk.f at H;replace HB:=HB.out;have HW:=yB w;go_enter Tryz.func30,Tryz.ntmps30;refine yC H ?_ ?_<;>clear H<;>intro c2 H
 ·have cu:=zgt c2;have cv:decide (500<l0.length)=true:=z1 yo_;clear c2;obtain rfl:=zi H;exact yR
 have cu:=zgtn c2;have cv:decide (500<l0.length)=false:=z0 yo_;clear c2;go_wp2_with(first|(refine zN 13 ?_;refine MapSet.make_event ?hg (N:=13) ?hd (t:=110) ?ho ?_;(case hd=>rfl);(case hg=>rfl);(case ho=>rfl);intro bm wm hbm hms hb;have HBM:=zz (Nat.le_trans (qE HB) hbm);have HM:=zz hms;have HLm:=yB wm;replace HB:=zv HB hb;clear hb hbm hms))
 go_loopg[16] k (fun kq cL w'=>∃(ah:List ByteArray) (aa:Int),cL= .int .i64 aa/\qB (impl_TreeOk.l0 kq l0 ah l0 (l0.length:Int) aa=some r)/\qB (kq<=k)/\qB (Below w.heap.size w w')/\qB (MapSet.MS w' bm ah))
 case atStart=>exact⟨([]:List ByteArray),(0),zr,⟨H⟩,⟨Nat.le_refl _⟩,⟨HB⟩,HM⟩
 case round=>
  clear H HB;try clear HM
  obtain⟨ah,aa,rfl,H,ad,HB,HM_⟩:=hrel;have HM:=HM_;clear HM_;replace HB:=HB.out;replace H:=H.out
  rename World=>w
  have ac:=zz HB;replace HW:=zz (zv HW.out HB);replace ai:=zz (Kd.qD ai.out HB);have HLm:=yB w;replace HB:=Below.refl w.heap.size w;cases gk with
  |zero=>simp[impl_TreeOk.l0] at H
  |succ ae=>
   simp only[impl_TreeOk.l0] at H;refine yD H ?_ ?_<;>clear H<;>intro dh H
   ·replace H:=yAD H;obtain⟨di,H⟩:=H;replace H:=yAD H;obtain⟨dj,H⟩:=H;have dk:=yt (0<=(aa:Int));have dl:=yt ((aa:Int)<(l0.length:Int));obtain⟨bw,cw,am,an,ao,ap⟩:=vF ai.out aa z2 z2;cases cw;replace am:=qL am;replace an:=qL an;replace ao:=qL ao;replace ap:=qL ap;go_wp2_with(first|(refine zN 5 ?_;(try(refine z4 ?_;dsimp only));refine zX 5 63 #[.string (⟨#[]⟩:ByteArray),.int .i64 0,.string (⟨#[]⟩:ByteArray),.bool false] ?_;intro af hg w7 hbox hb;have hge:w.heap.size<=af:=(by rw[hg];exact qE HB);clear hg;have hst:Below w.heap.size w ((((w7.setCell ⟨af,0,none⟩ (.string ((qA l0 aa).f0))).setCell ⟨af,1,none⟩ (.int .i64 ((qA l0 aa).f1))).setCell ⟨af,2,none⟩ (.string ((qA l0 aa).f2))).setCell ⟨af,3,none⟩ (.bool ((qA l0 aa).f3))):=(qJ (qJ (qJ (qJ (zv HB hb) hge) hge) hge) hge);have hbx:((((w7.setCell ⟨af,0,none⟩ (.string ((qA l0 aa).f0))).setCell ⟨af,1,none⟩ (.int .i64 ((qA l0 aa).f1))).setCell ⟨af,2,none⟩ (.string ((qA l0 aa).f2))).setCell ⟨af,3,none⟩ (.bool ((qA l0 aa).f3))).heap[af]?=some (.cells #[.string ((qA l0 aa).f0),.int .i64 ((qA l0 aa).f1),.string ((qA l0 aa).f2),.bool ((qA l0 aa).f3)] 63 (0,0)):=(yP hbox);obtain⟨aR,aS,aT,aU,aV,aW,aX,aY⟩:=zc4 hbox)|((with_reducible refine qR (t:=63) (p:=5) rfl ?_);(try(refine z4 ?_;dsimp only));refine ye 63 5 ((((w7.setCell ⟨af,0,none⟩ (.string ((qA l0 aa).f0))).setCell ⟨af,1,none⟩ (.int .i64 ((qA l0 aa).f1))).setCell ⟨af,2,none⟩ (.string ((qA l0 aa).f2))).setCell ⟨af,3,none⟩ (.bool ((qA l0 aa).f3))) ?_;intro w8 hw;replace hst:=hst;rw[<-hw] at hst hbx;clear hw hb hbox hge HB aR aV aS aW aT aX aU aY;replace HW:=zz (zv HW.out hst);replace HLm:=zz (zv HLm.out hst);replace ac:=zz (zv ac.out hst);replace ai:=zz (Kd.qD ai.out hst);replace am:=qG am hst;replace an:=qG an hst;replace ao:=qG ao hst;replace ap:=qG ap hst;obtain⟨cx,cy,cz,cA⟩:=zx4 hbx;have HB:=Below.refl w8.heap.size w8;clear hbx hst))
    try simp only[Act.put,List.setIfInBounds_toArray,List.set_cons_zero,List.set_cons_succ]
    refine qT (C:=fun W_=>Below w8.heap.size w8 W_) zk zk (qK HB) ?_;replace H:=yf H;obtain⟨dm,A9,H⟩:=H;refine yF H ?_ ?_<;>clear H<;>rintro rfl H
    ·obtain rfl:=zi H;repeat(first|go_big_quiet_skip|(go_big_quiet_want;go_big_quiet_op;first|go_big_quiet_on|(apply zU;intro W hW;(first|with_reducible rfl|(go_at_call 63;exact callB (impl_pathOk.calls ae _ _ _ (GOK.below HG.out (zv HW.out hW)) A9.out) hW)|(go_simp;with_reducible rfl));go_big_quiet_on)))
     exact yW
    refine yGn H ?_ ?_<;>clear H<;>intro c7 H
    ·refine yC H ?_ ?_<;>clear H<;>intro aG H
     ·have bz:(qA l0 aa).f3=true:=aG;clear aG;refine yCn H ?_ ?_<;>clear H<;>intro a7 H
      ·obtain⟨bA,bB⟩:=zw a7;obtain rfl:=zi H;repeat(first|go_big_quiet_skip|(go_big_quiet_want;go_big_quiet_op;first|go_big_quiet_on|(apply zU;intro W hW;(first|with_reducible rfl|(go_at_call 63;exact callB (impl_pathOk.calls ae _ _ _ (GOK.below HG.out (zv HW.out hW)) A9.out) hW)|(go_simp;with_reducible rfl));go_big_quiet_on)))
       exact yW
      obtain⟨bA,bB⟩:=zq a7;clear a7;refine yCn H ?_ ?_<;>clear H<;>intro a8 H
      ·obtain⟨bC,bD⟩:=zw a8;refine yC H ?_ ?_<;>clear H<;>intro aH H
       ·have bE:=zgt aH;have bF:decide (20000<((qA l0 aa).f2).size)=true:=z1 yo_;clear aH;obtain rfl:=zi H;repeat(first|go_big_quiet_skip|(go_big_quiet_want;go_big_quiet_op;first|go_big_quiet_on|(apply zU;intro W hW;(first|with_reducible rfl|(go_at_call 63;exact callB (impl_pathOk.calls ae _ _ _ (GOK.below HG.out (zv HW.out hW)) A9.out) hW)|(go_simp;with_reducible rfl));go_big_quiet_on)))
        exact yW
       have bE:=zgtn aH;have bF:decide (20000<((qA l0 aa).f2).size)=false:=z0 yo_;clear aH;repeat(first|go_big_quiet_skip|(go_big_quiet_want;go_big_quiet_op;first|go_big_quiet_on|(apply zU;intro W hW;(first|with_reducible rfl|(go_at_call 63;exact callB (impl_pathOk.calls ae _ _ _ (GOK.below HG.out (zv HW.out hW)) A9.out) hW)|(go_simp;with_reducible rfl));go_big_quiet_on)))
       clear HB;refine zW fun cM (HB:Below w8.heap.size w8 cM)=>?_;go_wp2_with(fail)
       go_roundg ae
       case measure=>exact yM1 ad
       case rel=>exact⟨(ah),(wrap64 (aa+1)),zr,⟨H⟩,⟨yM1 ad⟩,⟨zv ac.out HB⟩,⟨HM.out.below (zv HLm.out HB)⟩⟩
      obtain⟨bC,bD⟩:=zq a8;clear a8;refine yCn H ?_ ?_<;>clear H<;>intro a9 H
      ·obtain⟨bG,bH⟩:=zw a9;obtain rfl:=zi H;repeat(first|go_big_quiet_skip|(go_big_quiet_want;go_big_quiet_op;first|go_big_quiet_on|(apply zU;intro W hW;(first|with_reducible rfl|(go_at_call 63;exact callB (impl_pathOk.calls ae _ _ _ (GOK.below HG.out (zv HW.out hW)) A9.out) hW)|(go_simp;with_reducible rfl));go_big_quiet_on)))
       exact yW
      obtain⟨bG,bH⟩:=zq a9;clear a9;replace H:=yf H;obtain⟨cB,cN,H⟩:=H;repeat(first|go_big_quiet_skip|(go_big_quiet_want;go_big_quiet_op;first|go_big_quiet_on|(apply zU;intro W hW;(first|with_reducible rfl|(go_at_call 63;exact callB (impl_pathOk.calls ae _ _ _ (GOK.below HG.out (zv HW.out hW)) A9.out) hW)|(go_simp;with_reducible rfl));go_big_quiet_on)))
      clear HB;refine zW fun cO (HB:Below w8.heap.size w8 cO)=>?_;go_wp2_with(first|((with_reducible refine MapSet.gate_put (t:=110) (m:=56) (k:=58) rfl ?_);refine MapSet.put_event rfl rfl rfl rfl (HM.out.below (zv HLm.out HB)) cN.out ?_;intro ba hms hg;have aj:=zz hms;have ak:=zz (MapSet.grown (zv ac.out HB) hg HBM.out);have al:=zz (MapSet.grown (zv HW.out HB) hg HBM.out);clear HM HB HLm HW ac hms hg;have HM:=aj;have ac:=ak;have HW:=al;have HB:=Below.refl ba.heap.size ba;have HLm:=yB ba;clear aj ak al))
      go_roundg ae
      case measure=>exact yM1 ad
      case rel=>exact⟨(cB),(wrap64 (aa+1)),zr,⟨H⟩,⟨yM1 ad⟩,⟨zv ac.out HB⟩,⟨HM.out.below (zv HLm.out HB)⟩⟩
     have bz:(qA l0 aa).f3=false:=by simpa using aG
     clear aG;refine yCn H ?_ ?_<;>clear H<;>intro bb H
     ·obtain⟨bI,bJ⟩:=zw bb;refine yCn H ?_ ?_<;>clear H<;>intro bc H
      ·obtain⟨bK,bL⟩:=zw bc;refine yCn H ?_ ?_<;>clear H<;>intro bd H
       ·obtain⟨bM,bN⟩:=zw bd;obtain rfl:=zi H;repeat(first|go_big_quiet_skip|(go_big_quiet_want;go_big_quiet_op;first|go_big_quiet_on|(apply zU;intro W hW;(first|with_reducible rfl|(go_at_call 63;exact callB (impl_pathOk.calls ae _ _ _ (GOK.below HG.out (zv HW.out hW)) A9.out) hW)|(go_simp;with_reducible rfl));go_big_quiet_on)))
        exact yW
       obtain⟨bM,bN⟩:=zq bd;clear bd;refine yC H ?_ ?_<;>clear H<;>intro aI H
       ·have bO:=z1 aI;have bP:decide (((qA l0 aa).f2).size<1)=true:=z1 yo_;clear aI;obtain rfl:=zi H;repeat(first|go_big_quiet_skip|(go_big_quiet_want;go_big_quiet_op;first|go_big_quiet_on|(apply zU;intro W hW;(first|with_reducible rfl|(go_at_call 63;exact callB (impl_pathOk.calls ae _ _ _ (GOK.below HG.out (zv HW.out hW)) A9.out) hW)|(go_simp;with_reducible rfl));go_big_quiet_on)))
        exact yW
       have bO:=z0 aI;have bP:decide (((qA l0 aa).f2).size<1)=false:=z0 yo_;clear aI;refine yC H ?_ ?_<;>clear H<;>intro aJ H
       ·have bQ:=zgt aJ;have bR:decide (20000<((qA l0 aa).f2).size)=true:=z1 yo_;clear aJ;obtain rfl:=zi H;repeat(first|go_big_quiet_skip|(go_big_quiet_want;go_big_quiet_op;first|go_big_quiet_on|(apply zU;intro W hW;(first|with_reducible rfl|(go_at_call 63;exact callB (impl_pathOk.calls ae _ _ _ (GOK.below HG.out (zv HW.out hW)) A9.out) hW)|(go_simp;with_reducible rfl));go_big_quiet_on)))
        exact yW
       have bQ:=zgtn aJ;have bR:decide (20000<((qA l0 aa).f2).size)=false:=z0 yo_;clear aJ;repeat(first|go_big_quiet_skip|(go_big_quiet_want;go_big_quiet_op;first|go_big_quiet_on|(apply zU;intro W hW;(first|with_reducible rfl|(go_at_call 63;exact callB (impl_pathOk.calls ae _ _ _ (GOK.below HG.out (zv HW.out hW)) A9.out) hW)|(go_simp;with_reducible rfl));go_big_quiet_on)))
       clear HB;refine zW fun cP (HB:Below w8.heap.size w8 cP)=>?_;go_wp2_with(fail)
       go_roundg ae
       case measure=>exact yM1 ad
       case rel=>exact⟨(ah),(wrap64 (aa+1)),zr,⟨H⟩,⟨yM1 ad⟩,⟨zv ac.out HB⟩,⟨HM.out.below (zv HLm.out HB)⟩⟩
      obtain⟨bK,bL⟩:=zq bc;clear bc;refine yC H ?_ ?_<;>clear H<;>intro aK H
      ·have bS:=zgt aK;have bT:decide (20000<((qA l0 aa).f2).size)=true:=z1 yo_;clear aK;obtain rfl:=zi H;repeat(first|go_big_quiet_skip|(go_big_quiet_want;go_big_quiet_op;first|go_big_quiet_on|(apply zU;intro W hW;(first|with_reducible rfl|(go_at_call 63;exact callB (impl_pathOk.calls ae _ _ _ (GOK.below HG.out (zv HW.out hW)) A9.out) hW)|(go_simp;with_reducible rfl));go_big_quiet_on)))
       exact yW
      have bS:=zgtn aK;have bT:decide (20000<((qA l0 aa).f2).size)=false:=z0 yo_;clear aK;repeat(first|go_big_quiet_skip|(go_big_quiet_want;go_big_quiet_op;first|go_big_quiet_on|(apply zU;intro W hW;(first|with_reducible rfl|(go_at_call 63;exact callB (impl_pathOk.calls ae _ _ _ (GOK.below HG.out (zv HW.out hW)) A9.out) hW)|(go_simp;with_reducible rfl));go_big_quiet_on)))
      clear HB;refine zW fun cQ (HB:Below w8.heap.size w8 cQ)=>?_;go_wp2_with(fail)
      go_roundg ae
      case measure=>exact yM1 ad
      case rel=>exact⟨(ah),(wrap64 (aa+1)),zr,⟨H⟩,⟨yM1 ad⟩,⟨zv ac.out HB⟩,⟨HM.out.below (zv HLm.out HB)⟩⟩
     obtain⟨bI,bJ⟩:=zq bb;clear bb;refine yCn H ?_ ?_<;>clear H<;>intro be H
     ·obtain⟨bU,bV⟩:=zw be;obtain rfl:=zi H;repeat(first|go_big_quiet_skip|(go_big_quiet_want;go_big_quiet_op;first|go_big_quiet_on|(apply zU;intro W hW;(first|with_reducible rfl|(go_at_call 63;exact callB (impl_pathOk.calls ae _ _ _ (GOK.below HG.out (zv HW.out hW)) A9.out) hW)|(go_simp;with_reducible rfl));go_big_quiet_on)))
      exact yW
     obtain⟨bU,bV⟩:=zq be;clear be;replace H:=yf H;obtain⟨cC,cR,H⟩:=H;repeat(first|go_big_quiet_skip|(go_big_quiet_want;go_big_quiet_op;first|go_big_quiet_on|(apply zU;intro W hW;(first|with_reducible rfl|(go_at_call 63;exact callB (impl_pathOk.calls ae _ _ _ (GOK.below HG.out (zv HW.out hW)) A9.out) hW)|(go_simp;with_reducible rfl));go_big_quiet_on)))
     clear HB;refine zW fun cS (HB:Below w8.heap.size w8 cS)=>?_;go_wp2_with(first|((with_reducible refine MapSet.gate_put (t:=110) (m:=56) (k:=58) rfl ?_);refine MapSet.put_event rfl rfl rfl rfl (HM.out.below (zv HLm.out HB)) cR.out ?_;intro bf hms hg;have aj:=zz hms;have ak:=zz (MapSet.grown (zv ac.out HB) hg HBM.out);have al:=zz (MapSet.grown (zv HW.out HB) hg HBM.out);clear HM HB HLm HW ac hms hg;have HM:=aj;have ac:=ak;have HW:=al;have HB:=Below.refl bf.heap.size bf;have HLm:=yB bf;clear aj ak al))
     go_roundg ae
     case measure=>exact yM1 ad
     case rel=>exact⟨(cC),(wrap64 (aa+1)),zr,⟨H⟩,⟨yM1 ad⟩,⟨zv ac.out HB⟩,⟨HM.out.below (zv HLm.out HB)⟩⟩
    obtain⟨az,aA⟩:∃j_:Int,(wrap64 (aa - 1))=j_:=⟨_,rfl⟩
    (first|rw[aA] at H|simp only[aA] at H)
    have cT:(IntKind.i64.wrap (aa - 1))=az:=(i64_w _).trans aA
    (try rw[aA] at A9)
    replace H:=yAD H;obtain⟨c8,H⟩:=H;replace H:=yAD H;obtain⟨c9,H⟩:=H;have dn:=yt (0<=((az):Int));have dp:=yt (((az):Int)<(l0.length:Int));obtain⟨bW,cD,aB,aC,aD,aE⟩:=vF ai.out (az) z2 z2;obtain rfl:bw=bW:=(by injection cD)
    replace aB:=qL aB;replace aC:=qL aC;replace aD:=qL aD;replace aE:=qL aE;refine yCn H ?_ ?_<;>clear H<;>intro aL H
    ·have bX:(Op.bytesLess (((qA l0 (az)).f0).toList) (((qA l0 aa).f0).toList))=false:=by simpa using aL
     clear aL;obtain rfl:=zi H;repeat(first|go_big_quiet_skip|(go_big_quiet_want;go_big_quiet_op;first|go_big_quiet_on|(apply zU;intro W hW;(first|with_reducible rfl|(go_at_call 63;exact callB (impl_pathOk.calls ae _ _ _ (GOK.below HG.out (zv HW.out hW)) A9.out) hW)|(go_simp;with_reducible rfl));go_big_quiet_on)))
     exact yW
    have bX:(Op.bytesLess (((qA l0 (az)).f0).toList) (((qA l0 aa).f0).toList))=true:=aL;clear aL;refine yC H ?_ ?_<;>clear H<;>intro aM H
    ·have bY:(qA l0 aa).f3=true:=aM;clear aM;refine yCn H ?_ ?_<;>clear H<;>intro bg H
     ·obtain⟨bZ,b0⟩:=zw bg;obtain rfl:=zi H;repeat(first|go_big_quiet_skip|(go_big_quiet_want;go_big_quiet_op;first|go_big_quiet_on|(apply zU;intro W hW;(first|with_reducible rfl|(go_at_call 63;exact callB (impl_pathOk.calls ae _ _ _ (GOK.below HG.out (zv HW.out hW)) A9.out) hW)|(go_simp;with_reducible rfl));go_big_quiet_on)))
      exact yW
     obtain⟨bZ,b0⟩:=zq bg;clear bg;refine yCn H ?_ ?_<;>clear H<;>intro bh H
     ·obtain⟨b1,b2⟩:=zw bh;refine yC H ?_ ?_<;>clear H<;>intro aN H
      ·have b3:=zgt aN;have b4:decide (20000<((qA l0 aa).f2).size)=true:=z1 yo_;clear aN;obtain rfl:=zi H;repeat(first|go_big_quiet_skip|(go_big_quiet_want;go_big_quiet_op;first|go_big_quiet_on|(apply zU;intro W hW;(first|with_reducible rfl|(go_at_call 63;exact callB (impl_pathOk.calls ae _ _ _ (GOK.below HG.out (zv HW.out hW)) A9.out) hW)|(go_simp;with_reducible rfl));go_big_quiet_on)))
       exact yW
      have b3:=zgtn aN;have b4:decide (20000<((qA l0 aa).f2).size)=false:=z0 yo_;clear aN;repeat(first|go_big_quiet_skip|(go_big_quiet_want;go_big_quiet_op;first|go_big_quiet_on|(apply zU;intro W hW;(first|with_reducible rfl|(go_at_call 63;exact callB (impl_pathOk.calls ae _ _ _ (GOK.below HG.out (zv HW.out hW)) A9.out) hW)|(go_simp;with_reducible rfl));go_big_quiet_on)))
      clear HB;refine zW fun cU (HB:Below w8.heap.size w8 cU)=>?_;go_wp2_with(fail)
      go_roundg ae
      case measure=>exact yM1 ad
      case rel=>exact⟨(ah),(wrap64 (aa+1)),zr,⟨H⟩,⟨yM1 ad⟩,⟨zv ac.out HB⟩,⟨HM.out.below (zv HLm.out HB)⟩⟩
     obtain⟨b1,b2⟩:=zq bh;clear bh;refine yCn H ?_ ?_<;>clear H<;>intro bi H
     ·obtain⟨b5,b6⟩:=zw bi;obtain rfl:=zi H;repeat(first|go_big_quiet_skip|(go_big_quiet_want;go_big_quiet_op;first|go_big_quiet_on|(apply zU;intro W hW;(first|with_reducible rfl|(go_at_call 63;exact callB (impl_pathOk.calls ae _ _ _ (GOK.below HG.out (zv HW.out hW)) A9.out) hW)|(go_simp;with_reducible rfl));go_big_quiet_on)))
      exact yW
     obtain⟨b5,b6⟩:=zq bi;clear bi;replace H:=yf H;obtain⟨cE,cV,H⟩:=H;repeat(first|go_big_quiet_skip|(go_big_quiet_want;go_big_quiet_op;first|go_big_quiet_on|(apply zU;intro W hW;(first|with_reducible rfl|(go_at_call 63;exact callB (impl_pathOk.calls ae _ _ _ (GOK.below HG.out (zv HW.out hW)) A9.out) hW)|(go_simp;with_reducible rfl));go_big_quiet_on)))
     clear HB;refine zW fun cW (HB:Below w8.heap.size w8 cW)=>?_;go_wp2_with(first|((with_reducible refine MapSet.gate_put (t:=110) (m:=56) (k:=58) rfl ?_);refine MapSet.put_event rfl rfl rfl rfl (HM.out.below (zv HLm.out HB)) cV.out ?_;intro bj hms hg;have aj:=zz hms;have ak:=zz (MapSet.grown (zv ac.out HB) hg HBM.out);have al:=zz (MapSet.grown (zv HW.out HB) hg HBM.out);clear HM HB HLm HW ac hms hg;have HM:=aj;have ac:=ak;have HW:=al;have HB:=Below.refl bj.heap.size bj;have HLm:=yB bj;clear aj ak al))
     go_roundg ae
     case measure=>exact yM1 ad
     case rel=>exact⟨(cE),(wrap64 (aa+1)),zr,⟨H⟩,⟨yM1 ad⟩,⟨zv ac.out HB⟩,⟨HM.out.below (zv HLm.out HB)⟩⟩
    have bY:(qA l0 aa).f3=false:=by simpa using aM
    clear aM;refine yCn H ?_ ?_<;>clear H<;>intro bk H
    ·obtain⟨b7,b8⟩:=zw bk;refine yCn H ?_ ?_<;>clear H<;>intro bn H
     ·obtain⟨b9,ca⟩:=zw bn;refine yCn H ?_ ?_<;>clear H<;>intro bo H
      ·obtain⟨cb,cc⟩:=zw bo;obtain rfl:=zi H;repeat(first|go_big_quiet_skip|(go_big_quiet_want;go_big_quiet_op;first|go_big_quiet_on|(apply zU;intro W hW;(first|with_reducible rfl|(go_at_call 63;exact callB (impl_pathOk.calls ae _ _ _ (GOK.below HG.out (zv HW.out hW)) A9.out) hW)|(go_simp;with_reducible rfl));go_big_quiet_on)))
       exact yW
      obtain⟨cb,cc⟩:=zq bo;clear bo;refine yC H ?_ ?_<;>clear H<;>intro aO H
      ·have cd:=z1 aO;have ce:decide (((qA l0 aa).f2).size<1)=true:=z1 yo_;clear aO;obtain rfl:=zi H;repeat(first|go_big_quiet_skip|(go_big_quiet_want;go_big_quiet_op;first|go_big_quiet_on|(apply zU;intro W hW;(first|with_reducible rfl|(go_at_call 63;exact callB (impl_pathOk.calls ae _ _ _ (GOK.below HG.out (zv HW.out hW)) A9.out) hW)|(go_simp;with_reducible rfl));go_big_quiet_on)))
       exact yW
      have cd:=z0 aO;have ce:decide (((qA l0 aa).f2).size<1)=false:=z0 yo_;clear aO;refine yC H ?_ ?_<;>clear H<;>intro aP H
      ·have cf:=zgt aP;have cg:decide (20000<((qA l0 aa).f2).size)=true:=z1 yo_;clear aP;obtain rfl:=zi H;repeat(first|go_big_quiet_skip|(go_big_quiet_want;go_big_quiet_op;first|go_big_quiet_on|(apply zU;intro W hW;(first|with_reducible rfl|(go_at_call 63;exact callB (impl_pathOk.calls ae _ _ _ (GOK.below HG.out (zv HW.out hW)) A9.out) hW)|(go_simp;with_reducible rfl));go_big_quiet_on)))
       exact yW
      have cf:=zgtn aP;have cg:decide (20000<((qA l0 aa).f2).size)=false:=z0 yo_;clear aP;repeat(first|go_big_quiet_skip|(go_big_quiet_want;go_big_quiet_op;first|go_big_quiet_on|(apply zU;intro W hW;(first|with_reducible rfl|(go_at_call 63;exact callB (impl_pathOk.calls ae _ _ _ (GOK.below HG.out (zv HW.out hW)) A9.out) hW)|(go_simp;with_reducible rfl));go_big_quiet_on)))
      clear HB;refine zW fun cX (HB:Below w8.heap.size w8 cX)=>?_;go_wp2_with(fail)
      go_roundg ae
      case measure=>exact yM1 ad
      case rel=>exact⟨(ah),(wrap64 (aa+1)),zr,⟨H⟩,⟨yM1 ad⟩,⟨zv ac.out HB⟩,⟨HM.out.below (zv HLm.out HB)⟩⟩
     obtain⟨b9,ca⟩:=zq bn;clear bn;refine yC H ?_ ?_<;>clear H<;>intro aQ H
     ·have ch:=zgt aQ;have ci:decide (20000<((qA l0 aa).f2).size)=true:=z1 yo_;clear aQ;obtain rfl:=zi H;repeat(first|go_big_quiet_skip|(go_big_quiet_want;go_big_quiet_op;first|go_big_quiet_on|(apply zU;intro W hW;(first|with_reducible rfl|(go_at_call 63;exact callB (impl_pathOk.calls ae _ _ _ (GOK.below HG.out (zv HW.out hW)) A9.out) hW)|(go_simp;with_reducible rfl));go_big_quiet_on)))
      exact yW
     have ch:=zgtn aQ;have ci:decide (20000<((qA l0 aa).f2).size)=false:=z0 yo_;clear aQ;repeat(first|go_big_quiet_skip|(go_big_quiet_want;go_big_quiet_op;first|go_big_quiet_on|(apply zU;intro W hW;(first|with_reducible rfl|(go_at_call 63;exact callB (impl_pathOk.calls ae _ _ _ (GOK.below HG.out (zv HW.out hW)) A9.out) hW)|(go_simp;with_reducible rfl));go_big_quiet_on)))
     clear HB;refine zW fun cY (HB:Below w8.heap.size w8 cY)=>?_;go_wp2_with(fail)
     go_roundg ae
     case measure=>exact yM1 ad
     case rel=>exact⟨(ah),(wrap64 (aa+1)),zr,⟨H⟩,⟨yM1 ad⟩,⟨zv ac.out HB⟩,⟨HM.out.below (zv HLm.out HB)⟩⟩
    obtain⟨b7,b8⟩:=zq bk;clear bk;refine yCn H ?_ ?_<;>clear H<;>intro bq H
    ·obtain⟨cj,ck⟩:=zw bq;obtain rfl:=zi H;repeat(first|go_big_quiet_skip|(go_big_quiet_want;go_big_quiet_op;first|go_big_quiet_on|(apply zU;intro W hW;(first|with_reducible rfl|(go_at_call 63;exact callB (impl_pathOk.calls ae _ _ _ (GOK.below HG.out (zv HW.out hW)) A9.out) hW)|(go_simp;with_reducible rfl));go_big_quiet_on)))
     exact yW
    obtain⟨cj,ck⟩:=zq bq;clear bq;replace H:=yf H;obtain⟨cF,cZ,H⟩:=H;repeat(first|go_big_quiet_skip|(go_big_quiet_want;go_big_quiet_op;first|go_big_quiet_on|(apply zU;intro W hW;(first|with_reducible rfl|(go_at_call 63;exact callB (impl_pathOk.calls ae _ _ _ (GOK.below HG.out (zv HW.out hW)) A9.out) hW)|(go_simp;with_reducible rfl));go_big_quiet_on)))
    clear HB;refine zW fun c5 (HB:Below w8.heap.size w8 c5)=>?_;go_wp2_with(first|((with_reducible refine MapSet.gate_put (t:=110) (m:=56) (k:=58) rfl ?_);refine MapSet.put_event rfl rfl rfl rfl (HM.out.below (zv HLm.out HB)) cZ.out ?_;intro br hms hg;have aj:=zz hms;have ak:=zz (MapSet.grown (zv ac.out HB) hg HBM.out);have al:=zz (MapSet.grown (zv HW.out HB) hg HBM.out);clear HM HB HLm HW ac hms hg;have HM:=aj;have ac:=ak;have HW:=al;have HB:=Below.refl br.heap.size br;have HLm:=yB br;clear aj ak al))
    go_roundg ae
    case measure=>exact yM1 ad
    case rel=>exact⟨(cF),(wrap64 (aa+1)),zr,⟨H⟩,⟨yM1 ad⟩,⟨zv ac.out HB⟩,⟨HM.out.below (zv HLm.out HB)⟩⟩
   go_wp2_with(fail)
   go_loopg[80] ae (fun kq c6 w'=>∃(ab:Int),c6= .int .i64 ab/\qB (impl_TreeOk.l1 kq ah l0 (l0.length:Int) ab=some r)/\qB (kq<=ae)/\qB (Below w.heap.size w w')/\qB (MapSet.MS w' bm ah))
   case atStart=>exact⟨(0),zr,⟨H⟩,⟨Nat.le_refl _⟩,⟨HB⟩,⟨HM.out.below (zv HLm.out HB)⟩⟩
   case round=>
    clear H HB;try clear HM
    obtain⟨ab,rfl,H,ax,HB,HM_⟩:=hrel;have HM:=HM_;clear HM_;replace HB:=HB.out;replace H:=H.out
    rename World=>w
    have ay:=zz HB;replace HW:=zz (zv HW.out HB);replace ac:=zz (zv ac.out HB);replace ai:=zz (Kd.qD ai.out HB);have HLm:=yB w;replace HB:=Below.refl w.heap.size w;cases gk with
    |zero=>simp[impl_TreeOk.l1] at H
    |succ aF=>
     simp only[impl_TreeOk.l1] at H;refine yDn H ?_ ?_<;>clear H<;>intro da H
     ·obtain rfl:=zi H;exact yR
     replace H:=yAD H;obtain⟨db,H⟩:=H;replace H:=yAD H;obtain⟨dc,H⟩:=H;have dq:=yt (0<=(ab:Int));have dr:=yt ((ab:Int)<(l0.length:Int));obtain⟨de,cG,ar,au,av,aw⟩:=vF ai.out ab z2 z2;cases cG;replace ar:=qL ar;replace au:=qL au;replace av:=qL av;replace aw:=qL aw;replace H:=zf H;obtain⟨⟨dt,du⟩,bs,H⟩:=H;try dsimp only at H
     replace bs:=zz bs;go_wp2_with(first|(refine zN 7 ?_;(try(refine z4 ?_;dsimp only));refine zX 7 63 #[.string (⟨#[]⟩:ByteArray),.int .i64 0,.string (⟨#[]⟩:ByteArray),.bool false] ?_;intro ag hg bu hbox hb;have hge:w.heap.size<=ag:=(by rw[hg];exact qE HB);clear hg;have hst:Below w.heap.size w ((((bu.setCell ⟨ag,0,none⟩ (.string ((qA l0 ab).f0))).setCell ⟨ag,1,none⟩ (.int .i64 ((qA l0 ab).f1))).setCell ⟨ag,2,none⟩ (.string ((qA l0 ab).f2))).setCell ⟨ag,3,none⟩ (.bool ((qA l0 ab).f3))):=(qJ (qJ (qJ (qJ (zv HB hb) hge) hge) hge) hge);have hbx:((((bu.setCell ⟨ag,0,none⟩ (.string ((qA l0 ab).f0))).setCell ⟨ag,1,none⟩ (.int .i64 ((qA l0 ab).f1))).setCell ⟨ag,2,none⟩ (.string ((qA l0 ab).f2))).setCell ⟨ag,3,none⟩ (.bool ((qA l0 ab).f3))).heap[ag]?=some (.cells #[.string ((qA l0 ab).f0),.int .i64 ((qA l0 ab).f1),.string ((qA l0 ab).f2),.bool ((qA l0 ab).f3)] 63 (0,0)):=(yP hbox);obtain⟨aZ,a0,a1,a2,a3,a4,a5,a6⟩:=zc4 hbox)|((with_reducible refine qR (t:=63) (p:=7) rfl ?_);(try(refine z4 ?_;dsimp only));refine ye 63 7 ((((bu.setCell ⟨ag,0,none⟩ (.string ((qA l0 ab).f0))).setCell ⟨ag,1,none⟩ (.int .i64 ((qA l0 ab).f1))).setCell ⟨ag,2,none⟩ (.string ((qA l0 ab).f2))).setCell ⟨ag,3,none⟩ (.bool ((qA l0 ab).f3))) ?_;intro cq hw;replace hst:=hst;rw[<-hw] at hst hbx;clear hw hb hbox hge HB aZ a3 a0 a4 a1 a5 a2 a6;replace HW:=zz (zv HW.out hst);replace HLm:=zz (zv HLm.out hst);replace ac:=zz (zv ac.out hst);replace ay:=zz (zv ay.out hst);replace ar:=qG ar hst;replace au:=qG au hst;replace av:=qG av hst;replace aw:=qG aw hst;obtain⟨cH,cI,cJ,cK⟩:=zx4 hbx;have HB:=Below.refl cq.heap.size cq;clear hbx hst))
     refine(impl_upper.calls aF _ _ _ _ bs.out).mono ?_;rintro e dx ⟨rfl,hd⟩;replace HB:=zv HB hd.below;clear hd;refine yF H ?_ ?_<;>clear H<;>rintro rfl H
     ·go_wp2_with(fail)
      go_roundg aF
      case measure=>exact yM2 ad ax
      case rel=>exact⟨(wrap64 (ab+1)),zr,⟨H⟩,⟨yM2 ad ax⟩,⟨zv ay.out HB⟩,⟨HM.out.below (zv HLm.out HB)⟩⟩
     replace H:=yf H;obtain⟨dv,cr,H⟩:=H;refine yCn H ?_ ?_<;>clear H<;>intro bv H
     ·obtain⟨cm,cn⟩:=zw bv;go_wp2_with(first|((with_reducible refine MapSet.gate_get (t:=110) (m:=92) (k:=93) rfl ?_);(try(refine z4 ?_;dsimp only));refine MapSet.get_event rfl rfl rfl rfl (HM.out.below (zv HLm.out HB)) cr.out ?_))
      go_roundg aF
      case measure=>exact yM2 ad ax
      case rel=>exact⟨(wrap64 (ab+1)),zr,⟨H⟩,⟨yM2 ad ax⟩,⟨zv ay.out HB⟩,⟨HM.out.below (zv HLm.out HB)⟩⟩
     obtain⟨cm,cn⟩:=zq bv;clear bv;obtain rfl:=zi H;go_wp2_with(first|((with_reducible refine MapSet.gate_get (t:=110) (m:=92) (k:=93) rfl ?_);(try(refine z4 ?_;dsimp only));refine MapSet.get_event rfl rfl rfl rfl (HM.out.below (zv HLm.out HB)) cr.out ?_))
     go_ret;exact⟨ze,zv HW.out HB⟩
def spec_l10Up.l0:Nat->ByteArray->Int->Option (ByteArray)
 |0,_,_=>none
 |k+1,x0,x3=>if x3>=0 then(if 0<=x3 then(if x3<(x0.size:Int) then(if(bt x0 x3)=47 then(if x3<=(x0.size:Int) then(some (x0.extract 0 (x3:Int).toNat)) else(none)) else(spec_l10Up.l0 k x0 (wrap64 (x3 - 1)))) else(none)) else(none)) else(some (⟨#[]⟩:ByteArray))
def spec_l10Up.f(k:Nat)(a0:ByteArray):Option (ByteArray):=spec_l10Up.l0 k a0 (wrap64 ((a0.size:Int) - 1))
theorem spec_l10Up.calls(k:Nat)(a0:ByteArray)(r:ByteArray)(w:World)(H:spec_l10Up.f k a0=some r):
 Calls Tryz.prog 78 #[.string a0] w fun e w'=>e= .returned (.string r)/\vB w w':=by
 unfold spec_l10Up.f at H;have H':=zz H;clear H;go_enter Tryz.func78,Tryz.ntmps78;go_wp2;go_loopg[3] k (fun kq v3 w'=>∃(aa:Int),v3= .int .i64 aa/\qB (spec_l10Up.l0 kq a0 aa=some r)/\qB (kq<=k)/\vB w w')
 case atStart=>exact⟨(wrap64 ((a0.size:Int) - 1)),zr,H',⟨Nat.le_refl _⟩,yD0⟩
 case round=>
  clear H';obtain⟨aa,rfl,HA,ab,⟨m1,rfl⟩⟩:=hrel;cases gk with
  |zero=>exact absurd HA.out (by simp[spec_l10Up.l0])
  |succ k1=>
   have H:=HA.out;clear HA;simp only[spec_l10Up.l0] at H;refine yEn H ?_ ?_<;>clear H<;>intro af H
   ·obtain rfl:=zi H;exact yr
   replace H:=yAD H;obtain⟨ag,H⟩:=H;replace H:=yAD H;obtain⟨ah,H⟩:=H;refine yCn H ?_ ?_<;>clear H<;>intro c6 H
   ·obtain⟨ac,ad⟩:=zw c6;have H':=zz H;clear H;have p5:0<=(aa:Int):=z2;have q5:aa<(a0.size:Int):=z2;have ae:=bt_at a0 aa;replace p5:=eq_true p5;replace q5:=eq_true q5;go_wp2;go_roundg k1
    case measure=>exact yM1 ab
    case rel=>exact⟨(wrap64 (aa - 1)),zr,H',⟨yM1 ab⟩,yD0⟩
   obtain⟨ac,ad⟩:=zq c6;clear c6;have ai:=eq_true (z2:0<=aa);replace H:=yA H;obtain⟨c8,H⟩:=H;have aj:=eq_true c8;have ak:=z1 c8;clear c8;obtain rfl:=zi H;have p5:0<=(aa:Int):=z2;have q5:aa<(a0.size:Int):=z2;have ae:=bt_at a0 aa;replace p5:=eq_true p5;replace q5:=eq_true q5;exact yr
mutual
def spec_l10Names.l0:Nat->ByteArray->List ByteArray->Int->Int->Option (List ByteArray×Bool)
 |0,_,_,_,_=>none
 |k+1,x0,x4,x5,x6=>if x6<=(x0.size:Int) then(if x6=(x0.size:Int) then(spec_l10Names.j1 k x0 x4 x5 x6 true) else(if 0<=x6 then(if x6<(x0.size:Int) then(spec_l10Names.j1 k x0 x4 x5 x6 ((bt x0 x6)==47)) else(none)) else(none))) else(some (x4,true))
def spec_l10Names.j1:Nat->ByteArray->List ByteArray->Int->Int->Bool->Option (List ByteArray×Bool)
 |0,_,_,_,_,_=>none
 |k+1,x0,x4,x5,x6,ab=>if ab=true then(if 0<=x5 then(if x5<=x6 then(if x6<=(x0.size:Int) then((spec_NameOk.f k (x0.extract (x5:Int).toNat (x6:Int).toNat)).bind fun aa=>(if aa=true then(if(x4.length:Int)=8 then(some (x4,false)) else(if x4.length<8796093022208 then(spec_l10Names.l0 k x0 (x4++[x0.extract (x5:Int).toNat (x6:Int).toNat]) (wrap64 (x6+1)) (wrap64 (x6+1))) else(none))) else(some (x4,false)))) else(none)) else(none)) else(none)) else(spec_l10Names.l0 k x0 x4 x5 (wrap64 (x6+1)))
end
def spec_l10Names.f(k:Nat)(a0:ByteArray):Option (List ByteArray×Bool):=spec_l10Names.l0 k a0 (([]:List ByteArray)) 0 0
theorem spec_l10Names.calls(k:Nat)(a0:ByteArray)(r1:List ByteArray)(r2:Bool)(w:World)(H:spec_l10Names.f k a0=some (r1,r2)):
 Calls Tryz.prog 101 #[.string a0] w fun e w'=>∃aK:Value,e= .returned (.tuple #[aK,.bool r2])/\Kd.R Kd.string 9 w' w.heap.size (fun _=>True) aK r1/\Below w.heap.size w w':=by
 have HB:=yB w;unfold spec_l10Names.f at H;obtain⟨ap,ai⟩:∃y_:List ByteArray,y_=(([]:List ByteArray)):=⟨_,rfl⟩
 replace H:(spec_l10Names.l0 k a0 ap 0 0)=some (r1,r2):=yN0 ai H;have al:=zz ai;clear ai;have H':=zz H;clear H;go_enter Tryz.func101,Tryz.ntmps101;go_wp2_with(first|(refine zN 7 ?_;(try(refine z4 ?_;dsimp only));refine Kd.R_lit Kd.string _ 9 ?hg (N:=7) ?hd (xs:=([]:List ByteArray)) (inner:=[]) (ok:=fun _=>True) (okp:=fun _=>True) ?hr ?hp (fun _ hk=>hk) trivial (Below.refl _ _) (Nat.le_refl _) (by simp) ?_;(case hd=>rfl);(case hg=>rfl);(case hr=>first|(go_simp;done)|(go_simp;rfl));(case hp=>exact(Reps.none _ _));intro ba w2 ak hb hg_ hnew_;clear hg_ hnew_;(first|rw[<-al.out] at ak|(simp only[Int.reduceToNat] at ak;rw[<-al.out] at ak));have aD:=zz (Kd.qU ak (qE zb));replace HB:=zz (zv zb hb);clear hb ak))
 go_loopg[4,5,6] k (fun kq v4 v5 v6 w'=>∃(ad:List ByteArray) (ab:Int) (aa:Int),v5= .int .i64 ab/\v6= .int .i64 aa/\qB (spec_l10Names.l0 kq a0 ad ab aa=some (r1,r2))/\qB (kq<=k)/\qB (Kd.R Kd.string 9 w' w.heap.size (fun _=>True) v4 ad)/\qB (Below w.heap.size w w'))
 case atStart=>exact⟨(ap),(0),(0),zr,zr,H',⟨Nat.le_refl _⟩,⟨zR aD.out⟩,⟨zb⟩⟩
 case round=>
  clear H';obtain⟨ad,ab,aa,rfl,rfl,HA,ag,ac,HB⟩:=hrel;cases gk with
  |zero=>exact absurd HA.out (by simp[spec_l10Names.l0])
  |succ k1=>
   have H:=HA.out;clear HA;simp only[spec_l10Names.l0] at H;refine yDn H ?_ ?_<;>clear H<;>intro aN H
   ·simp only[Option.some.injEq,Prod.mk.injEq] at H;obtain⟨rfl,rfl⟩:=H;go_wp2
    go_ret2
    exact⟨_,ze,zR ac.out,zb⟩
   have ar:=zz H;clear H
   go_upto_region 6 with(fail)
   go_cut [23] (fun aY wc=>∃(kq:Nat) (af:Bool),aY= .bool af/\qB (spec_l10Names.j1 kq a0 ad ab aa af=some (r1,r2))/\qB (kq<=k1)/\qB (Kd.R Kd.string 9 wc w.heap.size (fun _=>True) u4 ad)/\qB (Below w.heap.size w wc))
   case first=>
    have H:=ar.out;clear ar;by_cases c6:aa=(a0.size:Int)
    ·rw[if_pos c6] at H;obtain⟨ae,au⟩:=zq c6;clear c6
     (first|rw[ae]|(simp only[i64_w,i32_w];rw[ae])|skip)
     have H':=zz H;clear H;go_wp2
     go_meet
     case rel=>exact⟨_,(true),zr,H',⟨by have:=ag.out;first|omega|exact Nat.le_refl _⟩,⟨zR ac.out⟩,⟨zb⟩⟩
    ·rw[if_neg c6] at H;obtain⟨ae,au⟩:=zw c6
     (first|rw[ae]|(simp only[i64_w,i32_w];rw[ae])|skip)
     by_cases c7:0<=aa
     ·rw[if_pos c7] at H;have aQ:=z1 c7;clear c7;by_cases c8:aa<(a0.size:Int)
      ·rw[if_pos c8] at H;have aR:=z1 c8;clear c8;have H':=zz H;clear H;have p9:0<=(aa:Int):=z2;have q9:aa<(a0.size:Int):=z2;have aZ:=bt_at a0 aa;replace p9:=eq_true p9;replace q9:=eq_true q9;go_wp2
       go_meet
       case rel=>exact⟨_,(((bt a0 aa)==47)),zr,H',⟨by have:=ag.out;first|omega|exact Nat.le_refl _⟩,⟨zR ac.out⟩,⟨zb⟩⟩
      ·rw[if_neg c8] at H;exact absurd H (by simp)
     ·rw[if_neg c7] at H;exact absurd H (by simp)
   case rest=>
    clear ar;try clear aN
    try clear c6
    try clear ae
    try clear au
    try clear c7
    try clear aQ
    try clear c8
    try clear aR
    try clear p9
    try clear q9
    try clear aZ
    try clear p9
    try clear q9
    obtain⟨kq,af,rfl,HA,am,ac,HB⟩:=hcut;cases kq with
    |zero=>exact absurd HA.out (by simp[spec_l10Names.j1])
    |succ ah=>
     have H:=HA.out;clear HA;simp only[spec_l10Names.j1] at H;by_cases an:af=true
     case neg=>
      replace an:=Bool.eq_false_iff.mpr an;subst an;rw[if_neg (show¬(false=true) by decide)] at H;have H':=zz H;clear H;go_wp2;go_roundg ah
      case measure=>exact yM2 ag am
      case rel=>exact⟨(ad),(ab),(wrap64 (aa+1)),zr,zr,H',⟨yM2 ag am⟩,⟨zR ac.out⟩,⟨zb⟩⟩
     subst an;rw[if_pos rfl] at H;replace H:=yA H;obtain⟨av,H⟩:=H;have a1:=eq_true av;have a2:=z1 av;clear av;replace H:=yA H;obtain⟨aw,H⟩:=H;have a3:=eq_true aw;have a4:=z1 aw;clear aw;replace H:=yA H;obtain⟨ax,H⟩:=H;have a5:=eq_true ax;have a6:=z1 ax;clear ax;replace H:=zf H;obtain⟨aT,ay,H⟩:=H;try dsimp only at H
     have az:=zz ay;clear ay;by_cases ao:aT=true
     case neg=>
      replace ao:=Bool.eq_false_iff.mpr ao;subst ao;rw[if_neg (show¬(false=true) by decide)] at H;simp only[Option.some.injEq,Prod.mk.injEq] at H;obtain⟨rfl,rfl⟩:=H;go_wp2_with(first|(refine zL 48 28 Tryz.func48 #[.string (a0.extract (ab:Int).toNat (aa:Int).toNat)] ?_;(with_reducible refine(spec_NameOk.calls ah (a0.extract (ab:Int).toNat (aa:Int).toNat) false _ az.out).mono ?_);rintro e w' ⟨rfl,⟨nd,rfl⟩⟩;refine⟨_,rfl,?_⟩))
      go_ret2
      exact⟨_,ze,zR ac.out,zb⟩
     subst ao;rw[if_pos rfl] at H;refine yC H ?_ ?_<;>clear H<;>intro aA H
     ·obtain⟨aE,aG⟩:=zq aA;clear aA;simp only[Option.some.injEq,Prod.mk.injEq] at H;obtain⟨rfl,rfl⟩:=H;go_wp2_with(first|(refine zL 48 28 Tryz.func48 #[.string (a0.extract (ab:Int).toNat (aa:Int).toNat)] ?_;(with_reducible refine(spec_NameOk.calls ah (a0.extract (ab:Int).toNat (aa:Int).toNat) true _ az.out).mono ?_);rintro e w' ⟨rfl,⟨nd,rfl⟩⟩;refine⟨_,rfl,?_⟩;obtain⟨bb,bc,aU⟩:=Kd.qW ac.out;subst aU))
      go_ret2
      exact⟨_,ze,zR ac.out,zb⟩
     obtain⟨aE,aG⟩:=zw aA;have a7:=eq_true (z2:0<=ab);have a8:=eq_true (z2:ab<=aa);have a9:=eq_true (z2:aa<=(a0.size:Int));replace H:=yA H;obtain⟨aM,H⟩:=H;have aH:=zz aM;clear aM;obtain⟨aC,aj⟩:∃y_:List ByteArray,y_=(ad++[a0.extract (ab:Int).toNat (aa:Int).toNat]):=⟨_,rfl⟩
     replace H:(spec_l10Names.l0 ah a0 aC (wrap64 (aa+1)) (wrap64 (aa+1)))=some (r1,r2):=yN0 aj H;have aI:=zz aj;clear aj;have H':=zz H;clear H;go_wp2_with(first|(refine zL 48 28 Tryz.func48 #[.string (a0.extract (ab:Int).toNat (aa:Int).toNat)] ?_;(with_reducible refine(spec_NameOk.calls ah (a0.extract (ab:Int).toNat (aa:Int).toNat) true _ az.out).mono ?_);rintro e w' ⟨rfl,⟨nd,rfl⟩⟩;refine⟨_,rfl,?_⟩;obtain⟨aV,aW,aX⟩:=Kd.qW ac.out;subst aX)|((with_reducible refine qP (b:= .append) (xs:= #[.tmp 36,.tmp 41]) rfl ?_);(try(refine z4 ?_;dsimp only));at_builtin;refine Kd.R_append Kd.string (w0:=w) w.heap.size rfl (.tmp 36) (.tmp 41) 28 9 (.string ⟨#[]⟩) 16 rfl Tryz.underlying28 info9 rfl yd_ yo_ (.slice aV ad.length aW) ad (a0.extract (ab:Int).toNat (aa:Int).toNat) [.string (a0.extract (ab:Int).toNat (aa:Int).toNat)] (fun _=>True) (fun _=>False) rfl rfl ?aP (fun _ hk=>hk.elim) ?aF ?aO ?aB ?aS ?aL ?_;(case aP=>exact rfl);(case aB=>exact zb);(case aF=>exact(fun _ _=>trivial));(case aO=>exact(zR ac.out));(case aS=>exact(qE zb));(case aL=>have:=aH.out;omega);intro bd be ho hb hg hat;rw[<-aI.out] at ho;replace HB:=zz (hb);have aJ:=zz (ho);clear ac;clear ho hb hg hat))
     go_roundg ah
     case measure=>exact yM2 ag am
     case rel=>exact⟨(aC),(wrap64 (aa+1)),(wrap64 (aa+1)),zr,zr,H',⟨yM2 ag am⟩,⟨zR aJ.out⟩,⟨zb⟩⟩
def spec_l10EntryOk.f(k:Nat)(ae:ByteArray)(aa:Int)(ab:ByteArray)(ac:Bool):Option (Bool):=(spec_l10Names.f k ae).bind fun ad=>(if ad.2=true then(if(ab.size:Int)>20000 then(some false) else(if aa=1 then(if ab.toList=([]:List UInt8) then(some (!ac)) else(some false)) else(if aa=2 then(some true) else(if aa=3 then(if ab.toList=([]:List UInt8) then(some false) else(some (!ac))) else(some false))))) else(some false))
theorem spec_l10EntryOk.calls(k:Nat)(ag:ByteArray)(ah:Int)(aa:ByteArray)(ai:Bool)(r:Bool)(w:World)(H:spec_l10EntryOk.f k ag ah aa ai=some r):
 Calls Tryz.prog 79 #[.agg #[.string ag,.int .i64 ah,.string aa,.bool ai]] w fun e w'=>e= .returned (.bool r)/\Below w.heap.size w w':=by
 have aF:=Tryz.underlying63;have HB:=yB w;unfold spec_l10EntryOk.f at H;replace HB:=HB.out;have HW:=yB w;go_enter Tryz.func79,Tryz.ntmps79;replace H:=zf H;obtain⟨⟨aG,aH⟩,A2,H⟩:=H;try dsimp only at H
 replace A2:=zz A2;go_wp2_with(first|(refine zN 1 ?_;(try(refine z4 ?_;dsimp only));refine zX 1 63 #[.string ag,.int .i64 ah,.string aa,.bool ai] ?_;intro aC hg w5 hbox hb;have hst:=zv HB hb;clear hg hb HB;replace HW:=zz (zv HW.out hst);obtain⟨ab,ac,ad,ae⟩:=zx4 hbox;have HB:=Below.refl w5.heap.size w5;clear hbox hst))
 refine(spec_l10Names.calls k _ _ _ _ A2.out).mono ?_;rintro e w6 ⟨aB,rfl,af,hb⟩;replace HB:=zv HB hb;clear hb;have hst:=HB;replace HW:=zz (zv HW.out hst);replace ab:=qG ab hst;replace ac:=qG ac hst;replace ad:=qG ad hst;replace ae:=qG ae hst;clear hst;replace HB:=Below.refl w6.heap.size w6;obtain⟨aD,aE,rfl,hl_,hC_⟩:=Kd.R_reads af;have aI:=zz hC_;have aJ:=zz hl_;clear hl_ hC_ af;refine yF H ?_ ?_<;>clear H<;>rintro rfl H
 ·obtain rfl:=zi H;exact yR
 refine yC H ?_ ?_<;>clear H<;>intro c4 H
 ·have av:=zgt c4;have aw:decide (20000<aa.size)=true:=z1 yo_;clear c4;obtain rfl:=zi H;exact yR
 have av:=zgtn c4;have aw:decide (20000<aa.size)=false:=z0 yo_;clear c4;refine yCn H ?_ ?_<;>clear H<;>intro c8 H
 ·obtain⟨ax,ay⟩:=zw c8;refine yC H ?_ ?_<;>clear H<;>intro aj H
  ·obtain⟨am,an⟩:=zq aj;clear aj;obtain rfl:=zi H;exact yR
  obtain⟨am,an⟩:=zw aj;refine yCn H ?_ ?_<;>clear H<;>intro ak H
  ·obtain⟨ao,ap⟩:=zw ak;obtain rfl:=zi H;exact yR
  obtain⟨ao,ap⟩:=zq ak;clear ak;refine yCn H ?_ ?_<;>clear H<;>intro al H
  ·obtain⟨ar,au⟩:=zw al;obtain rfl:=zi H;exact yR
  obtain⟨ar,au⟩:=zq al;clear al;obtain rfl:=zi H;exact yR
 obtain⟨ax,ay⟩:=zq c8;clear c8;refine yCn H ?_ ?_<;>clear H<;>intro c9 H
 ·obtain⟨az,aA⟩:=zw c9;obtain rfl:=zi H;exact yR
 obtain⟨az,aA⟩:=zq c9;clear c9;obtain rfl:=zi H;exact yR
def spec_l10Find.l0:Nat->List (S63)->ByteArray->Int->Int->Option (Int)
 |0,_,_,_,_=>none
 |k+1,x0,x1,x5,x6=>if x5<x6 then(if 0<=(wrap64 (Int.tdiv (wrap64 (x5+x6)) 2)) then(if(wrap64 (Int.tdiv (wrap64 (x5+x6)) 2))<(x0.length:Int) then(if(Op.bytesLess (((qA x0 (wrap64 (Int.tdiv (wrap64 (x5+x6)) 2))).f0).toList) x1.toList)=true then(spec_l10Find.l0 k x0 x1 (wrap64 ((wrap64 (Int.tdiv (wrap64 (x5+x6)) 2))+1)) x6) else(spec_l10Find.l0 k x0 x1 x5 (wrap64 (Int.tdiv (wrap64 (x5+x6)) 2)))) else(none)) else(none)) else(if x5<(x0.length:Int) then(if 0<=x5 then(if((qA x0 x5).f0).toList=x1.toList then(some x5) else(some (-1))) else(none)) else(some (-1)))
def spec_l10Find.f(k:Nat)(l0:List (S63))(a1:ByteArray):Option (Int):=spec_l10Find.l0 k l0 a1 0 (l0.length:Int)
theorem spec_l10Find.calls(k:Nat)(A0:Option Addr)(c0:Nat)(l0:List (S63))(a1:ByteArray)(r:Int)(w:World)(ay:Kd.C k63 w A0 l0.length l0)(az:l0.length<=c0)(H:spec_l10Find.f k l0 a1=some r):
 Calls Tryz.prog 51 #[.slice A0 l0.length c0,.string a1] w fun e w'=>e= .returned (.int .i64 r)/\vB w w':=by
 have ag:=zz ay;have aL:=zz az;clear ay az;unfold spec_l10Find.f at H;have H':=zz H;clear H;go_enter Tryz.func51,Tryz.ntmps51;go_wp2;go_loopg[5,6] k (fun kq v5 v6 w'=>∃(aa:Int) (ac:Int),v5= .int .i64 aa/\v6= .int .i64 ac/\qB (spec_l10Find.l0 kq l0 a1 aa ac=some r)/\qB (kq<=k)/\vB w w')
 case atStart=>exact⟨(0),((l0.length:Int)),zr,zr,H',⟨Nat.le_refl _⟩,yD0⟩
 case round=>
  clear H';obtain⟨aa,ac,rfl,rfl,HA,ah,⟨m1,rfl⟩⟩:=hrel;cases gk with
  |zero=>exact absurd HA.out (by simp[spec_l10Find.l0])
  |succ k1=>
   have H:=HA.out;clear HA;simp only[spec_l10Find.l0] at H;refine yDn H ?_ ?_<;>clear H<;>intro aG H
   ·refine yDn H ?_ ?_<;>clear H<;>intro aH H
    ·obtain rfl:=zi H;exact yr
    replace H:=yAD H;obtain⟨aI,H⟩:=H;refine yCn H ?_ ?_<;>clear H<;>intro ar H
    ·obtain⟨au,av⟩:=zw ar;obtain rfl:=zi H;have aA:=yt (0<=(aa:Int));have aB:=yt (aa<(l0.length:Int));obtain⟨aw,ae,ai,aj,ak,al⟩:=vF ag.out aa z2 z2;cases ae;exact yr
    obtain⟨au,av⟩:=zq ar;clear ar;obtain rfl:=zi H;have aA:=yt (0<=(aa:Int));have aB:=yt (aa<(l0.length:Int));obtain⟨aw,ae,ai,aj,ak,al⟩:=vF ag.out aa z2 z2;cases ae;exact yr
   obtain⟨ab,ad⟩:∃j_:Int,(wrap64 (Int.tdiv (wrap64 (aa+ac)) 2))=j_:=⟨_,rfl⟩
   replace H:(if 0<=(ab) then(if(ab)<(l0.length:Int) then(if(Op.bytesLess (((qA l0 (ab)).f0).toList) a1.toList)=true then(spec_l10Find.l0 k1 l0 a1 (wrap64 ((ab)+1)) ac) else(spec_l10Find.l0 k1 l0 a1 aa ab)) else(none)) else(none))=some r:=by first|(rw[ad] at H;exact H)|(simp only[ad] at H⊢;exact H)
   have aF:(IntKind.i64.wrap (Int.tdiv (wrap64 (aa+ac)) 2))=ab:=(i64_w _).trans ad;replace H:=yAD H;obtain⟨aJ,H⟩:=H;replace H:=yAD H;obtain⟨aK,H⟩:=H;refine yC H ?_ ?_<;>clear H<;>intro c7 H
   ·have aC:(Op.bytesLess (((qA l0 (ab)).f0).toList) a1.toList)=true:=c7;clear c7;have H':=zz H;clear H;have aD:=yt (0<=((ab):Int));have aE:=yt ((ab)<(l0.length:Int));obtain⟨ax,af,am,an,ao,ap⟩:=vF ag.out (ab) z2 z2;cases af;go_wp2;go_roundg k1
    case measure=>exact yM1 ah
    case rel=>exact⟨(wrap64 ((ab)+1)),(ac),(by first|rfl|(simp;done)|(simp only[<-ad]<;>(first|rfl|simp))|(simp[*];done)),zr,H',⟨yM1 ah⟩,yD0⟩
   have aC:(Op.bytesLess (((qA l0 (ab)).f0).toList) a1.toList)=false:=by simpa using c7
   clear c7;have H':=zz H;clear H;have aD:=yt (0<=((ab):Int));have aE:=yt ((ab)<(l0.length:Int));obtain⟨ax,af,am,an,ao,ap⟩:=vF ag.out (ab) z2 z2;cases af;go_wp2;go_roundg k1
   case measure=>exact yM1 ah
   case rel=>exact⟨(aa),(ab),zr,(by first|rfl|(simp;done)|(simp only[<-ad]<;>(first|rfl|simp))|(simp[*];done)),H',⟨yM1 ah⟩,yD0⟩
def spec_l10Dir.f(k:Nat)(l0:List (S63))(a1:ByteArray):Option (Bool):=(spec_l10Find.f k l0 a1).bind fun aa=>(if aa>=0 then(if 0<=aa then(if aa<(l0.length:Int) then(some (((qA l0 aa).f1)==1)) else(none)) else(none)) else(some false))
theorem spec_l10Dir.calls(k:Nat)(A0:Option Addr)(c0:Nat)(l0:List (S63))(a1:ByteArray)(r:Bool)(w:World)(ae:Kd.C k63 w A0 l0.length l0)(af:l0.length<=c0)(H:spec_l10Dir.f k l0 a1=some r):
 Calls Tryz.prog 80 #[.slice A0 l0.length c0,.string a1] w fun e w'=>e= .returned (.bool r)/\vB w w':=by
 have ad:=zz ae;have ag:=zz af;clear ae af;unfold spec_l10Dir.f at H;replace H:=zf H;obtain⟨aa,ah,H⟩:=H;try dsimp only at H
 have A3:=zz ah;clear ah;refine yEn H ?_ ?_<;>clear H<;>intro ao H
 ·obtain rfl:=zi H;go_enter Tryz.func80,Tryz.ntmps80;go_wp2_with(first|(refine zL 51 8 Tryz.func51 #[.slice A0 l0.length c0,.string a1] ?_;(with_reducible refine(spec_l10Find.calls k _ _ l0 a1 aa _ ?s1 ?s2 A3.out).mono ?_);(case s1=>exact zd ad.out);(case s2=>exact ag.out);rintro e w' ⟨rfl,⟨nd,rfl⟩⟩;refine⟨_,rfl,?_⟩))
  go_ret;exact⟨zr,yD0⟩
 replace H:=yAD H;obtain⟨ap,H⟩:=H;replace H:=yAD H;obtain⟨ar,H⟩:=H;obtain rfl:=zi H;go_enter Tryz.func80,Tryz.ntmps80;go_wp2_with(first|(refine zL 51 8 Tryz.func51 #[.slice A0 l0.length c0,.string a1] ?_;(with_reducible refine(spec_l10Find.calls k _ _ l0 a1 aa _ ?s1 ?s2 A3.out).mono ?_);(case s1=>exact zd ad.out);(case s2=>exact ag.out);rintro e w' ⟨rfl,⟨nd,rfl⟩⟩;refine⟨_,rfl,?_⟩;have ab:0<=(aa:Int):=z2;have ac:aa<(l0.length:Int):=z2;obtain⟨an,ai,aj,ak,al,am⟩:=vF ad.out aa ab ac;cases ai;replace ab:=eq_true ab;replace ac:=eq_true ac))
 go_ret;exact⟨zr,yD0⟩
mutual
def spec_TreeOk.l0:Nat->List (S63)->Int->Option (Bool)
 |0,_,_=>none
 |k+1,x0,x3=>if x3<(x0.length:Int) then(if 0<=x3 then((spec_l10EntryOk.f k ((qA x0 x3).f0) ((qA x0 x3).f1) ((qA x0 x3).f2) ((qA x0 x3).f3)).bind fun ab=>(if ab=true then(if x3>0 then(if 0<=(wrap64 (x3 - 1)) then(if(wrap64 (x3 - 1))<(x0.length:Int) then(spec_TreeOk.j1 k x0 x3 (!(Op.bytesLess (((qA x0 (wrap64 (x3 - 1))).f0).toList) (((qA x0 x3).f0).toList)))) else(none)) else(none)) else(spec_TreeOk.j1 k x0 x3 false)) else(spec_TreeOk.j1 k x0 x3 true))) else(none)) else(some true)
def spec_TreeOk.j1:Nat->List (S63)->Int->Bool->Option (Bool)
 |0,_,_,_=>none
 |k+1,x0,x3,ad=>if ad=true then(some false) else(if 0<=x3 then(if x3<(x0.length:Int) then((spec_l10Up.f k ((qA x0 x3).f0)).bind fun aa=>(if aa.toList=([]:List UInt8) then(spec_TreeOk.l0 k x0 (wrap64 (x3+1))) else(if x3<=(x0.length:Int) then((spec_l10Dir.f k (x0.take (x3:Int).toNat) aa).bind fun ac=>(if ac=true then(spec_TreeOk.l0 k x0 (wrap64 (x3+1))) else(some false))) else(none)))) else(none)) else(none))
end
def spec_TreeOk.f(k:Nat)(l0:List (S63)):Option (Bool):=if(l0.length:Int)>500 then(some false) else(spec_TreeOk.l0 k l0 0)
def spec_TreeOk.T6:Bool×List (List Nat×List Nat):=(true,[([],[]),([],[]),([0,1],[0,1]),([2],[2]),([3],[3]),([4],[4]),([5,4],[5]),([6],[6]),([7,6],[6,7]),([8,6,6],[6,8]),([9],[9]),([9],[9]),([11,9],[9,11]),([10,12,9],[9,10,12]),([13,9],[9,13]),([14,9],[9,14]),([9],[9]),([9],[9]),([16,17,9],[9,16,17]),([18,9],[9,18]),([19,9],[9,19]),([15,20,9],[9,15,20]),([9,21,6],[6,9,21]),([6,22],[6,22])])
def spec_TreeOk.B6:List Nat:=[0,0,3,7,15,31,63,127,255,511,1023,1023,3071,8191,16383,32767,1023,1023,197631,459775,984063,2097151,4194303,8388607]
theorem spec_TreeOk.tab6:rtab .any (opsOf Tryz.f53 6)=spec_TreeOk.T6:=by kernel_rfl
theorem spec_TreeOk.bits6:waitsOk spec_TreeOk.T6.2 spec_TreeOk.B6=true:=by kernel_rfl
theorem spec_TreeOk.calls(k:Nat)(A0:Option Addr)(c0:Nat)(l0:List (S63))(r:Bool)(w:World)(bK:Kd.C k63 w A0 l0.length l0)(bL:l0.length<=c0)(H:spec_TreeOk.f k l0=some r):
 Calls Tryz.prog 53 #[.slice A0 l0.length c0] w fun e w'=>e= .returned (.bool r)/\Below w.heap.size w w':=by
 have b2:=Tryz.underlying63;have aD:=zz bK;have bM:=zz bL;clear bK bL;have HB:=yB w;unfold spec_TreeOk.f at H;refine yC H ?_ ?_<;>clear H<;>intro c2 H
 ·have bg:=zgt c2;have bh:decide (500<l0.length)=true:=z1 yo_;clear c2;obtain rfl:=zi H;go_enter Tryz.func53,Tryz.ntmps53;go_wp2;go_ret;exact⟨ze,zb⟩
 have bg:=zgtn c2;have bh:decide (500<l0.length)=false:=z0 yo_;clear c2;have H':=zz H;clear H;go_enter Tryz.func53,Tryz.ntmps53;go_wp2;go_loopg[3] k (fun kq v3 w'=>∃(aa:Int),v3= .int .i64 aa/\qB (spec_TreeOk.l0 kq l0 aa=some r)/\qB (kq<=k)/\qB (Below w.heap.size w w'))
 case atStart=>exact⟨(0),zr,H',⟨Nat.le_refl _⟩,⟨zb⟩⟩
 case round=>
  clear H';try clear c2
  try clear bg
  try clear bh
  obtain⟨aa,rfl,HA,aJ,HB⟩:=hrel;cases gk with
  |zero=>exact absurd HA.out (by simp[spec_TreeOk.l0])
  |succ k1=>
   have H:=HA.out;clear HA;simp only[spec_TreeOk.l0] at H;refine yDn H ?_ ?_<;>clear H<;>intro b3 H
   ·obtain rfl:=zi H;go_wp2;go_ret;exact⟨ze,zb⟩
   have bi:=zz H;clear H
   go_upto_region 6 with(fail)
   go_cut [37] (fun bT wc=>∃(kq:Nat) (aH:Bool),bT= .bool aH/\qB (spec_TreeOk.j1 kq l0 aa aH=some r)/\qB (kq<=k1)/\qB (Below w.heap.size w wc))
   case first=>
    have H:=bi.out;clear bi;by_cases c5:0<=aa
    ·rw[if_pos c5] at H;have bj:=z1 c5;clear c5
     (first|rw[bj]|(simp only[i64_w,i32_w];rw[bj])|skip)
     replace H:=zf H;obtain⟨bQ,bN,H⟩:=H;try dsimp only at H
     have A6:=zz bN;clear bN;by_cases c7:bQ=true
     ·subst c7;rw[if_pos rfl] at H;by_cases c8:aa>0
      ·rw[if_pos c8] at H;have bk:=zgt c8;clear c8;obtain⟨ag,aK⟩:∃j_:Int,(wrap64 (aa - 1))=j_:=⟨_,rfl⟩
       replace H:(if 0<=(ag) then(if(ag)<(l0.length:Int) then(spec_TreeOk.j1 k1 l0 aa (!(Op.bytesLess (((qA l0 (ag)).f0).toList) (((qA l0 aa).f0).toList)))) else(none)) else(none))=some r:=by first|(rw[aK] at H;exact H)|(simp only[aK] at H⊢;exact H)
       (try rw[aK] at A6)
       have bU:(IntKind.i64.wrap (aa - 1))=ag:=(i64_w _).trans aK;by_cases a4:0<=(ag)
       ·rw[if_pos a4] at H;have bV:=z1 a4;clear a4;by_cases a5:(ag)<(l0.length:Int)
        ·rw[if_pos a5] at H;have bW:=z1 a5;clear a5;have H':=zz H;clear H;try go_wp2
         replace HB:=zz (qK HB.out);have ap:0<=(aa:Int):=z2;have ar:aa<(l0.length:Int):=z2;obtain⟨ab,aL,ac,ad,ae,af⟩:=vF aD.out aa ap ar;have ah:=af;have ai:=ae;have aj:=ad;have ak:=ac;cases aL;replace ac:=z3 HB.out ac;replace ad:=z3 HB.out ad;replace ae:=z3 HB.out ae;replace af:=z3 HB.out af;replace ap:=eq_true ap;replace ar:=eq_true ar;have aX:0<=((ag):Int):=z2;have aY:(ag)<(l0.length:Int):=z2;obtain⟨bE,bR,au,av,aw,ax⟩:=vF aD.out (ag) aX aY;have aN:=ax;have aO:=aw;have aP:=av;have aQ:=au;obtain rfl:ab=bE:=(by injection bR)
         replace au:=z3 HB.out au;replace av:=z3 HB.out av;replace aw:=z3 HB.out aw;replace ax:=z3 HB.out ax;replace aX:=eq_true aX;replace aY:=eq_true aY;have aZ:0<=(aa:Int):=z2;have a0:aa<(l0.length:Int):=z2;obtain⟨bF,bS,ay,az,aA,aB⟩:=vF aD.out aa aZ a0;have aR:=aB;have aS:=aA;have aT:=az;have aU:=ay;obtain rfl:ab=bF:=(by injection bS)
         replace ay:=z3 HB.out ay;replace az:=z3 HB.out az;replace aA:=z3 HB.out aA;replace aB:=z3 HB.out aB;replace aZ:=eq_true aZ;replace a0:=eq_true a0;refine start_ (n:=24) (S:=fun w'=>w'.cell? (ab.add ((aa).toNat*4))=some (.string ((qA l0 aa).f0))/\w'.cell? ⟨(ab.add ((aa).toNat*4)).block,(ab.add ((aa).toNat*4)).off+1,none⟩=some (.int .i64 ((qA l0 aa).f1))/\w'.cell? ⟨(ab.add ((aa).toNat*4)).block,(ab.add ((aa).toNat*4)).off+2,none⟩=some (.string ((qA l0 aa).f2))/\w'.cell? ⟨(ab.add ((aa).toNat*4)).block,(ab.add ((aa).toNat*4)).off+3,none⟩=some (.bool ((qA l0 aa).f3))/\w'.cell? (ab.add (((ag)).toNat*4))=some (.string ((qA l0 (ag)).f0))/\w'.cell? ⟨(ab.add (((ag)).toNat*4)).block,(ab.add (((ag)).toNat*4)).off+1,none⟩=some (.int .i64 ((qA l0 (ag)).f1))/\w'.cell? ⟨(ab.add (((ag)).toNat*4)).block,(ab.add (((ag)).toNat*4)).off+2,none⟩=some (.string ((qA l0 (ag)).f2))/\w'.cell? ⟨(ab.add (((ag)).toNat*4)).block,(ab.add (((ag)).toNat*4)).off+3,none⟩=some (.bool ((qA l0 (ag)).f3))/\w'.cell? (ab.add ((aa).toNat*4))=some (.string ((qA l0 aa).f0))/\w'.cell? ⟨(ab.add ((aa).toNat*4)).block,(ab.add ((aa).toNat*4)).off+1,none⟩=some (.int .i64 ((qA l0 aa).f1))/\w'.cell? ⟨(ab.add ((aa).toNat*4)).block,(ab.add ((aa).toNat*4)).off+2,none⟩=some (.string ((qA l0 aa).f2))/\w'.cell? ⟨(ab.add ((aa).toNat*4)).block,(ab.add ((aa).toNat*4)).off+3,none⟩=some (.bool ((qA l0 aa).f3))) (ds:=[]) (bp 0 24) zk rfl rfl ⟨(z3 HB.out ak),(z3 HB.out aj),(z3 HB.out ai),(z3 HB.out ah),(z3 HB.out aQ),(z3 HB.out aP),(z3 HB.out aO),(z3 HB.out aN),(z3 HB.out aU),(z3 HB.out aT),(z3 HB.out aS),(z3 HB.out aR)⟩ (fun hHeld=>?_);refine with_tabW spec_TreeOk.tab6 spec_TreeOk.bits6 (fun HT_ HW_=>?_);generalize wr.drew=b8 at HB ac ad ae af au av aw ax ay az aA aB hHeld⊢;refine zp 0 14 (bp 1 23) ?_;refine zp 1 15 (bp 2 22) ?_;refine zp 2 16 (bp 3 21) ?_;refine zt 3 17 (bp 4 20) ?_;refine zo 4 18 (bp 5 19) fun K hK=>?_;refine zh Tryz.func79 #[.agg #[.string ((qA l0 aa).f0),.int .i64 ((qA l0 aa).f1),.string ((qA l0 aa).f2),.bool ((qA l0 aa).f3)]] ?_;with_reducible refine(spec_l10EntryOk.calls k1 ((qA l0 aa).f0) ((qA l0 aa).f1) ((qA l0 aa).f2) ((qA l0 aa).f3) true _ A6.out).mono ?_
         rintro e b9 ⟨rfl,hb⟩;refine⟨_,rfl,?_⟩;replace HB:=zz (zv zb hb)
         (try clear hb)
         (try clear bO)
         (try clear hk)
         (try clear hi)
         refine hK.out _ _ ⟨(z3 HB.out ak),(z3 HB.out aj),(z3 HB.out ai),(z3 HB.out ah),(z3 HB.out aQ),(z3 HB.out aP),(z3 HB.out aO),(z3 HB.out aN),(z3 HB.out aU),(z3 HB.out aT),(z3 HB.out aS),(z3 HB.out aR)⟩ (fun hHeld=>?_);clear hK K;refine zn 18 ?_;refine zp 5 19 (bp 6 18) ?_;refine zp 6 20 (bp 7 17) ?_;refine zp 7 21 (bp 8 16) ?_;refine zp 8 22 (bp 9 15) ?_;refine zp 9 23 (bp 10 14) ?_;refine zp 10 24 (bp 11 13) ?_;refine zp 11 25 (bp 12 12) ?_;refine zp 12 26 (bp 13 11) ?_;refine zp 13 27 (bp 14 10) ?_;refine zp 14 28 (bp 15 9) ?_;refine zp 16 30 (bm 24 98303) ?_;refine zp 17 31 (bm 24 229375) ?_;refine zp 18 32 (bm 24 491519) ?_;refine zp 19 33 (bm 24 1015807) ?_;refine zt 15 29 (bp 20 4) ?_;refine zt 20 34 (bp 21 3) ?_;refine zp 21 35 (bp 22 2) ?_;refine zp 22 36 (bp 23 1) ?_;refine zp 23 37 (bp 24 0) ?_;refine done_ (done_of HT_.out zk) ?_;try go_wp2
         go_meet
         case rel=>exact⟨_,(!(Op.bytesLess (((qA l0 (ag)).f0).toList) (((qA l0 aa).f0).toList))),(by first|rfl|(simp;done)|(simp only[<-aK]<;>(first|rfl|simp))|(simp[*];done)),H',⟨by have:=aJ.out;first|omega|exact Nat.le_refl _⟩,⟨zb⟩⟩
        ·rw[if_neg a5] at H;exact absurd H (by simp)
       ·rw[if_neg a4] at H;exact absurd H (by simp)
      ·rw[if_neg c8] at H;have bk:=zgtn c8;clear c8;have H':=zz H;clear H;try go_wp2
       replace HB:=zz (qK HB.out);have ap:0<=(aa:Int):=z2;have ar:aa<(l0.length:Int):=z2;obtain⟨ab,aL,ac,ad,ae,af⟩:=vF aD.out aa ap ar;have ah:=af;have ai:=ae;have aj:=ad;have ak:=ac;cases aL;replace ac:=z3 HB.out ac;replace ad:=z3 HB.out ad;replace ae:=z3 HB.out ae;replace af:=z3 HB.out af;replace ap:=eq_true ap;replace ar:=eq_true ar;refine start_ (n:=24) (S:=fun w'=>w'.cell? (ab.add ((aa).toNat*4))=some (.string ((qA l0 aa).f0))/\w'.cell? ⟨(ab.add ((aa).toNat*4)).block,(ab.add ((aa).toNat*4)).off+1,none⟩=some (.int .i64 ((qA l0 aa).f1))/\w'.cell? ⟨(ab.add ((aa).toNat*4)).block,(ab.add ((aa).toNat*4)).off+2,none⟩=some (.string ((qA l0 aa).f2))/\w'.cell? ⟨(ab.add ((aa).toNat*4)).block,(ab.add ((aa).toNat*4)).off+3,none⟩=some (.bool ((qA l0 aa).f3))) (ds:=[]) (bp 0 24) zk rfl rfl ⟨(z3 HB.out ak),(z3 HB.out aj),(z3 HB.out ai),(z3 HB.out ah)⟩ (fun hHeld=>?_);refine with_tabW spec_TreeOk.tab6 spec_TreeOk.bits6 (fun HT_ HW_=>?_);generalize wr.drew=ca at HB ac ad ae af hHeld⊢;refine zp 0 14 (bp 1 23) ?_;refine zp 1 15 (bp 2 22) ?_;refine zp 2 16 (bp 3 21) ?_;refine zt 3 17 (bp 4 20) ?_;refine zo 4 18 (bp 5 19) fun K hK=>?_;refine zh Tryz.func79 #[.agg #[.string ((qA l0 aa).f0),.int .i64 ((qA l0 aa).f1),.string ((qA l0 aa).f2),.bool ((qA l0 aa).f3)]] ?_;with_reducible refine(spec_l10EntryOk.calls k1 ((qA l0 aa).f0) ((qA l0 aa).f1) ((qA l0 aa).f2) ((qA l0 aa).f3) true _ A6.out).mono ?_
       rintro e cb ⟨rfl,hb⟩;refine⟨_,rfl,?_⟩;replace HB:=zz (zv zb hb)
       (try clear hb)
       (try clear bO)
       (try clear hk)
       (try clear hi)
       refine hK.out _ _ ⟨(z3 HB.out ak),(z3 HB.out aj),(z3 HB.out ai),(z3 HB.out ah)⟩ (fun hHeld=>?_);clear hK K;refine zn 18 ?_;refine zp 5 19 (bp 6 18) ?_;refine zp 6 20 (bp 7 17) ?_;refine zp 7 21 (bp 8 16) ?_;refine zp 8 22 (bp 9 15) ?_;refine zp 9 23 (bp 10 14) ?_;refine zu 10 24 (bp 11 13) ?_;refine zu 11 25 (bp 12 12) ?_;refine zu 12 26 (bp 13 11) ?_;refine zu 13 27 (bp 14 10) ?_;refine zu 14 28 (bp 15 9) ?_;refine zu 15 29 (bp 16 8) ?_;refine zu 16 30 (bp 17 7) ?_;refine zu 17 31 (bp 18 6) ?_;refine zu 18 32 (bp 19 5) ?_;refine zu 19 33 (bp 20 4) ?_;refine zu 20 34 (bp 21 3) ?_;refine zu 21 35 (bp 22 2) ?_;refine zp 22 36 (bp 23 1) ?_;refine zp 23 37 (bp 24 0) ?_;refine done_ (done_of HT_.out zk) ?_;try go_wp2
       go_meet
       case rel=>exact⟨_,(false),zr,H',⟨by have:=aJ.out;first|omega|exact Nat.le_refl _⟩,⟨zb⟩⟩
     ·replace c7:=Bool.eq_false_iff.mpr c7;subst c7;rw[if_neg (show¬(false=true) by decide)] at H;have H':=zz H;clear H;try go_wp2
      replace HB:=zz (qK HB.out);have ap:0<=(aa:Int):=z2;have ar:aa<(l0.length:Int):=z2;obtain⟨ab,aL,ac,ad,ae,af⟩:=vF aD.out aa ap ar;have ah:=af;have ai:=ae;have aj:=ad;have ak:=ac;cases aL;replace ac:=z3 HB.out ac;replace ad:=z3 HB.out ad;replace ae:=z3 HB.out ae;replace af:=z3 HB.out af;replace ap:=eq_true ap;replace ar:=eq_true ar;refine start_ (n:=24) (S:=fun w'=>w'.cell? (ab.add ((aa).toNat*4))=some (.string ((qA l0 aa).f0))/\w'.cell? ⟨(ab.add ((aa).toNat*4)).block,(ab.add ((aa).toNat*4)).off+1,none⟩=some (.int .i64 ((qA l0 aa).f1))/\w'.cell? ⟨(ab.add ((aa).toNat*4)).block,(ab.add ((aa).toNat*4)).off+2,none⟩=some (.string ((qA l0 aa).f2))/\w'.cell? ⟨(ab.add ((aa).toNat*4)).block,(ab.add ((aa).toNat*4)).off+3,none⟩=some (.bool ((qA l0 aa).f3))) (ds:=[]) (bp 0 24) zk rfl rfl ⟨(z3 HB.out ak),(z3 HB.out aj),(z3 HB.out ai),(z3 HB.out ah)⟩ (fun hHeld=>?_);refine with_tabW spec_TreeOk.tab6 spec_TreeOk.bits6 (fun HT_ HW_=>?_);generalize wr.drew=cc at HB ac ad ae af hHeld⊢;refine zp 0 14 (bp 1 23) ?_;refine zp 1 15 (bp 2 22) ?_;refine zp 2 16 (bp 3 21) ?_;refine zt 3 17 (bp 4 20) ?_;refine zo 4 18 (bp 5 19) fun K hK=>?_;refine zh Tryz.func79 #[.agg #[.string ((qA l0 aa).f0),.int .i64 ((qA l0 aa).f1),.string ((qA l0 aa).f2),.bool ((qA l0 aa).f3)]] ?_;with_reducible refine(spec_l10EntryOk.calls k1 ((qA l0 aa).f0) ((qA l0 aa).f1) ((qA l0 aa).f2) ((qA l0 aa).f3) false _ A6.out).mono ?_
      rintro e cd ⟨rfl,hb⟩;refine⟨_,rfl,?_⟩;replace HB:=zz (zv zb hb)
      (try clear hb)
      (try clear bO)
      (try clear hk)
      (try clear hi)
      refine hK.out _ _ ⟨(z3 HB.out ak),(z3 HB.out aj),(z3 HB.out ai),(z3 HB.out ah)⟩ (fun hHeld=>?_);clear hK K;refine zn 18 ?_;refine zp 5 19 (bp 6 18) ?_;refine zp 6 20 (bp 7 17) ?_;refine zu 7 21 (bp 8 16) ?_;refine zu 8 22 (bp 9 15) ?_;refine zu 9 23 (bp 10 14) ?_;refine zu 10 24 (bp 11 13) ?_;refine zu 11 25 (bp 12 12) ?_;refine zu 12 26 (bp 13 11) ?_;refine zu 13 27 (bp 14 10) ?_;refine zu 14 28 (bp 15 9) ?_;refine zu 15 29 (bp 16 8) ?_;refine zu 16 30 (bp 17 7) ?_;refine zu 17 31 (bp 18 6) ?_;refine zu 18 32 (bp 19 5) ?_;refine zu 19 33 (bp 20 4) ?_;refine zu 20 34 (bp 21 3) ?_;refine zu 21 35 (bp 22 2) ?_;refine zu 22 36 (bp 23 1) ?_;refine zp 23 37 (bp 24 0) ?_;refine done_ (done_of HT_.out zk) ?_;try go_wp2
      go_meet
      case rel=>exact⟨_,(true),zr,H',⟨by have:=aJ.out;first|omega|exact Nat.le_refl _⟩,⟨zb⟩⟩
    ·rw[if_neg c5] at H;exact absurd H (by simp)
   case rest=>
    clear bi;try clear c5
    try clear c7
    try clear c8
    try clear bk
    try clear a4
    try clear a5
    try clear ac
    try clear ad
    try clear ae
    try clear af
    try clear au
    try clear av
    try clear aw
    try clear ax
    try clear ay
    try clear az
    try clear aA
    try clear aB
    try clear ap
    try clear aX
    try clear aZ
    try clear ar
    try clear aY
    try clear a0
    obtain⟨kq,aH,rfl,HA,bb,HB⟩:=hcut;cases kq with
    |zero=>exact absurd HA.out (by simp[spec_TreeOk.j1])
    |succ aF=>
     have H:=HA.out;clear HA;simp only[spec_TreeOk.j1] at H;by_cases bc:aH=true
     ·subst bc;rw[if_pos rfl] at H;obtain rfl:=zi H;go_wp2;go_ret;exact⟨ze,zb⟩
     replace bc:=Bool.eq_false_iff.mpr bc;subst bc;rw[if_neg (show¬(false=true) by decide)] at H;replace H:=yAD H;obtain⟨bX,H⟩:=H;replace H:=yAD H;obtain⟨bY,H⟩:=H;replace H:=zf H;obtain⟨aG,bn,H⟩:=H;try dsimp only at H
     have bo:=zz bn;clear bn;refine yC H ?_ ?_<;>clear H<;>intro bq H
     ·obtain⟨bG,bH⟩:=zq bq;clear bq;have H':=zz H;clear H;have br:=yt (0<=(aa:Int));have bs:=yt (aa<(l0.length:Int));obtain⟨aC,aM,al,am,an,ao⟩:=vF aD.out aa z2 z2;cases aM;replace al:=z3 HB.out al;replace am:=z3 HB.out am;replace an:=z3 HB.out an;replace ao:=z3 HB.out ao;go_wp2_with(first|(refine zL 78 43 Tryz.func78 #[.string ((qA l0 aa).f0)] ?_;(with_reducible refine(spec_l10Up.calls aF ((qA l0 aa).f0) aG _ bo.out).mono ?_);rintro e w' ⟨rfl,⟨nd,rfl⟩⟩;refine⟨_,rfl,?_⟩))
      go_roundg aF
      case measure=>exact yM2 aJ bb
      case rel=>exact⟨(wrap64 (aa+1)),zr,H',⟨yM2 aJ bb⟩,⟨zb⟩⟩
     obtain⟨bG,bH⟩:=zw bq;have bZ:=eq_true (z2:0<=aa);replace H:=yA H;obtain⟨bu,H⟩:=H;have b0:=eq_true bu;have b1:=z1 bu;clear bu;obtain⟨aE,a1⟩:∃y_:List (S63),y_=(l0.take (aa:Int).toNat):=⟨_,rfl⟩
     replace H:((spec_l10Dir.f aF aE aG).bind fun a6=>(if a6=true then(spec_TreeOk.l0 aF l0 (wrap64 (aa+1))) else(some false)))=some r:=yN0 a1 H;have aI:=zz a1;clear a1;replace H:=zf H;obtain⟨a6,bv,H⟩:=H;try dsimp only at H
     have bP:=zz bv;clear bv;by_cases bd:a6=true
     case neg=>
      replace bd:=Bool.eq_false_iff.mpr bd;subst bd;rw[if_neg (show¬(false=true) by decide)] at H;obtain rfl:=zi H;have br:=yt (0<=(aa:Int));have bs:=yt (aa<(l0.length:Int));obtain⟨aC,aM,al,am,an,ao⟩:=vF aD.out aa z2 z2;cases aM;replace al:=z3 HB.out al;replace am:=z3 HB.out am;replace an:=z3 HB.out an;replace ao:=z3 HB.out ao;go_wp2_with(first|(refine zL 78 43 Tryz.func78 #[.string ((qA l0 aa).f0)] ?_;(with_reducible refine(spec_l10Up.calls aF ((qA l0 aa).f0) aG _ bo.out).mono ?_);rintro e w' ⟨rfl,⟨nd,rfl⟩⟩;refine⟨_,rfl,?_⟩;have bw:(aa:Int)<=((l0.length:Int):Int):=z2;obtain⟨b4,be,_,bI,_⟩:=info_parts info63;have aV:l0.length<=c0:=bM.out;have bz:Kd.C k63 _ (some aC) l0.length l0:=aD.out;have bA:=cut_to (P:=Tryz.prog) 31 63 .i64 Tryz.underlying31 be (some aC) l0.length c0 aa (z2) bw aV;have a7:=Kd.C_take (m:=(aa:Int).toNat) bz yo_;have a8:aE.length=(aa:Int).toNat:=(by rw[aI.out,List.length_take];omega);rw[<-aI.out] at a7;rw[<-a8] at bA;have a2:=zz a7;have a3:=zz (show aE.length<=c0 from by omega);clear a7 bz aV be bI;have b5:=zz a8;clear a8;replace bw:=eq_true bw)|(go_at_call 80;(with_reducible refine(spec_l10Dir.calls aF _ _ aE aG false _ ?s1 ?s2 bP.out).mono ?_);(case s1=>exact zC a2.out);(case s2=>exact a3.out);rintro e w' ⟨rfl,⟨nd,rfl⟩⟩))
      go_ret;exact⟨ze,zb⟩
     subst bd;rw[if_pos rfl] at H;have H':=zz H;clear H;have br:=yt (0<=(aa:Int));have bs:=yt (aa<(l0.length:Int));obtain⟨aC,aM,al,am,an,ao⟩:=vF aD.out aa z2 z2;cases aM;replace al:=z3 HB.out al;replace am:=z3 HB.out am;replace an:=z3 HB.out an;replace ao:=z3 HB.out ao;go_wp2_with(first|(refine zL 78 43 Tryz.func78 #[.string ((qA l0 aa).f0)] ?_;(with_reducible refine(spec_l10Up.calls aF ((qA l0 aa).f0) aG _ bo.out).mono ?_);rintro e w' ⟨rfl,⟨nd,rfl⟩⟩;refine⟨_,rfl,?_⟩;have bB:(aa:Int)<=((l0.length:Int):Int):=z2;obtain⟨b6,bf,_,bJ,_⟩:=info_parts info63;have aW:l0.length<=c0:=bM.out;have bC:Kd.C k63 _ (some aC) l0.length l0:=aD.out;have bD:=cut_to (P:=Tryz.prog) 31 63 .i64 Tryz.underlying31 bf (some aC) l0.length c0 aa (z2) bB aW;have a9:=Kd.C_take (m:=(aa:Int).toNat) bC yo_;have ba:aE.length=(aa:Int).toNat:=(by rw[aI.out,List.length_take];omega);rw[<-aI.out] at a9;rw[<-ba] at bD;have a2:=zz a9;have a3:=zz (show aE.length<=c0 from by omega);clear a9 bC aW bf bJ;have b7:=zz ba;clear ba;replace bB:=eq_true bB)|(go_at_call 80;(with_reducible refine(spec_l10Dir.calls aF _ _ aE aG true _ ?s1 ?s2 bP.out).mono ?_);(case s1=>exact zC a2.out);(case s2=>exact a3.out);rintro e w' ⟨rfl,⟨nd,rfl⟩⟩))
     go_roundg aF
     case measure=>exact yM2 aJ bb
     case rel=>exact⟨(wrap64 (aa+1)),zr,H',⟨yM2 aJ bb⟩,⟨zb⟩⟩
end Go.Proofs.YtgccknmddhbdgaaGreatDoor.Q
