import Derived.Test.YtcekmnclmldmmaaGreatDoorR24
import Derived.Test.YtcekmnclmldmmaaGreatDoorR17
set_option linter.unusedVariables false
set_option linter.unusedSimpArgs false
namespace Go.Proofs.YtcekmnclmldmmaaGreatDoor.Q
open Go.RowKit W1 W2 W3
attribute [local go_sem] max2_int min2_int max_two min_two max_three min_three max_four min_four
attribute [local go_sem high] bl_leq bl_gtr bl_geq
set_option maxHeartbeats 8000000
set_option maxRecDepth 100000
theorem Ms.bound{α:Type}{d:Kd α}{e base:Nat}{ok:Nat→Prop}{w:World}{v:Value}{xs:List α}(h:Kd.S d e w base ok v xs):Kd.S d e w base (fun k=>ok k∧∃q,q ∈ e::d.E∧∃cells,w.heap[k]?=some (.cells cells q (0,0))) v xs:=Kd.qZ (Kd.S_bound h) (fun k hk=>⟨hk.1,hk.2.2.2⟩)
theorem Ms.row0{P:Nat→Prop}{fs:List Mk.Fd}{w:World}{A:Option Addr}{c:Nat}:Mk.Row P fs 0 w (.slice A 0 c):=⟨A,c,rfl,Nat.zero_le _,fun h=>absurd h (Nat.lt_irrefl _)⟩
theorem Ms.World{P:Nat→Prop}{k1 k2:Nat}{A0 A1 A2 A3:Option Addr}{c0 c1 c2 c3:Nat}{r0 M0:List S94}{r1 M1:List S67}{k n1 n2:Int}{w0 w:World}(hB:Below w0.heap.size w0 w)(h0:Kd.S k94 94 w w0.heap.size P (.slice A0 r0.length c0) r0)(h1:Kd.S k67 67 w w0.heap.size P (.slice A1 r1.length c1) r1)
 (hm0:laws_markItemS.f k1 r0 k=some (n1,M0)) (hm1:laws_markProfileS.f k2 r1 n1=some (n2,M1)) (hl0:r0.length<4611686018427387904) (hl1:r1.length<4611686018427387904) (hn:0≤n2) (hn2:n2≤4611686018427387904):
 Calls Tryz.prog 15 #[.agg #[.slice A0 r0.length c0,.slice A1 r1.length c1,.slice A2 0 c2,.slice A3 0 c3],.int .i64 k] w fun e w'=>e= .returned (.int .i64 n2)∧Kd.S k94 94 w' w0.heap.size P (.slice A0 r0.length c0) M0∧Kd.S k67 67 w' w0.heap.size P (.slice A1 r1.length c1) M1∧Below w0.heap.size w0 w'∧Kept w w' P:=by
 have hu35:=Tryz.underlying35
 have b0:=Ms.bound h0
 have b1:=Ms.bound h1
 have hap:∀k:Nat,(∃q,q ∈ 94::k94.E∧∃cells,w.heap[k]?=some (.cells cells q (0,0)))→¬ ∃q,q ∈ 67::k67.E∧∃cells,w.heap[k]?=some (.cells cells q (0,0)):=by
  rintro k ⟨q,hq,cs,hc⟩ ⟨q',hq',cs',hc'⟩
  rw[hc] at hc'
  injection hc' with hc'
  injection hc' with _ hc'
  subst hc'
  have:∀q,q ∈ 94::k94.E→q ∈ 67::k67.E→False:=by decide
  exact this q hq hq'
 obtain⟨QI,hQI⟩:∃Q:Nat→Prop,Q=fun k:Nat=>P k∧∃q,q ∈ 94::k94.E∧∃cells,w.heap[k]?=some (.cells cells q (0,0)):=⟨_,rfl⟩
 obtain⟨QP,hQP⟩:∃Q:Nat→Prop,Q=fun k:Nat=>P k∧∃q,q ∈ 67::k67.E∧∃cells,w.heap[k]?=some (.cells cells q (0,0)):=⟨_,rfl⟩
 rw[←hQI] at b0
 rw[←hQP] at b1
 have HAP:=zz (show∀k:Nat,QI k→¬QP k from fun k h h'=>by rw[hQI] at h;rw[hQP] at h';exact hap k h.2 h'.2)
 have HPI:=zz (show∀k:Nat,QI k→P k from fun k h=>by rw[hQI] at h;exact h.1)
 have HPP:=zz (show∀k:Nat,QP k→P k from fun k h=>by rw[hQP] at h;exact h.1)
 have HLT:=zz (show∀k:Nat,QI k∨QP k→k<w.heap.size from fun k h=>by
  rcases h with h|h
  ·rw[hQI] at h
   obtain⟨_,_,_,_,hc⟩:=h
   exact blk_lt hc
  ·rw[hQP] at h
   obtain⟨_,_,_,_,hc⟩:=h
   exact blk_lt hc)
 have H0:=zz b0
 have H1:=zz b1
 have HM0:=zz hm0
 have HM1:=zz hm1
 have HL:=zz (And.intro hl0 hl1)
 have HN:=zz (And.intro hn hn2)
 have HB:=zz hB
 have HW:=yB w
 clear hB h0 h1 hm0 hm1 hl0 hl1 hn hn2 b0 b1 hap hQI hQP
 go_enter Tryz.func15,Tryz.ntmps15
 go_wp2_with(first
  |(refine zN 2 ?_;(try(refine z4 ?_;dsimp only));refine zX 2 35 #[.slice A0 r0.length c0,.slice A1 r1.length c1,.slice A2 0 c2,.slice A3 0 c3] ?_;intro gb hg w1 hbox hb;have HK:=zz (Kept.of_below hb P);replace H0:=zz (Kd.vE H0.out hb);replace H1:=zz (Kd.vE H1.out hb);replace HB:=zz (zv zb hb);have HBX:=zz hbox;have HG:=zz (show w.heap.size≤gb from Nat.le_of_eq hg.symm);obtain⟨x0,x1,x2,x3⟩:=zy4 hbox;clear hg hb hbox)
  |(refine zL 59 8 Tryz.func59 #[.slice A0 r0.length c0,.int .i64 k] ?_;(with_reducible refine(laws_markItemS.calls k1 QI _ r0 k n1 M0 w0 _ HB.out H0.out HM0.out HL.out.1).mono ?_);rintro e w2 ⟨rfl,ho,hb,hk⟩;refine⟨_,rfl,?_⟩;replace HBX:=zz ((hk.2 gb (blk_lt HBX.out) (fun hq=>Nat.lt_irrefl _ (Nat.lt_of_lt_of_le (HLT.out gb (.inl hq)) HG.out))).trans HBX.out);replace H1:=zz (Kd.S_kept H1.out hk (fun k h h'=>HAP.out k h' h));replace H0:=zz ho;replace HK:=zz (Kept.then_ HK.out hk (fun k h=> .inl (HPI.out k h)));replace HB:=zz hb;clear ho hb hk x0 x1 x2 x3;obtain⟨x0,x1,x2,x3⟩:=zy4 HBX.out)
  |(refine zL 60 12 Tryz.func60 #[.slice A1 r1.length c1,.int .i64 n1] ?_;(with_reducible refine(laws_markProfileS.calls k2 QP _ r1 n1 n2 M1 w0 _ HB.out H1.out HM1.out HL.out.2).mono ?_);rintro e w3 ⟨rfl,ho,hb,hk⟩;refine⟨_,rfl,?_⟩;replace HBX:=zz ((hk.2 gb (blk_lt HBX.out) (fun hq=>Nat.lt_irrefl _ (Nat.lt_of_lt_of_le (HLT.out gb (.inr hq)) HG.out))).trans HBX.out);replace H0:=zz (Kd.S_kept H0.out hk (fun k h h'=>HAP.out k h h'));replace H1:=zz ho;replace HK:=zz (Kept.then_ HK.out hk (fun k h=> .inl (HPP.out k h)));replace HB:=zz hb;clear ho hb hk x0 x1 x2 x3;obtain⟨x0,x1,x2,x3⟩:=zy4 HBX.out)
  |(refine zL 61 16 Tryz.func61 #[.slice A2 0 c2,.int .i64 n2] ?_;(with_reducible refine(Mk.PendingS (P:=fun _=>False) (l1:=fun _=>0) (r:=n2) Ms.row0 HN.out.1 (by simp[Mk.tot]) HN.out.2).mono ?_);rintro e w4 ⟨rfl,hl⟩;refine⟨_,rfl,?_⟩;have hb:=Mk.Like.to_below (Below.refl _ _) (Nat.le_refl _) hl (fun _ h=>h.elim);replace HBX:=zz (qM HBX.out hb);replace H0:=zz (Kd.vE H0.out hb);replace H1:=zz (Kd.vE H1.out hb);replace HK:=zz (Kept.below HK.out hb);replace HB:=zz (zv HB.out hb);clear hb hl x0 x1 x2 x3;obtain⟨x0,x1,x2,x3⟩:=zy4 HBX.out)
  |(refine zL 62 20 Tryz.func62 #[.slice A3 0 c3,.int .i64 n2] ?_;(with_reducible refine(Mk.NextS (P:=fun _=>False) (r:=n2) Ms.row0 HN.out.1 (by simp[Mk.tot]) HN.out.2).mono ?_);rintro e w5 ⟨rfl,hl⟩;refine⟨_,rfl,?_⟩;have hb:=Mk.Like.to_below (Below.refl _ _) (Nat.le_refl _) hl (fun _ h=>h.elim);replace H0:=zz (Kd.vE H0.out hb);replace H1:=zz (Kd.vE H1.out hb);replace HK:=zz (Kept.below HK.out hb);replace HB:=zz (zv HB.out hb);clear hb hl x0 x1 x2 x3))
 go_ret
 exact⟨rfl,Kd.qZ (zS H0.out) (fun k h=>HPI.out k h),Kd.qZ (zS H1.out) (fun k h=>HPP.out k h),zb,by repeat(first|exact HK.out|apply Kept.alloc|apply Kept.drewN|apply Kept.drew)⟩
structure E5 where
 b2:Bool
 b5:Bool
 b6:Bool
 b9:Bool
 b10:Bool
 b11:Bool
 v2:Value
 v5:Value
 v6:Value
 v9:Value
 v10:Value
 gb:Nat
namespace E5
def tab:List (List Nat×List Nat):=[([],[]),([0],[0]),([1],[1]),([],[]),([3],[3]),([4,2],[4]),([],[]),([],[]),([7],[7]),([6,8,5],[6,8]),([2,5,9],[2,5,9]),([],[]),([11,10,9,0,1,2,3,4,5,6,7,8,9,10,11],[10,11])]
def lst(b2 b5 b6 b9 b10 b11:Bool):List Bool:=[true,true,b2,true,true,b5,b6,true,true,b9,b10,b11,false]
def msk(s:E5):Array Bool:= #[true,true,s.b2,true,true,s.b5,s.b6,true,true,s.b9,s.b10,s.b11,false]
def left(s:E5):Nat:=(!s.b2).toNat+(!s.b5).toNat+(!s.b6).toNat+(!s.b9).toNat+(!s.b10).toNat+(!s.b11).toNat
structure Ok(s:E5):Prop where
 h5:s.b5=true→s.b2=true
 h9:s.b9=true→s.b5=true∧s.b6=true
 h10:s.b10=true→s.b9=true
theorem some_ready:∀b2 b5 b6 b9 b10 b11:Bool,(b5=true→b2=true)→(b9=true→b5=true∧b6=true)→(b10=true→b9=true)→¬(b2 && b6 && b10 && b11)=true→readyT tab (lst b2 b5 b6 b9 b10 b11)≠[]:=by decide+kernel
def What(b2 b5 b6 b9 b10 b11:Bool)(i:Nat):Prop:=(i=2∧b2=false)∨(i=5∧b5=false∧b2=true)∨(i=6∧b6=false)∨(i=9∧b9=false∧b5=true∧b6=true)∨(i=10∧b10=false∧b2=true∧b5=true∧b9=true)∨(i=11∧b11=false)∨
 (i=12∧b2=true∧b5=true∧b6=true∧b9=true∧b10=true∧b11=true)
instance (b2 b5 b6 b9 b10 b11:Bool) (i:Nat):Decidable (What b2 b5 b6 b9 b10 b11 i):=by unfold What;exact inferInstance
theorem what_ready:∀b2 b5 b6 b9 b10 b11:Bool,(readyT tab (lst b2 b5 b6 b9 b10 b11)).all (fun i=>decide (What b2 b5 b6 b9 b10 b11 i))=true:=by decide+kernel
section
variable {P : Program} {ops : Array Oper} {Q : Exit → Act → World → Prop} {S : World → Prop} {T : Bool × List (List Nat × List Nat)} {A : E5 → Act} {F : E5 → World → Prop} {o2 o5 o6 o9 o10 o11 : Oper}
theorem run(hT:rtab .any ops=T)(hTT:T.2=tab)(i2:ops[2]?=some o2)(i5:ops[5]?=some o5)(i6:ops[6]?=some o6)(i9:ops[9]?=some o9)(i10:ops[10]?=some o10)(i11:ops[11]?=some o11)
 (h2:∀s w,Ok s→s.b2=false→F s w→∀K:Act→World→Prop,(∀v w',S w'→F { s with b2:=true,v2:=v } w'→K (A { s with b2:=true,v2:=v }) w')→if Region.wanted o2 (yielded ops (A s).tmps)=true then Oper.wp P o2 (A s) w K Q else K ((A s).put o2.dst undef) w)
 (h5:∀s w,Ok s→s.b5=false→F s w→∀K:Act→World→Prop,(∀v w',S w'→F { s with b5:=true,v5:=v } w'→K (A { s with b5:=true,v5:=v }) w')→if Region.wanted o5 (yielded ops (A s).tmps)=true then Oper.wp P o5 (A s) w K Q else K ((A s).put o5.dst undef) w)
 (h6:∀s w,Ok s→s.b6=false→F s w→∀K:Act→World→Prop,(∀v w',S w'→F { s with b6:=true,v6:=v } w'→K (A { s with b6:=true,v6:=v }) w')→if Region.wanted o6 (yielded ops (A s).tmps)=true then Oper.wp P o6 (A s) w K Q else K ((A s).put o6.dst undef) w)
 (h9:∀s w,Ok s→s.b9=false→s.b6=true→F s w→∀K:Act→World→Prop,(∀v w',S w'→F { s with b9:=true,v9:=v } w'→K (A { s with b9:=true,v9:=v }) w')→if Region.wanted o9 (yielded ops (A s).tmps)=true then Oper.wp P o9 (A s) w K Q else K ((A s).put o9.dst undef) w)
 (h10:∀s w,Ok s→s.b10=false→s.b2=true→s.b5=true→s.b9=true→F s w→∀K:Act→World→Prop,(∀v w',S w'→F { s with b10:=true,v10:=v } w'→K (A { s with b10:=true,v10:=v }) w')→if Region.wanted o10 (yielded ops (A s).tmps)=true then Oper.wp P o10 (A s) w K Q else K ((A s).put o10.dst undef) w)
 (h11:∀s w,Ok s→s.b11=false→F s w→∀K:Act→World→Prop,(∀g w',S w'→F { s with b11:=true,gb:=g } w'→K (A { s with b11:=true,gb:=g }) w')→if Region.wanted o11 (yielded ops (A s).tmps)=true then Oper.wp P o11 (A s) w K Q else K ((A s).put o11.dst undef) w)
 (hend:∀s w,Ok s→s.b2=true→s.b5=true→s.b6=true→s.b9=true→s.b10=true→s.b11=true→F s w→qU P .any ops Q S [] 1 #[true,true,true,true,true,true,true,true,true,true,true,true,false] (A s) w):
 ∀n s w,Ok s→s.left=n→F s w→qU P .any ops Q S [] (1+n) s.msk (A s) w
 |0,s,w,ho,hl,hF=>by
  obtain⟨b2,b5,b6,b9,b10,b11,v2,v5,v6,v9,v10,gb⟩:=s
  cases b2<;>cases b5<;>cases b6<;>cases b9<;>cases b10<;>cases b11<;>first|(exact hend _ w ho rfl rfl rfl rfl rfl rfl hF)|(simp[left] at hl)
 |n+1,s,w,ho,hl,hF=>by
  have ih:=run hT hTT i2 i5 i6 i9 i10 i11 h2 h5 h6 h9 h10 h11 hend n
  have e:Region.ready .any ops s.msk=readyT tab (lst s.b2 s.b5 s.b6 s.b9 s.b10 s.b11):=by rw[ready_eq,hT,hTT];rfl
  refine wpAnyLast_all e (some_ready _ _ _ _ _ _ ho.h5 ho.h9 ho.h10 (fun hc=>?_)) (fun i hi=>?_)
  ·simp only[Bool.and_eq_true] at hc
   obtain⟨⟨⟨c2,c6⟩,c10⟩,c11⟩:=hc
   have c9:=ho.h10 c10
   have c5:=(ho.h9 c9).1
   simp[left,c2,c5,c6,c9,c10,c11] at hl
  ·rcases(show What s.b2 s.b5 s.b6 s.b9 s.b10 s.b11 i from of_decide_eq_true (List.all_eq_true.1 (what_ready _ _ _ _ _ _) i hi)) with⟨rfl,c⟩|⟨rfl,c,d⟩|⟨rfl,c⟩|⟨rfl,c,d⟩|⟨rfl,c,d⟩|⟨rfl,c⟩|⟨rfl,c2,c5,c6,c9,c10,c11⟩
   ·exact wpOp_step i2 (fun K' hK=>h2 s w ho c hF K' (fun v w' hS hF'=>hK _ _ ⟨fun _ _=>hS,ih { s with b2:=true,v2:=v } w' ⟨fun _=>rfl,ho.h9,ho.h10⟩ (by simp[left,c] at hl⊢;omega) hF'⟩))
   ·exact wpOp_step i5 (fun K' hK=>h5 s w ho c hF K' (fun v w' hS hF'=>hK _ _ ⟨fun _ _=>hS,ih { s with b5:=true,v5:=v } w' ⟨fun _=>d,fun h=>⟨rfl,(ho.h9 h).2⟩,ho.h10⟩ (by simp[left,c] at hl⊢;omega) hF'⟩))
   ·exact wpOp_step i6 (fun K' hK=>h6 s w ho c hF K' (fun v w' hS hF'=>hK _ _ ⟨fun _ _=>hS,ih { s with b6:=true,v6:=v } w' ⟨ho.h5,fun h=>⟨(ho.h9 h).1,rfl⟩,ho.h10⟩ (by simp[left,c] at hl⊢;omega) hF'⟩))
   ·exact wpOp_step i9 (fun K' hK=>h9 s w ho c d.2 hF K' (fun v w' hS hF'=>hK _ _ ⟨fun _ _=>hS,ih { s with b9:=true,v9:=v } w' ⟨ho.h5,fun _=>d,fun _=>rfl⟩ (by simp[left,c] at hl⊢;omega) hF'⟩))
   ·exact wpOp_step i10 (fun K' hK=>h10 s w ho c d.1 d.2.1 d.2.2 hF K' (fun v w' hS hF'=>hK _ _ ⟨fun _ _=>hS,ih { s with b10:=true,v10:=v } w' ⟨ho.h5,ho.h9,fun _=>d.2.2⟩ (by simp[left,c] at hl⊢;omega) hF'⟩))
   ·exact wpOp_step i11 (fun K' hK=>h11 s w ho c hF K' (fun g w' hS hF'=>hK _ _ ⟨fun _ _=>hS,ih { s with b11:=true,gb:=g } w' ⟨ho.h5,ho.h9,ho.h10⟩ (by simp[left,c] at hl⊢;omega) hF'⟩))
   ·simp[left,c2,c5,c6,c9,c10,c11] at hl
end
def act(a:Act)(s:E5):Act:=putAll a [(8,cond s.b2 s.v2 undef),(11,cond s.b5 s.v5 undef),(12,cond s.b6 s.v6 undef),(15,cond s.b9 s.v9 undef),(3,cond s.b11 (.pointer (some ⟨s.gb,0,none⟩)) undef),(16,cond s.b10 s.v10 undef)]
theorem pn(N:Tmp){K:Act→World→Prop}{o:Oper}{a a':Act}{v:Value}{w:World}(h:K a' w)(hN:o.dst=some N:=by rfl)(e:a.put (some N) v=a':=by simp only[E5.act,putAll,Act.put,List.setIfInBounds_toArray,List.set_cons_zero,List.set_cons_succ,cond_true]):K (a.put o.dst v) w:=by
 rw[hN,e]
 exact h
theorem at_{P:Program}{ops:Array Oper}{Q:Exit→Act→World→Prop}{o:Oper}{K:Act→World→Prop}{a a':Act}{w:World}(N:Tmp)(h:if Region.wanted o (yielded ops a'.tmps)=true then Oper.wp P o a' w K Q else K (a'.put (some N) undef) w)
 (e:a=a':=by simp only[E5.act,putAll,Act.put,List.setIfInBounds_toArray,List.set_cons_zero,List.set_cons_succ,cond_true];rfl) (hN:o.dst=some N:=by rfl):if Region.wanted o (yielded ops a.tmps)=true then Oper.wp P o a w K Q else K (a.put o.dst undef) w:=by
 rw[hN,e]
 exact h
theorem pk{K:Act→World→Prop}{a a':Act}{w:World}(h:K a' w)(e:a=a':=by simp only[E5.act,putAll,Act.put,List.setIfInBounds_toArray,List.set_cons_zero,List.set_cons_succ,cond_true]):K a w:=e ▸ h
section
variable {P : Program} {ops : Array Oper} {Q : Exit → Act → World → Prop} {S : World → Prop} {T : Bool × List (List Nat × List Nat)} {F : E5 → World → Prop} {o2 o5 o6 o9 o10 o11 : Oper}
theorem walk{a:Act}{w:World}{l:Array Bool}(hT:rtab .any ops=T)(hTT:T.2=tab)(i2:ops[2]?=some o2)(i5:ops[5]?=some o5)(i6:ops[6]?=some o6)(i9:ops[9]?=some o9)(i10:ops[10]?=some o10)(i11:ops[11]?=some o11)
 (h2:∀s w,Ok s→s.b2=false→F s w→∀K:Act→World→Prop,(∀v w',S w'→F { s with b2:=true,v2:=v } w'→K (act a { s with b2:=true,v2:=v }) w')→if Region.wanted o2 (yielded ops (act a s).tmps)=true then Oper.wp P o2 (act a s) w K Q else K ((act a s).put o2.dst undef) w)
 (h5:∀s w,Ok s→s.b5=false→F s w→∀K:Act→World→Prop,(∀v w',S w'→F { s with b5:=true,v5:=v } w'→K (act a { s with b5:=true,v5:=v }) w')→if Region.wanted o5 (yielded ops (act a s).tmps)=true then Oper.wp P o5 (act a s) w K Q else K ((act a s).put o5.dst undef) w)
 (h6:∀s w,Ok s→s.b6=false→F s w→∀K:Act→World→Prop,(∀v w',S w'→F { s with b6:=true,v6:=v } w'→K (act a { s with b6:=true,v6:=v }) w')→if Region.wanted o6 (yielded ops (act a s).tmps)=true then Oper.wp P o6 (act a s) w K Q else K ((act a s).put o6.dst undef) w)
 (h9:∀s w,Ok s→s.b9=false→s.b6=true→F s w→∀K:Act→World→Prop,(∀v w',S w'→F { s with b9:=true,v9:=v } w'→K (act a { s with b9:=true,v9:=v }) w')→if Region.wanted o9 (yielded ops (act a s).tmps)=true then Oper.wp P o9 (act a s) w K Q else K ((act a s).put o9.dst undef) w)
 (h10:∀s w,Ok s→s.b10=false→s.b2=true→s.b5=true→s.b9=true→F s w→∀K:Act→World→Prop,(∀v w',S w'→F { s with b10:=true,v10:=v } w'→K (act a { s with b10:=true,v10:=v }) w')→if Region.wanted o10 (yielded ops (act a s).tmps)=true then Oper.wp P o10 (act a s) w K Q else K ((act a s).put o10.dst undef) w)
 (h11:∀s w,Ok s→s.b11=false→F s w→∀K:Act→World→Prop,(∀g w',S w'→F { s with b11:=true,gb:=g } w'→K (act a { s with b11:=true,gb:=g }) w')→if Region.wanted o11 (yielded ops (act a s).tmps)=true then Oper.wp P o11 (act a s) w K Q else K ((act a s).put o11.dst undef) w)
 (hend:∀s w,Ok s→s.b2=true→s.b5=true→s.b6=true→s.b9=true→s.b10=true→s.b11=true→F s w→qU P .any ops Q S [] 1 #[true,true,true,true,true,true,true,true,true,true,true,true,false] (act a s) w)
 (F0:F ⟨false,false,false,false,false,false,undef,undef,undef,undef,undef,0⟩ w) (hl:msk ⟨false,false,false,false,false,false,undef,undef,undef,undef,undef,0⟩=l:=by kernel_rfl)
 (e:a=act a ⟨false,false,false,false,false,false,undef,undef,undef,undef,undef,0⟩:=by simp only[E5.act,putAll,Act.put,List.setIfInBounds_toArray,List.set_cons_zero,List.set_cons_succ,cond_false]):qU P .any ops Q S [] 7 l a w:=by
 have q:=run (A:=act a) hT hTT i2 i5 i6 i9 i10 i11 h2 h5 h6 h9 h10 h11 hend 6 ⟨false,false,false,false,false,false,undef,undef,undef,undef,undef,0⟩ w ⟨nofun,nofun,nofun⟩ rfl F0
 rw[←e,hl] at q
 exact q
end
end E5
theorem E5.Ok.n2{s:E5}(h:s.Ok)(c:s.b2=false)(d:s.b10=true){P:Prop}:P:=by
 have:=h.h5 (h.h9 (h.h10 d)).1
 rw[c] at this;cases this
theorem E5.Ok.n5{s:E5}(h:s.Ok)(c:s.b5=false)(d:s.b10=true){P:Prop}:P:=by
 have:=(h.h9 (h.h10 d)).1
 rw[c] at this;cases this
theorem E5.Ok.n9{s:E5}(h:s.Ok)(c:s.b9=false)(d:s.b10=true){P:Prop}:P:=by
 have:=h.h10 d
 rw[c] at this;cases this
structure Cw(W0:World)(g1 g2:Nat)(cs:Array Value)(r0:List S94)(r1:List S67)(yn y9:List S64)(s:E5)(W:World):Prop where
 hB:Below W0.heap.size W0 W
 x1:W.heap[g1]?=some (.cells cs 35 (0,0))
 x2:W.heap[g2]?=some (.cells #[.slice none 0 0,.slice none 0 0,.slice none 0 0,.slice none 0 0] 35 (0,0))
 h2:s.b2=true→Kd.S k94 94 W W0.heap.size (fun _=>True) s.v2 r0
 h5:s.b5=true→Kd.S k67 67 W W0.heap.size (fun _=>True) s.v5 r1
 h6:s.b6=true→s.b9=false→Kd.R k64 64 W W0.heap.size (fun _=>True) s.v6 yn
 h9:s.b9=true→Kd.R k64 64 W W0.heap.size (fun _=>True) s.v9 y9
 h11:s.b11=true→W.heap[s.gb]?=some (.cells #[.slice none 0 0,.slice none 0 0,.slice none 0 0,.slice none 0 0] 35 (0,0))∧W0.heap.size≤s.gb∧g1≠s.gb∧g2≠s.gb
 h10:s.b10=true→s.v10= .agg #[s.v2,s.v5,.slice none 0 0,s.v9]
namespace Cw
section
variable {W0 W W' : World} {g1 g2 : Nat} {cs : Array Value} {r0 : List S94} {r1 : List S67} {yn y9 : List S64} {s : E5} {v : Value}
theorem below(h:Cw W0 g1 g2 cs r0 r1 yn y9 s W)(hb:Below W.heap.size W W'):Cw W0 g1 g2 cs r0 r1 yn y9 s W':=
 ⟨below_step h.hB hb,qM h.x1 hb,qM h.x2 hb,fun c=>Kd.vE (h.h2 c) hb,fun c=>Kd.vE (h.h5 c) hb,fun c d=>Kd.R_below (h.h6 c d) hb,fun c=>Kd.R_below (h.h9 c) hb,fun c=>⟨qM (h.h11 c).1 hb,(h.h11 c).2⟩,h.h10⟩
theorem t2(h:Cw W0 g1 g2 cs r0 r1 yn y9 s W)(k:s.Ok)(c:s.b2=false)(hb:Below W.heap.size W W')(ho:Kd.S k94 94 W' W.heap.size (fun _=>True) v r0):Cw W0 g1 g2 cs r0 r1 yn y9 { s with b2:=true,v2:=v } W':=
 have h':=h.below hb
 ⟨h'.hB,h'.x1,h'.x2,fun _=>Kd.S_lower ho (qE h.hB),h'.h5,h'.h6,h'.h9,h'.h11,fun d=>k.n2 c d⟩
theorem t5(h:Cw W0 g1 g2 cs r0 r1 yn y9 s W)(k:s.Ok)(c:s.b5=false)(hb:Below W.heap.size W W')(ho:Kd.S k67 67 W' W.heap.size (fun _=>True) v r1):Cw W0 g1 g2 cs r0 r1 yn y9 { s with b5:=true,v5:=v } W':=
 have h':=h.below hb
 ⟨h'.hB,h'.x1,h'.x2,h'.h2,fun _=>Kd.S_lower ho (qE h.hB),h'.h6,h'.h9,h'.h11,fun d=>k.n5 c d⟩
theorem t6(h:Cw W0 g1 g2 cs r0 r1 yn y9 s W)(hb:Below W.heap.size W W')(ho:Kd.R k64 64 W' W.heap.size (fun _=>True) v yn):Cw W0 g1 g2 cs r0 r1 yn y9 { s with b6:=true,v6:=v } W':=
 have h':=h.below hb
 ⟨h'.hB,h'.x1,h'.x2,h'.h2,h'.h5,fun _ _=>Kd.vC ho (qE h.hB),h'.h9,h'.h11,h'.h10⟩
theorem t9(h:Cw W0 g1 g2 cs r0 r1 yn y9 s W)(k:s.Ok)(c9:s.b9=false)(c6:s.b6=true)(ho:Kd.R k64 64 W' W0.heap.size (fun _=>True) v y9)(hb:Below W0.heap.size W0 W')(hg:W.grownBy W' s.v6.ownBlock):Cw W0 g1 g2 cs r0 r1 yn y9 { s with b9:=true,v9:=v } W':=
 have h6:=h.h6 c6 c9
 have hx:=fun{g:Nat} {cs:Array Value} (hb:W.heap[g]?=some (.cells cs 35 (0,0)))=>blk_grown hb hg (Kd.R_ne h6 hb (by decide))
 ⟨hb,hx h.x1,hx h.x2,fun c=>Kd.S_over' (h.h2 c) (Kd.R_typed h6) (by decide) hg,fun c=>Kd.S_over' (h.h5 c) (Kd.R_typed h6) (by decide) hg,(fun _ c=>by cases c),fun _=>ho,fun c=>⟨hx (h.h11 c).1,(h.h11 c).2⟩,fun d=>k.n9 c9 d⟩
theorem t10(h:Cw W0 g1 g2 cs r0 r1 yn y9 s W):Cw W0 g1 g2 cs r0 r1 yn y9 { s with b10:=true,v10:= .agg #[s.v2,s.v5,.slice none 0 0,s.v9] } W:=⟨h.hB,h.x1,h.x2,h.h2,h.h5,h.h6,h.h9,h.h11,fun _=>rfl⟩
theorem t11(h:Cw W0 g1 g2 cs r0 r1 yn y9 s W){g:Nat}(e:g=W.heap.size)(hb:Below W.heap.size W W')(hx:W'.heap[g]?=some (.cells #[.slice none 0 0,.slice none 0 0,.slice none 0 0,.slice none 0 0] 35 (0,0))):Cw W0 g1 g2 cs r0 r1 yn y9 { s with b11:=true,gb:=g } W':=
 have h':=h.below hb
 ⟨h'.hB,h'.x1,h'.x2,h'.h2,h'.h5,h'.h6,h'.h9,fun _=>⟨hx,e ▸ qE h.hB,e ▸ Nat.ne_of_lt (blk_lt h.x1),e ▸ Nat.ne_of_lt (blk_lt h.x2)⟩,h'.h10⟩
end
end Cw
def spec_l10Copy.f(l0:List (S96)):Option ((List (S96))):=(some (([]:List (S96)):List (S96))).bind fun aa=>(if aa.length+l0.length<2932031007402 then(some (aa++l0)) else(none))
theorem spec_l10Copy.calls(A0:Option Addr)(c0:Nat)(l0:List (S96))(r:List (S96))(w:World)(aj:Kd.C k96 w A0 l0.length l0)(ak:l0.length≤c0)(h:spec_l10Copy.f l0=some r):
 Calls Tryz.prog 109 #[.slice A0 l0.length c0] w fun e w'=>∃al:Value,e= .returned (al)∧Kd.R k96 96 w' w.heap.size (fun _=>True) al r∧Below w.heap.size w w':=by
 have ap:=zz aj
 have au:=zz ak
 clear aj ak
 have HB:=yB w
 unfold spec_l10Copy.f at h
 have H:=h
 clear h
 obtain⟨ad,aa⟩:∃y_:List (S96),y_=(([]:List (S96))):=⟨_,rfl⟩
 replace H:(if ad.length+l0.length<2932031007402 then(some (ad++l0)) else(none))=some r:=by first|(rw[aa];with_reducible exact H)|(have ac:=(Option.bind_some _ _).symm.trans H;rw[aa];with_reducible exact ac)|(have ac:=(Option.bind_some _ _).symm.trans H;with_reducible exact ac)|with_reducible exact H|(rw[aa];exact H)|exact H
 have af:=zz aa
 clear aa
 replace H:=yA H
 obtain⟨c2,H⟩:=H
 have am:=zz c2
 clear c2
 obtain⟨an,ab⟩:∃y_:List (S96),y_=(ad++l0):=⟨_,rfl⟩
 replace H:(some an)=some r:=by first|(rw[ab];with_reducible exact H)|(have ac:=(Option.bind_some _ _).symm.trans H;rw[ab];with_reducible exact ac)|(have ac:=(Option.bind_some _ _).symm.trans H;with_reducible exact ac)|with_reducible exact H|(rw[ab];exact H)|exact H
 have ah:=zz ab
 clear ab
 obtain rfl:=zi H
 go_enter Tryz.func109,Tryz.ntmps109
 go_wp2_with(first|(refine zN 3 ?_;refine Kd.R_lit k96 _ 96 ?hg (N:=3) ?hd (xs:=([]:List (S96))) (inner:=[]) (ok:=fun _=>True) (okp:=fun _=>True) ?hr ?hp (fun _ hk=>hk) trivial (Below.refl _ _) (Nat.le_refl _) (by simp) ?_;(case hd=>rfl);(case hg=>rfl);(case hr=>first|(go_simp;done)|(go_simp;rfl));(case hp=>exact(Reps.none _ _));intro ao w3 ae hb hg_ hnew_;clear hg_ hnew_;(first|rw[←af.out] at ae|(simp only[Int.reduceToNat] at ae;rw[←af.out] at ae));have ag:=zz (Kd.vC ae (qE zb));replace HB:=zz (zv zb hb);clear hb ae)|((with_reducible refine qW (b:= .append) (xs:= #[.tmp 3,.tmp 4]) rfl ?_);at_builtin;refine Kd.R_append_rows k96 (w0:=w) w.heap.size rfl (.tmp 3) (.tmp 4) 45 96 (.agg #[(.string ⟨#[]⟩),(.int .i64 0),(.string ⟨#[]⟩),(.bool false)]) 48 rfl Tryz.underlying45 info96 rfl (by decide) (by omega) ao ad l0 _ _ _ (fun _=>True) (fun _=>False) rfl rfl ?aO ?aR (fun _ _ h=>h) (fun _ h=>h.elim) ?aF ?aB ?aS ?aL ?_;(case aR=>exact zc ap.out);(case aB=>exact zb);(case aF=>exact(fun _ _=>trivial));(case aO=>exact(zR ag.out));(case aS=>exact(qE zb));(case aL=>have:=am.out;omega);intro ar w5 ho hb hg hat;rw[←ah.out] at ho;replace HB:=zz (hb);have ai:=zz (ho);clear ag;clear ho hb hg hat))
 go_ret
 exact⟨_,ze,zR ai.out,zb⟩
def spec_l12Copy.f(ac:ByteArray)(ad:ByteArray)(aa:List ByteArray)(ae:ByteArray)(af:List (S96)):Option (ByteArray×ByteArray×List ByteArray×ByteArray×(List (S96))):=(some (([]:List ByteArray):List ByteArray)).bind fun ab=>(if ab.length+aa.length<8796093022208 then((spec_l10Copy.f af).bind fun ag=>(some (ac,ad,(ab++aa),ae,ag))) else(none))
theorem spec_l12Copy.calls(ag:ByteArray)(ah:ByteArray)(az:Option Addr)(aA:Nat)(ad:List ByteArray)(ai:ByteArray)(ao:Option Addr)(ap:Nat)(ac:List (S96))(r1:ByteArray)(r2:ByteArray)(r3:List ByteArray)(r4:ByteArray)(r5:List (S96))(w:World)(aH:Kd.C Kd.string w az ad.length ad)(aI:ad.length≤aA)(aJ:Kd.C k96 w ao ac.length ac)(aK:ac.length≤ap)(h:spec_l12Copy.f ag ah ad ai ac=some (r1,r2,r3,r4,r5)):
 Calls Tryz.prog 134 #[.agg #[.string ag,.string ah,.slice az ad.length aA,.string ai,.slice ao ac.length ap]] w fun e w'=>∃aV aW:Value,e= .returned (.agg #[.string r1,.string r2,aV,.string r4,aW])∧Kd.R Kd.string 9 w' w.heap.size (fun _=>True) aV r3∧Kd.R k96 96 w' w.heap.size (fun _=>True) aW r5∧Below w.heap.size w w':=by
 have bR:=Tryz.underlying94
 have aP:=zz aH
 have bM:=zz aI
 clear aH aI
 have aQ:=zz aJ
 have aT:=zz aK
 clear aJ aK
 have HB:=yB w
 unfold spec_l12Copy.f at h
 have H:=h
 clear h
 obtain⟨au,aj⟩:∃y_:List ByteArray,y_=(([]:List ByteArray)):=⟨_,rfl⟩
 replace H:(if au.length+ad.length<8796093022208 then((spec_l10Copy.f ac).bind fun ae=>(some (ag,ah,(au++ad),ai,ae))) else(none))=some (r1,r2,r3,r4,r5):=by first|(rw[aj];with_reducible exact H)|(have ar:=(Option.bind_some _ _).symm.trans H;rw[aj];with_reducible exact ar)|(have ar:=(Option.bind_some _ _).symm.trans H;with_reducible exact ar)|with_reducible exact H|(rw[aj];exact H)|exact H
 have aM:=zz aj
 clear aj
 replace H:=yA H
 obtain⟨c2,H⟩:=H
 have aZ:=zz c2
 clear c2
 obtain⟨av,ak⟩:∃y_:List ByteArray,y_=(au++ad):=⟨_,rfl⟩
 replace H:((spec_l10Copy.f ac).bind fun ae=>(some (ag,ah,av,ai,ae)))=some (r1,r2,r3,r4,r5):=by first|(rw[ak];with_reducible exact H)|(have ar:=(Option.bind_some _ _).symm.trans H;rw[ak];with_reducible exact ar)|(have ar:=(Option.bind_some _ _).symm.trans H;with_reducible exact ar)|with_reducible exact H|(rw[ak];exact H)|exact H
 have aU:=zz ak
 clear ak
 replace H:=zf H
 obtain⟨ae,aX,H⟩:=H
 try dsimp only at H
 have A3:=zz aX
 clear aX
 simp only[Option.some.injEq,Prod.mk.injEq] at H
 obtain⟨rfl,rfl,rfl,rfl,rfl⟩:=H
 go_enter Tryz.func134,Tryz.ntmps134
 go_wp2_with(first|(refine zX 1 94 #[.string ag,.string ah,.slice az ad.length aA,.string ai,.slice ao ac.length ap] ?_;intro af hg w4 hbox hb;have aa:=zz (hbox);have bN:=zz ((zg:w.heap.size≤af));have bO:=zz ((zg:w.heap.size≤af));replace HB:=zz (zv zb hb);clear hb hbox hg)|(refine zX 2 94 #[.string (⟨#[]⟩:ByteArray),.string (⟨#[]⟩:ByteArray),.slice none 0 0,.string (⟨#[]⟩:ByteArray),.slice none 0 0] ?_;intro al hg w5 hbox hb;have ab:=zz (hbox);have bP:=zz ((zg:w.heap.size≤al));have bQ:=zz ((zg:w.heap.size≤al));replace HB:=zz (zv zb hb);have aw:=zz (zH aa hg);have ax:=zz (zI aa hg);replace aa:=zz (zJ aa hb);clear hb hbox hg)|(refine zN 3 ?_;refine Kd.R_lit Kd.string _ 9 ?hg (N:=3) ?hd (xs:=([]:List ByteArray)) (inner:=[]) (ok:=fun _=>True) (okp:=fun _=>True) ?hr ?hp (fun _ hk=>hk) trivial (Below.refl _ _) (Nat.le_refl _) (by simp) ?_;(case hd=>rfl);(case hg=>rfl);(case hr=>first|(go_simp;done)|(go_simp;rfl));(case hp=>exact(Reps.none _ _));intro a0 w6 ay hb hg_ hnew_;clear hg_ hnew_;(first|rw[←aM.out] at ay|(simp only[Int.reduceToNat] at ay;rw[←aM.out] at ay));have am:=zz (Kd.vC ay (qE zb));replace aa:=zz (zJ aa hb);replace ab:=zz (zJ ab hb);replace HB:=zz (zv zb hb);clear hb ay;have bS:=aw.out;have bT:=ax.out;obtain⟨bC,bD,bE,bF,bG,bH,bI,bJ,bK,bL⟩:=zc5 aa.out)|((with_reducible refine qW (b:= .append) (xs:= #[.tmp 3,.tmp 5]) rfl ?_);at_builtin;refine Kd.R_append_rows Kd.string (w0:=w) w.heap.size rfl (.tmp 3) (.tmp 5) 39 9 (.string ⟨#[]⟩) 16 rfl Tryz.underlying39 info9 rfl (by decide) (by omega) a0 au ad _ _ _ (fun _=>True) (fun _=>False) rfl rfl ?aO ?aR (fun _ _ h=>h) (fun _ h=>h.elim) ?aF ?aB ?aS ?aL ?_;(case aR=>exact zc aP.out);(case aB=>exact zb);(case aF=>exact(fun _ _=>trivial));(case aO=>exact(zR am.out));(case aS=>exact(qE zb));(case aL=>have:=aZ.out;omega);intro bU bW ho hb hg hat;rw[←aU.out] at ho;replace aa:=zz (zK aa hg (Kd.R_ne am.out aa.out (by decide)));replace ab:=zz (zK ab hg (Kd.R_ne am.out ab.out (by decide)));replace HB:=zz (hb);have an:=zz (ho);clear am;clear ho hb hg hat;obtain⟨aC,aD,a1⟩:=Kd.qV an.out;subst a1;obtain⟨a3,a4,a5,a6,a7,a8,a9,ba,bb,bc⟩:=zc5 aa.out)|(refine zL 109 10 Tryz.func109 #[.slice ao ac.length ap] ?_;(with_reducible refine(spec_l10Copy.calls _ _ ac ae _ ?s1 ?s2 A3.out).mono ?_);(case s1=>exact Kd.qC aQ.out zb);(case s2=>exact aT.out);rintro e bX ⟨bV,rfl,aY,hb⟩;refine⟨_,rfl,?_⟩;replace an:=zz (Kd.R_below (by(with_reducible repeat(first|apply Kd.R_alloc|apply Kd.R_drewN|apply Kd.R_drew));exact(Kd.qT (Kd.R_far (p:=⟨af,2,none⟩) (Kd.qY an.out aa.out (by decide)) (fun _ hk=>hk.2) (.slice aC av.length aD)) (fun _ h_=>h_.1))) hb);have aN:=zz (Kd.vC aY (qE zb));replace aa:=zz (qM (g:=af) (o:= .cells #[.string ag,.string ah,.slice aC av.length aD,.string ai,.slice ao ac.length ap] 94 (0,0)) (yP aa.out) hb);replace ab:=zz (qM (g:=al) (o:= .cells #[.string (⟨#[]⟩:ByteArray),.string (⟨#[]⟩:ByteArray),.slice none 0 0,.string (⟨#[]⟩:ByteArray),.slice none 0 0] 94 (0,0)) (yP ab.out) hb);replace HB:=zz (zv zb hb);(try clear hb);(try clear bY);(try clear hk);(try clear hi);(try clear aY);obtain⟨aE,aG,a2⟩:=Kd.qV aN.out;subst a2;obtain⟨bd,be,bf,bg,bh,bi,bj,bk,bl,bn⟩:=zc5 aa.out;obtain⟨bo,bq,br,bs,bu,bv,bw,bz,bA,bB⟩:=zc5 ab.out))
 refine bodyPost_ret (results_cell_row rfl _ _ al 94 #[.string ag,.string ah,.slice aC av.length aD,.string ai,.slice aE ae.length aG] (0,0) _ rfl (yP ab.out) Tryz.underlying94 rfl zk) rfl ?_
 exact⟨_,_,ze,yV (Kd.R_far (p:=⟨af,4,none⟩) (Kd.qY (Kd.qY an.out aa.out (by decide)) ab.out (by decide)) (fun _ hk=>hk.1.2) (.slice aE ae.length aG)),yV (Kd.R_far (p:=⟨af,4,none⟩) (Kd.qY (Kd.qY aN.out aa.out (by decide)) ab.out (by decide)) (fun _ hk=>hk.1.2) (.slice aE ae.length aG)),zb⟩
def spec_l12Copies.l0:Nat→List (S94)→List (S94)→Int→Option ((List (S94)))
 |0,_,_,_=>none
 |k+1,x0,x3,x4=>if x4<(x0.length:Int) then(if 0≤x4 then((spec_l12Copy.f ((qG x0 x4).f0) ((qG x0 x4).f1) ((qG x0 x4).f2) ((qG x0 x4).f3) ((qG x0 x4).f4)).bind fun aa=>(if x3.length<1466015503701 then(spec_l12Copies.l0 k x0 (x3++[(⟨aa.1,aa.2.1,aa.2.2.1,aa.2.2.2.1,aa.2.2.2.2⟩:S94)]) (wrap64 (x4+1))) else(none))) else(none)) else(some x3)
def spec_l12Copies.f(k:Nat)(l0:List (S94)):Option ((List (S94))):=spec_l12Copies.l0 k l0 (([]:List (S94))) 0
theorem spec_l12Copies.calls(k:Nat)(A0:Option Addr)(c0:Nat)(l0:List (S94))(r:List (S94))(w:World)(a0:Kd.C k94 w A0 l0.length l0)(a1:l0.length≤c0)(h:spec_l12Copies.f k l0=some r):
 Calls Tryz.prog 107 #[.slice A0 l0.length c0] w fun e w'=>∃a2:Value,e= .returned (a2)∧Kd.S k94 94 w' w.heap.size (fun _=>True) a2 r∧Below w.heap.size w w':=by
 have bb:=Tryz.underlying94
 have a9:=zz a0
 have bk:=zz a1
 clear a0 a1
 have HB:=yB w
 unfold spec_l12Copies.f at h
 have H:=h
 clear h
 obtain⟨aH,ac⟩:∃y_:List (S94),y_=(([]:List (S94))):=⟨_,rfl⟩
 replace H:(spec_l12Copies.l0 k l0 aH 0)=some r:=by first|(rw[ac];with_reducible exact H)|(have ai:=(Option.bind_some _ _).symm.trans H;rw[ac];with_reducible exact ai)|(have ai:=(Option.bind_some _ _).symm.trans H;with_reducible exact ai)|with_reducible exact H|(rw[ac];exact H)|exact H
 have aA:=zz ac
 clear ac
 have H':=zz H
 clear H
 go_enter Tryz.func107,Tryz.ntmps107
 go_wp2_with(first|(refine zN 5 ?_;refine Kd.S_lit k94 _ 94 ?hg (N:=5) ?hd (xs:=([]:List (S94))) (inner:=[]) (ok:=fun _=>True) (okp:=fun _=>True) ?hr ?hp (fun _ hk=>hk) trivial (Below.refl _ _) (Nat.le_refl _) (by simp) ?_;(case hd=>rfl);(case hg=>rfl);(case hr=>first|(go_simp;done)|(go_simp;rfl));(case hp=>exact(Reps.none _ _));intro bc w2 az hb hg_ hnew_;clear hg_ hnew_;(first|rw[←aA.out] at az|(simp only[Int.reduceToNat] at az;rw[←aA.out] at az));have aX:=zz (Kd.S_lower az (qE zb));replace HB:=zz (zv zb hb);clear hb az))
 go_loopg[3,4] k (fun kq v3 v4 w'=>∃(aj:List (S94)) (aa:Int),v4= .int .i64 aa∧qA (spec_l12Copies.l0 kq l0 aj aa=some r)∧qA (kq≤k)∧qA (Kd.S k94 94 w' w.heap.size (fun _=>True) v3 aj)∧qA (Below w.heap.size w w'))
 case atStart=>exact⟨(aH),(0),zr,H',⟨Nat.le_refl _⟩,⟨zS aX.out⟩,⟨zb⟩⟩
 case round=>
  clear H'
  try clear c1
  try clear p2
  obtain⟨aj,aa,rfl,HA,a3,ab,HB⟩:=hrel
  cases gk with
  |zero=>exact absurd HA.out (by simp[spec_l12Copies.l0])
  |succ k1=>
   have H:=HA.out
   clear HA
   simp only[spec_l12Copies.l0] at H
   refine yDn H ?_ ?_<;>clear H<;>intro bd H
   ·obtain rfl:=zi H
    go_wp2
    go_ret
    exact⟨_,ze,zS ab.out,zb⟩
   replace H:=yAD H
   obtain⟨be,H⟩:=H
   replace H:=zf H
   obtain⟨⟨ak,al,ae,am,af⟩,a4,H⟩:=H
   try dsimp only at H
   have A6:=zz a4
   clear a4
   replace H:=yA H
   obtain⟨c7,H⟩:=H
   have a5:=zz c7
   clear c7
   obtain⟨aI,ad⟩:∃y_:List (S94),y_=(aj++[(⟨ak,al,ae,am,af⟩:S94)]):=⟨_,rfl⟩
   replace H:(spec_l12Copies.l0 k1 l0 aI (wrap64 (aa+1)))=some r:=by first|(rw[ad];with_reducible exact H)|(have ai:=(Option.bind_some _ _).symm.trans H;rw[ad];with_reducible exact ai)|(have ai:=(Option.bind_some _ _).symm.trans H;with_reducible exact ai)|with_reducible exact H|(rw[ad];exact H)|exact H
   have aY:=zz ad
   clear ad
   have H':=zz H
   clear H
   have bf:=yt (0≤(aa:Int))
   have bg:=yt (aa<(l0.length:Int))
   obtain⟨ba,aJ,aK,aM,aN,a6,an,ao,ap,ar,au,av,aw,ax,ay⟩:=at_T94 a9.out aa z2 z2
   cases a6
   replace an:=z3 HB.out an
   replace ao:=z3 HB.out ao
   replace ap:=z3 HB.out ap
   replace ar:=z3 HB.out ar
   replace au:=z3 HB.out au
   have aC:=zz aw
   have aD:=zz av
   clear aw av
   have aE:=zz ay
   have aG:=zz ax
   clear ay ax
   go_wp2_with(first|(refine zL 134 17 Tryz.func134 #[.agg #[.string ((qG l0 aa).f0),.string ((qG l0 aa).f1),.slice aJ ((qG l0 aa).f2).length aK,.string ((qG l0 aa).f3),.slice aM ((qG l0 aa).f4).length aN]] ?_;(with_reducible refine(spec_l12Copy.calls ((qG l0 aa).f0) ((qG l0 aa).f1) _ _ ((qG l0 aa).f2) ((qG l0 aa).f3) _ _ ((qG l0 aa).f4) ak al ae am af _ ?s1 ?s2 ?s3 ?s4 A6.out).mono ?_);(case s1=>exact zc aC.out);(case s2=>exact aD.out);(case s3=>exact zc aE.out);(case s4=>exact aG.out);rintro e w8 ⟨bh,bi,rfl,aQ,aR,hb⟩;refine⟨_,rfl,?_⟩;replace ab:=zz (Kd.qZ (Kd.S_told (Kd.S_told (Kd.S_old (zS ab.out) hb) (Kd.R_base aQ)) (Kd.R_base aR)) (fun _ h_=>h_.1));have ag:=zz (Kd.vC aQ (qE zb));have ah:=zz (Kd.vC aR (qE zb));replace HB:=zz (zv zb hb);(try clear hb);(try clear bl);(try clear hk);(try clear hi);(try clear aQ);(try clear aR);obtain⟨aT,aU,a7⟩:=Kd.qV ag.out;subst a7;obtain⟨aV,aW,a8⟩:=Kd.qV ah.out;subst a8)|((with_reducible refine qW (b:= .append) (xs:= #[.tmp 12,.tmp 18]) rfl ?_);at_builtin;refine Kd.S_append k94 (w0:=w) w.heap.size rfl (.tmp 12) (.tmp 18) 30 94 (.agg #[(.string ⟨#[]⟩),(.string ⟨#[]⟩),(.slice none 0 0),(.string ⟨#[]⟩),(.slice none 0 0)]) 96 rfl Tryz.underlying30 info94 rfl (by decide) (by omega) u3 aj (⟨ak,al,ae,am,af⟩:S94) [.string ak,.string al,.slice aT ae.length aU,.string am,.slice aV af.length aW] (fun _=>True) (fun k_=>some k_=(.slice aT ae.length aU:Value).ownBlock∨some k_=(.slice aV af.length aW:Value).ownBlock) rfl rfl ?aP (fun k_ hk_=>hk_.elim (fun h_=>((Kd.qT (ok':=fun k_=>((fun _=>True)) k_∧some k_≠(u3:Value).ownBlock) (Kd.R_apart' (ag.out) (Kd.S_typed ab.out) (by decide)) (fun k_ hk=>⟨trivial,hk.2⟩))).1 k_ h_.symm) (fun h_=>((Kd.qT (ok':=fun k_=>((fun _=>True)) k_∧some k_≠(u3:Value).ownBlock) (Kd.R_apart' (ah.out) (Kd.S_typed ab.out) (by decide)) (fun k_ hk=>⟨trivial,hk.2⟩))).1 k_ h_.symm)) ?aF ?aO ?aB ?aS ?aL ?_;(case aP=>exact k94_mkM _ _ _ (⟨ak,al,ae,am,af⟩:S94) (Kd.qT (Kd.R_tight rfl (Kd.qT (ok':=fun k_=>((fun _=>True)) k_∧some k_≠(u3:Value).ownBlock) (Kd.R_apart' (ag.out) (Kd.S_typed ab.out) (by decide)) (fun k_ hk=>⟨trivial,hk.2⟩))) (fun _ h_=>Or.inl h_)) (Kd.qT (Kd.R_tight rfl (Kd.qT (ok':=fun k_=>((fun _=>True)) k_∧some k_≠(u3:Value).ownBlock) (Kd.R_apart' (ah.out) (Kd.S_typed ab.out) (by decide)) (fun k_ hk=>⟨trivial,hk.2⟩))) (fun _ h_=>Or.inr (h_))));(case aB=>exact zb);(case aF=>exact(fun _ _=>trivial));(case aO=>exact(by(with_reducible repeat(first|apply Kd.vM|apply Kd.vN|apply Kd.S_drew));exact Kd.qZ ab.out (fun k_ hk=>⟨trivial,fun e_=>e_.elim (fun h_=>hk.1.2 h_) (fun h_=>hk.2 h_)⟩)));(case aS=>exact(qE zb));(case aL=>have:=a5.out;omega);intro bj w9 ho hb hg hat;rw[←aY.out] at ho;replace HB:=zz (hb);have aZ:=zz (ho);clear ab ag ah;clear ho hb hg hat))
   go_roundg k1
   case measure=>have:=a3.out;omega
   case rel=>exact⟨(aI),(wrap64 (aa+1)),zr,H',⟨by have:=a3.out;omega⟩,⟨zS aZ.out⟩,⟨zb⟩⟩
def spec_l13Copy.l0:Nat→List (S67)→List (S67)→Int→Option ((List (S67)))
 |0,_,_,_=>none
 |k+1,x0,x3,x4=>if x4<(x0.length:Int) then(if 0≤x4 then((some (([]:List (S70)):List (S70))).bind fun aa=>(if aa.length+((qD x0 x4).f2).length<5864062014805 then(if x3.length<2932031007402 then(spec_l13Copy.l0 k x0 (x3++[(⟨(qD x0 x4).f0,(qD x0 x4).f1,(aa++((qD x0 x4).f2))⟩:S67)]) (wrap64 (x4+1))) else(none)) else(none))) else(none)) else(some x3)
def spec_l13Copy.f(k:Nat)(l0:List (S67)):Option ((List (S67))):=spec_l13Copy.l0 k l0 (([]:List (S67))) 0
theorem spec_l13Copy.calls(k:Nat)(A0:Option Addr)(c0:Nat)(l0:List (S67))(r:List (S67))(w:World)(aT:Kd.C k67 w A0 l0.length l0)(aU:l0.length≤c0)(h:spec_l13Copy.f k l0=some r):
 Calls Tryz.prog 108 #[.slice A0 l0.length c0] w fun e w'=>∃aV:Value,e= .returned (aV)∧Kd.S k67 67 w' w.heap.size (fun _=>True) aV r∧Below w.heap.size w w':=by
 have bG:=Tryz.underlying67
 have br:=zz aT
 have bO:=zz aU
 clear aT aU
 have HB:=yB w
 unfold spec_l13Copy.f at h
 have H:=h
 clear h
 obtain⟨aI,ak⟩:∃y_:List (S67),y_=(([]:List (S67))):=⟨_,rfl⟩
 replace H:(spec_l13Copy.l0 k l0 aI 0)=some r:=by first|(rw[ak];with_reducible exact H)|(have af:=(Option.bind_some _ _).symm.trans H;rw[ak];with_reducible exact af)|(have af:=(Option.bind_some _ _).symm.trans H;with_reducible exact af)|with_reducible exact H|(rw[ak];exact H)|exact H
 have aD:=zz ak
 clear ak
 have H':=zz H
 clear H
 go_enter Tryz.func108,Tryz.ntmps108
 go_wp2_with(first|(refine zN 6 ?_;refine Kd.S_lit k67 _ 67 ?hg (N:=6) ?hd (xs:=([]:List (S67))) (inner:=[]) (ok:=fun _=>True) (okp:=fun _=>True) ?hr ?hp (fun _ hk=>hk) trivial (Below.refl _ _) (Nat.le_refl _) (by simp) ?_;(case hd=>rfl);(case hg=>rfl);(case hr=>first|(go_simp;done)|(go_simp;rfl));(case hp=>exact(Reps.none _ _));intro bH w2 az hb hg_ hnew_;clear hg_ hnew_;(first|rw[←aD.out] at az|(simp only[Int.reduceToNat] at az;rw[←aD.out] at az));have aK:=zz (Kd.S_lower az (qE zb));replace HB:=zz (zv zb hb);clear hb az))
 go_loopg[3,4] k (fun kq v3 v4 w'=>∃(ag:List (S67)) (aa:Int),v4= .int .i64 aa∧qA (spec_l13Copy.l0 kq l0 ag aa=some r)∧qA (kq≤k)∧qA (Kd.S k67 67 w' w.heap.size (fun _=>True) v3 ag)∧qA (Below w.heap.size w w'))
 case atStart=>exact⟨(aI),(0),zr,H',⟨Nat.le_refl _⟩,⟨zS aK.out⟩,⟨zb⟩⟩
 case round=>
  clear H'
  try clear c1
  try clear p2
  obtain⟨ag,aa,rfl,HA,aW,ad,HB⟩:=hrel
  cases gk with
  |zero=>exact absurd HA.out (by simp[spec_l13Copy.l0])
  |succ k1=>
   have H:=HA.out
   clear HA
   simp only[spec_l13Copy.l0] at H
   refine yDn H ?_ ?_<;>clear H<;>intro bI H
   ·obtain rfl:=zi H
    go_wp2
    go_ret
    exact⟨_,ze,zS ad.out,zb⟩
   replace H:=yAD H
   obtain⟨bJ,H⟩:=H
   obtain⟨ax,al⟩:∃y_:List (S70),y_=(([]:List (S70))):=⟨_,rfl⟩
   replace H:(if ax.length+((qD l0 aa).f2).length<5864062014805 then(if ag.length<2932031007402 then(spec_l13Copy.l0 k1 l0 (ag++[(⟨(qD l0 aa).f0,(qD l0 aa).f1,(ax++((qD l0 aa).f2))⟩:S67)]) (wrap64 (aa+1))) else(none)) else(none))=some r:=by first|(rw[al];with_reducible exact H)|(have af:=(Option.bind_some _ _).symm.trans H;rw[al];with_reducible exact af)|(have af:=(Option.bind_some _ _).symm.trans H;with_reducible exact af)|with_reducible exact H|(rw[al];exact H)|exact H
   have aE:=zz al
   clear al
   replace H:=yA H
   obtain⟨c6,H⟩:=H
   have a1:=zz c6
   clear c6
   obtain⟨ae,am⟩:∃y_:List (S70),y_=(ax++((qD l0 aa).f2)):=⟨_,rfl⟩
   replace H:(if ag.length<2932031007402 then(spec_l13Copy.l0 k1 l0 (ag++[(⟨(qD l0 aa).f0,(qD l0 aa).f1,ae⟩:S67)]) (wrap64 (aa+1))) else(none))=some r:=by first|(rw[am];with_reducible exact H)|(have af:=(Option.bind_some _ _).symm.trans H;rw[am];with_reducible exact af)|(have af:=(Option.bind_some _ _).symm.trans H;with_reducible exact af)|with_reducible exact H|(rw[am];exact H)|exact H
   have aM:=zz am
   clear am
   replace H:=yA H
   obtain⟨c7,H⟩:=H
   have a2:=zz c7
   clear c7
   obtain⟨aJ,an⟩:∃y_:List (S67),y_=(ag++[(⟨(qD l0 aa).f0,(qD l0 aa).f1,ae⟩:S67)]):=⟨_,rfl⟩
   replace H:(spec_l13Copy.l0 k1 l0 aJ (wrap64 (aa+1)))=some r:=by first|(rw[an];with_reducible exact H)|(have af:=(Option.bind_some _ _).symm.trans H;rw[an];with_reducible exact af)|(have af:=(Option.bind_some _ _).symm.trans H;with_reducible exact af)|with_reducible exact H|(rw[an];exact H)|exact H
   have aN:=zz an
   clear an
   have H':=zz H
   clear H
   have bK:=yt (0≤(aa:Int))
   have bL:=yt (aa<(l0.length:Int))
   obtain⟨bD,aA,aC,a3,ap,ar,au,av,aw⟩:=at_T67 br.out aa z2 z2
   cases a3
   replace ap:=z3 HB.out ap
   replace ar:=z3 HB.out ar
   replace au:=z3 HB.out au
   have aH:=zz aw
   have a6:=zz av
   clear aw av
   go_wp2_with(first|(refine zX 5 67 #[.string (⟨#[]⟩:ByteArray),.int .i64 0,.slice none 0 0] ?_;intro ab hg w8 hbox hb;replace ad:=zz (Kd.vE (Kd.S_elderB (zS ad.out) ab (Nat.le_of_eq hg.symm)) hb);have ac:=zz (hbox);have bE:=zz ((zg:w.heap.size≤ab));have bF:=zz ((zg:w.heap.size≤ab));replace HB:=zz (zv zb hb);clear hb hbox hg;obtain⟨bs,bu,bv,bw,bz,bA⟩:=zc3 ac.out)|(refine zN 17 ?_;refine Kd.R_lit k70 _ 70 ?hg (N:=17) ?hd (xs:=([]:List (S70))) (inner:=[]) (ok:=fun _=>True) (okp:=fun _=>True) ?hr ?hp (fun _ hk=>hk) trivial (Below.refl _ _) (Nat.le_refl _) (by simp) ?_;(case hd=>rfl);(case hg=>rfl);(case hr=>first|(go_simp;done)|(go_simp;rfl));(case hp=>exact(Reps.none _ _));intro a4 bP ao hb hg_ hnew_;clear hg_ hnew_;(first|rw[←aE.out] at ao|(simp only[Int.reduceToNat] at ao;rw[←aE.out] at ao));replace ad:=zz (Kd.S_elder' (by(with_reducible repeat(first|apply Kd.vM|apply Kd.vN|apply Kd.S_drew));exact(Kd.qZ (Kd.vK (p:=⟨ab,2,none⟩) (Kd.vK (p:=⟨ab,1,none⟩) (Kd.vK (p:=⟨ab,0,none⟩) (Kd.qZ ad.out (fun k_ hk=>(⟨hk,hk.2⟩:_∧k_≠ab))) (fun _ hk=>hk.2) (.string ((qD l0 aa).f0))) (fun _ hk=>hk.2) (.int .i64 ((qD l0 aa).f1))) (fun _ hk=>hk.2) (.slice aA ((qD l0 aa).f2).length aC)) (fun _ h_=>h_.1))) (Kd.R_base ao) hb);have ay:=zz (Kd.vC ao (qE zb));replace ac:=zz (qM (g:=ab) (o:= .cells #[.string ((qD l0 aa).f0),.int .i64 ((qD l0 aa).f1),.slice aA ((qD l0 aa).f2).length aC] 67 (0,0)) (yP ac.out) hb);replace HB:=zz (zv zb hb);clear hb ao;obtain⟨a7,a8,a9,ba,bb,bc⟩:=zc3 ac.out)|((with_reducible refine qW (b:= .append) (xs:= #[.tmp 17,.tmp 19]) rfl ?_);at_builtin;refine Kd.R_append_rows k70 (w0:=w) w.heap.size rfl (.tmp 17) (.tmp 19) 65 70 (.agg #[(.int .i64 0),(.string ⟨#[]⟩)]) 24 rfl Tryz.underlying65 info70 rfl (by decide) (by omega) a4 ax ((qD l0 aa).f2) _ _ _ (fun _=>True) (fun _=>False) rfl rfl ?aO ?aR (fun _ _ h=>h) (fun _ h=>h.elim) ?aF ?aB ?aS ?aL ?_;(case aR=>exact zc aH.out);(case aB=>exact zb);(case aF=>exact(fun _ _=>trivial));(case aO=>exact(zR ay.out));(case aS=>exact(qE zb));(case aL=>have:=a1.out;omega);intro bM bB ho hb hg hat;rw[←aM.out] at ho;replace ad:=zz (Kd.S_after (ok:=(fun k_=>k_≠ab)) (by(with_reducible repeat(first|apply Kd.vM|apply Kd.vN|apply Kd.S_drew));exact Kd.qZ ad.out (fun _ hk=>⟨hk.1.2,hk.2⟩)) hg hat);replace ac:=zz (zK ac hg (Kd.R_ne ay.out ac.out (by decide)));replace HB:=zz (hb);have ah:=zz (ho);clear ay;clear ho hb hg hat;obtain⟨ai,aj,a5⟩:=Kd.qV ah.out;subst a5;obtain⟨bd,be,bf,bg,bh,bi⟩:=zc3 ac.out)|((with_reducible refine qP (t:=65) (p:=21) rfl ?_);refine qL (t:=65) (p:=21) (v:=?bC) (w1:=(bB.setCell ⟨ab,2,none⟩ (.slice ai ae.length aj))) ?hg ?ho ?hn ?hr ?_;(case ho=>rfl);(case hg=>rfl);(case hn=>rfl);(case hr=>first|(go_simp;done)|(go_simp;rfl));intro aG hw;have aX:qA (Kd.S k67 67 aG w.heap.size (fun k_=>some k_≠(.slice ai ae.length aj:Value).ownBlock∧k_≠ab) u3 ag):=⟨(by rw[hw];exact(by(with_reducible repeat(first|apply Kd.vM|apply Kd.vN|apply Kd.S_drew));exact Kd.qZ (Kd.vK (p:=⟨ab,2,none⟩) (Kd.qZ ad.out (fun k_ hk=>(⟨hk,hk.1⟩:_∧k_≠ab))) (fun _ hk=>hk.2) (.slice ai ae.length aj)) (fun _ hk=>⟨hk.1.2,hk.1.1⟩)))⟩;have aY:qA (Kd.R k70 70 aG w.heap.size (fun _=>True) (.slice ai ae.length aj) ae):=⟨(by rw[hw];exact(yV (Kd.qY ah.out ac.out (by decide))))⟩;have aZ:qA (aG.heap[ab]?=some (.cells #[.string ((qD l0 aa).f0),.int .i64 ((qD l0 aa).f1),.slice ai ae.length aj] 67 (0,0))):=⟨(by rw[hw];exact(yP ac.out))⟩;have a0:qA (Below w.heap.size w aG):=⟨(by rw[hw];exact zb)⟩;clear hw;clear ad;clear ah;clear ac;clear HB;have ad:=aX;have ah:=aY;have ac:=aZ;have HB:=a0;clear aX aY aZ a0;obtain⟨bj,bk,bl,bn,bo,bq⟩:=zc3 ac.out)|((with_reducible refine qW (b:= .append) (xs:= #[.tmp 22,.tmp 24]) rfl ?_);at_builtin;refine Kd.S_append k67 (w0:=w) w.heap.size rfl (.tmp 22) (.tmp 24) 31 67 (.agg #[(.string ⟨#[]⟩),(.int .i64 0),(.slice none 0 0)]) 48 rfl Tryz.underlying31 info67 rfl (by decide) (by omega) u3 ag (⟨(qD l0 aa).f0,(qD l0 aa).f1,ae⟩:S67) [.string ((qD l0 aa).f0),.int .i64 ((qD l0 aa).f1),.slice ai ae.length aj] (fun k_=>k_≠ab) (fun k_=>some k_=(.slice ai ae.length aj:Value).ownBlock) rfl rfl ?aP (fun k_ hk_=>((Kd.qT (ok':=fun k_=>((fun k_=>k_≠ab)) k_∧some k_≠(u3:Value).ownBlock) (Kd.qY (Kd.R_apart' (ah.out) (Kd.S_typed ad.out) (by decide)) ac.out (by decide)) (fun k_ hk=>⟨hk.2,hk.1.2⟩))).1 k_ hk_.symm) ?aF ?aO ?aB ?aS ?aL ?_;(case aP=>exact k67_mkM _ _ _ (⟨(qD l0 aa).f0,(qD l0 aa).f1,ae⟩:S67) (Kd.qT (Kd.R_tight rfl (Kd.qT (ok':=fun k_=>((fun k_=>k_≠ab)) k_∧some k_≠(u3:Value).ownBlock) (Kd.qY (Kd.R_apart' (ah.out) (Kd.S_typed ad.out) (by decide)) ac.out (by decide)) (fun k_ hk=>⟨hk.2,hk.1.2⟩))) (fun _ h_=>h_)));(case aB=>exact zb);(case aF=>exact(fun k_ hk=>Kd.freshB (g:=ab) (o:= .cells #[.string ((qD l0 aa).f0),.int .i64 ((qD l0 aa).f1),.slice ai ae.length aj] 67 (0,0)) (zB ac.out) k_ hk));(case aO=>exact(by(with_reducible repeat(first|apply Kd.vM|apply Kd.vN|apply Kd.S_drew));exact Kd.qZ ad.out (fun k_ hk=>⟨hk.2,fun e_=>hk.1 e_⟩)));(case aS=>exact(qE zb));(case aL=>have:=a2.out;omega);intro bN bQ ho hb hg hat;rw[←aN.out] at ho;replace ac:=zz (zK ac hg (Kd.S_away ad.out (fun _ hk=>hk.2)));replace HB:=zz (hb);have aQ:=zz (ho);clear ad ah;clear ho hb hg hat))
   go_roundg k1
   case measure=>have:=aW.out;omega
   case rel=>exact⟨(aJ),(wrap64 (aa+1)),zr,H',⟨by have:=aW.out;omega⟩,⟨by(with_reducible repeat(first|apply Kd.vM|apply Kd.vN|apply Kd.S_drew));exact Kd.qZ aQ.out (fun _ hk=>trivial)⟩,⟨zb⟩⟩
def spec_l19Copy.l0:Nat→Int→List (S94)→List (S67)→List (S61)→List (S64)→List (S94)→List (S67)→List (S61)→List (S64)→Option ((List (S94))×(List (S67))×(List (S61))×(List (S64)))
 |0,_,_,_,_,_,_,_,_,_=>none
 |k+1,x4,af,ag,aa,ah,ac,ad,ab,ae=>if x4<(aa.length:Int) then(if 0≤x4 then((spec_l10Copy.f ((qR aa x4).f1)).bind fun ai=>(if ab.length<2513169434916 then(spec_l19Copy.l0 k (wrap64 (x4+1)) af ag aa ah ac ad (ab++[(⟨(qR aa x4).f0,ai,(qR aa x4).f2⟩:S61)]) ae) else(none))) else(none)) else(some (ac,ad,ab,ae))
def spec_l19Copy.f(k:Nat)(ab:List (S94))(ac:List (S67))(ae:List (S61))(aa:List (S64)):Option ((List (S94))×(List (S67))×(List (S61))×(List (S64))):=(spec_l12Copies.f k ab).bind fun af=>((spec_l13Copy.f k ac).bind fun ag=>((some (([]:List (S64)):List (S64))).bind fun ad=>(if ad.length+aa.length<4398046511104 then(spec_l19Copy.l0 k 0 ab ac ae aa af ag ([]:List (S61)) (ad++aa)) else(none))))
def spec_l19Copy.T1:Bool×List (List Nat×List Nat):=(true,[([],[]),([0],[0]),([1],[1]),([],[]),([3],[3]),([4,2],[4]),([],[]),([],[]),([7],[7]),([6,8,5],[6,8]),([2,5,9],[2,5,9]),([],[]),([11,10,9,0,1,2,3,4,5,6,7,8,9,10,11],[10,11])])
def spec_l19Copy.B1:List Nat:=[0,1,3,0,8,31,0,0,128,511,1023,0,4095]
theorem spec_l19Copy.tab1:rtab .any (opsOf Tryz.f68 1)=spec_l19Copy.T1:=by kernel_rfl
theorem spec_l19Copy.bits1:waitsOk spec_l19Copy.T1.2 spec_l19Copy.B1=true:=by kernel_rfl
theorem spec_l19Copy.calls(k:Nat)(aG:Option Addr)(aH:Nat)(ap:List (S94))(aI:Option Addr)(aJ:Nat)(ar:List (S67))(aT:Option Addr)(aK:Nat)(ab:List (S61))(aM:Option Addr)(aN:Nat)(ao:List (S64))(r1:List (S94))(r2:List (S67))(r3:List (S61))(r4:List (S64))(w:World)(bK:Kd.C k94 w aG ap.length ap)(bL:ap.length≤aH)(bM:Kd.C k67 w aI ar.length ar)(bN:ar.length≤aJ)(bO:Kd.C k61 w aT ab.length ab)(bP:ab.length≤aK)(bQ:Kd.C k64 w aM ao.length ao)(bR:ao.length≤aN)(h:spec_l19Copy.f k ap ar ab ao=some (r1,r2,r3,r4)):
 Calls Tryz.prog 68 #[.agg #[.slice aG ap.length aH,.slice aI ar.length aJ,.slice aT ab.length aK,.slice aM ao.length aN]] w fun e w'=>∃cq cr ct cu:Value,e= .returned (.agg #[cq,cr,ct,cu])∧Kd.S k94 94 w' w.heap.size (fun _=>True) cq r1∧Kd.S k67 67 w' w.heap.size (fun _=>True) cr r2∧Kd.S k61 61 w' w.heap.size (fun _=>True) ct r3∧Kd.R k64 64 w' w.heap.size (fun _=>True) cu r4∧Below w.heap.size w w':=by
 have fb:=Tryz.underlying35
 have fc:=Tryz.underlying61
 have cg:=zz bK
 have ch:=zz bL
 clear bK bL
 have ci:=zz bM
 have cj:=zz bN
 clear bM bN
 have ck:=zz bO
 have eA:=zz bP
 clear bO bP
 have cm:=zz bQ
 have eB:=zz bR
 clear bQ bR
 have HB:=yB w
 unfold spec_l19Copy.f at h
 have H:=h
 clear h
 replace H:=zf H
 obtain⟨au,cv,H⟩:=H
 try dsimp only at H
 have A2:=zz cv
 clear cv
 replace H:=zf H
 obtain⟨av,cw,H⟩:=H
 try dsimp only at H
 have A3:=zz cw
 clear cw
 obtain⟨be,a1⟩:∃y_:List (S64),y_=(([]:List (S64))):=⟨_,rfl⟩
 replace H:(if be.length+ao.length<4398046511104 then(spec_l19Copy.l0 k 0 ap ar ab ao au av ([]:List (S61)) (be++ao)) else(none))=some (r1,r2,r3,r4):=by first|(rw[a1];with_reducible exact H)|(have aZ:=(Option.bind_some _ _).symm.trans H;rw[a1];with_reducible exact aZ)|(have aZ:=(Option.bind_some _ _).symm.trans H;with_reducible exact aZ)|with_reducible exact H|(rw[a1];exact H)|exact H
 have bS:=zz a1
 clear a1
 replace H:=yA H
 obtain⟨c4,H⟩:=H
 have cJ:=zz c4
 clear c4
 obtain⟨az,a2⟩:∃y_:List (S64),y_=(be++ao):=⟨_,rfl⟩
 replace H:(spec_l19Copy.l0 k 0 ap ar ab ao au av ([]:List (S61)) az)=some (r1,r2,r3,r4):=by first|(rw[a2];with_reducible exact H)|(have aZ:=(Option.bind_some _ _).symm.trans H;rw[a2];with_reducible exact aZ)|(have aZ:=(Option.bind_some _ _).symm.trans H;with_reducible exact aZ)|with_reducible exact H|(rw[a2];exact H)|exact H
 have cn:=zz a2
 clear a2
 have H':=zz H
 clear H
 go_enter Tryz.func68,Tryz.ntmps68
 try go_wp2_with(first|(refine zX 1 35 #[.slice aG ap.length aH,.slice aI ar.length aJ,.slice aT ab.length aK,.slice aM ao.length aN] ?_;intro aj hg w5 hbox hb;have ag:=zz (hbox);have eC:=zz ((zg:w.heap.size≤aj));have eD:=zz ((zg:w.heap.size≤aj));replace HB:=zz (zv zb hb);clear hb hbox hg)|(refine zX 2 35 #[.slice none 0 0,.slice none 0 0,.slice none 0 0,.slice none 0 0] ?_;intro ax hg w6 hbox hb;have ah:=zz (hbox);have eE:=zz ((zg:w.heap.size≤ax));have eF:=zz ((zg:w.heap.size≤ax));replace HB:=zz (zv zb hb);have ba:=zz (zH ag hg);have bb:=zz (zI ag hg);replace ag:=zz (zJ ag hb);clear hb hbox hg))
 replace ag:=zz (blk_drew ag.out)
 replace ah:=zz (blk_drew ah.out)
 replace HB:=zz (qJ HB.out)
 refine start_ (n:=13) (S:=fun w'=>w'.cell? ⟨aj,0,none⟩=some (.slice aG ap.length aH)∧w'.cell? ⟨aj,1,none⟩=some (.slice aI ar.length aJ)∧w'.cell? ⟨aj,2,none⟩=some (.slice aT ab.length aK)∧w'.cell? ⟨aj,3,none⟩=some (.slice aM ao.length aN)) (ds:=[]) (bp 0 13) zk rfl rfl (zy4 ag.out) (fun hHeld=>?_);refine with_tabW spec_l19Copy.tab1 spec_l19Copy.bits1 (fun HT_ HW_=>?_)
 generalize w6.drew=w7 at ag ah HB hHeld⊢
 refine zp 0 6 (bp 1 12) ?_
 refine zp 3 9 (bm 13 9) ?_
 refine zp 7 13 (bm 13 137) ?_
 refine zt 1 7 (bm 13 139) ?_
 refine zt 4 10 (bm 13 155) ?_
 refine zt 8 14 (bm 13 411) ?_
 refine join_ (σ:=Value×Value×Value×Value×Nat) 1 #[true,true,true,true,true,true,true,true,true,true,true,true,false] (fun s_=>[(8,s_.1),(11,s_.2.1),(12,s_.2.2.1),(15,s_.2.2.2.1),(3,.pointer (some ⟨s_.2.2.2.2,0,none⟩)),(16,.agg #[s_.1,s_.2.1,.slice none 0 0,s_.2.2.2.1])]) (fun s_ w'=>(w'.cell? ⟨aj,0,none⟩=some (.slice aG ap.length aH)∧w'.cell? ⟨aj,1,none⟩=some (.slice aI ar.length aJ)∧w'.cell? ⟨aj,2,none⟩=some (.slice aT ab.length aK)∧w'.cell? ⟨aj,3,none⟩=some (.slice aM ao.length aN))∧(Kd.S k94 94 w' w.heap.size (fun _=>True) s_.1 au)∧(Kd.S k67 67 w' w.heap.size (fun _=>True) s_.2.1 av)∧(Kd.R k64 64 w' w.heap.size (fun _=>True) s_.2.2.2.1 az)∧(w'.heap[aj]?=some (.cells #[.slice aG ap.length aH,.slice aI ar.length aJ,.slice aT ab.length aK,.slice aM ao.length aN] 35 (0,0)))∧(w'.heap[ax]?=some (.cells #[.slice none 0 0,.slice none 0 0,.slice none 0 0,.slice none 0 0] 35 (0,0)))∧(w'.heap[s_.2.2.2.2]?=some (.cells #[.slice none 0 0,.slice none 0 0,.slice none 0 0,.slice none 0 0] 35 (0,0)))∧(w.heap.size≤s_.2.2.2.2)∧(w.heap.size≤s_.2.2.2.2)∧(aj≠s_.2.2.2.2)∧(s_.2.2.2.2≠aj)∧(ax≠s_.2.2.2.2)∧(s_.2.2.2.2≠ax)∧(Below w.heap.size w w')) ?_ ?_
 rotate_left
 ·intro bf
  refine E5.walk (F:=Cw w aj ax #[.slice aG ap.length aH,.slice aI ar.length aJ,.slice aT ab.length aK,.slice aM ao.length aN] au av be az) HT_.out rfl rfl rfl rfl rfl rfl rfl ?q2 ?q5 ?q6 ?q9 ?et ?eu ?qe ⟨HB.out,ag.out,ah.out,nofun,nofun,(fun h=>nomatch h),nofun,nofun,nofun⟩
  case q2=>
   intro s W ok c F K hK
   refine E5.at_ 8 ?_
   refine zh Tryz.func107 #[.slice aG ap.length aH] ?_
   with_reducible refine(spec_l12Copies.calls k _ _ ap au _ (Kd.qC cg.out F.hB) ch.out A2.out).mono ?_
   rintro e W' ⟨v,rfl,ho,hb⟩
   have F':=F.t2 ok c hb ho
   exact⟨_,rfl,E5.pk (hK v W' (zy4 F'.x1) F')⟩
  case q5=>
   intro s W ok c F K hK
   refine E5.at_ 11 ?_
   refine zh Tryz.func108 #[.slice aI ar.length aJ] ?_
   with_reducible refine(spec_l13Copy.calls k _ _ ar av _ (Kd.qC ci.out F.hB) cj.out A3.out).mono ?_
   rintro e W' ⟨v,rfl,ho,hb⟩
   have F':=F.t5 ok c hb ho
   exact⟨_,rfl,E5.pk (hK v W' (zy4 F'.x1) F')⟩
  case q6=>
   intro s W ok c F K hK
   refine E5.at_ 12 ?_
   refine Kd.R_lit_step k64 _ 64 ?hg (N:=12) ?hd (xs:=([]:List (S64))) (inner:=[]) (ok:=fun _=>True) (okp:=fun _=>True) ?hr ?hp (fun _ hk=>hk) trivial (Below.refl _ _) (Nat.le_refl _) (by simp) ?_;(case hd=>rfl);(case hg=>rfl);(case hr=>first|(go_simp;done)|(go_simp;rfl));(case hp=>exact(Reps.none _ _))
   intro v W' ho hb _ _
   (first|rw[←bS.out] at ho|(simp only[Int.reduceToNat] at ho;rw[←bS.out] at ho))
   have F':=F.t6 hb ho
   exact E5.pn 12 (hK v W' (zy4 F'.x1) F')
  case q9=>
   intro s W ok c9 c6 F K hK
   obtain⟨b2,b5,b6,b9,b10,b11,v2,v5,v6,v9,v10,gb⟩:=s
   dsimp only at*
   subst c6
   refine E5.at_ 15 ?_
   refine Kd.R_append_rows_step k64 (w0:=w) w.heap.size (by rfl) (.tmp 12) (.tmp 14) 33 64 (.agg #[(.string ⟨#[]⟩),(.string ⟨#[]⟩)]) 32 rfl Tryz.underlying33 info64 rfl (by decide) (by omega) v6 be ao _ _ _ (fun _=>True) (fun _=>False) rfl rfl ?aO ?aR (fun _ _ h=>h) (fun _ h=>h.elim) ?aF ?aB ?aS ?aL ?_
   (case aR=>exact Kd.qC cm.out F.hB)
   (case aB=>exact F.hB)
   (case aF=>exact(fun _ _=>trivial))
   (case aO=>exact F.h6 rfl c9)
   (case aS=>exact qE F.hB)
   (case aL=>have:=cJ.out;omega)
   intro v W' ho hb hg hat
   rw[←cn.out] at ho
   have F':=F.t9 ok c9 rfl ho hb hg
   exact E5.pn 15 (hK v W' (zy4 F'.x1) F')
  case et=>
   intro s W ok bT c2 c5 c9 F K hK
   obtain⟨b2,b5,b6,b9,b10,b11,v2,v5,v6,v9,v10,gb⟩:=s
   dsimp only at*
   subst c2 c5 c9 bT
   obtain⟨P2,p2,e2⟩:=Kd.S_slice (F.h2 rfl)
   obtain⟨P5,p5,e5⟩:=Kd.S_slice (F.h5 rfl)
   obtain⟨P9,p9,e9⟩:=Kd.qV (F.h9 rfl)
   dsimp only at e2 e5 e9
   subst e2 e5 e9
   refine E5.at_ 16 ?_
   refine value_ (v:= .agg #[.slice P2 au.length p2,.slice P5 av.length p5,.slice none 0 0,.slice P9 az.length p9]) (w1:=W) rfl rfl (by first|(go_simp;done)|(go_simp;rfl)) ?_
   have F':=F.t10
   exact E5.pk (hK _ _ (zy4 F'.x1) F')
  case eu=>
   intro s W ok c F K hK
   refine E5.at_ 3 ?_
   refine box_step ?hg (N:=3) ?hd (cs:= #[.slice none 0 0,.slice none 0 0,.slice none 0 0,.slice none 0 0]) (t:=35) ?hr ?_;(case hd=>rfl);(case hg=>rfl);(case hr=>first|(go_simp;done)|(go_simp;rfl))
   intro g hg W' hbox hb
   have F':=F.t11 hg hb hbox
   exact E5.pn 3 (hK g W' (zy4 F'.x1) F')
  case qe=>
   intro s W ok c2 c5 c6 c9 bT ev F
   obtain⟨b2,b5,b6,b9,b10,b11,v2,v5,v6,v9,v10,gb⟩:=s
   dsimp only at*
   subst c2 c5 c6 c9 bT ev
   obtain rfl:v10= .agg #[v2,v5,.slice none 0 0,v9]:=F.h10 rfl
   obtain⟨x3,g3,n1,n2⟩:=F.h11 rfl
   exact norm_ (by simp only[E5.act,putAll,Act.put,List.setIfInBounds_toArray,List.set_cons_zero,List.set_cons_succ,cond_true]) (bf (v2,v5,v6,v9,gb) W ⟨zy4 F.x1,F.h2 rfl,F.h5 rfl,F.h9 rfl,F.x1,F.x2,x3,g3,g3,n1,n1.symm,n2,n2.symm,F.hB⟩)
 rintro⟨cK,cL,fe,cM,ae⟩ aQ ⟨hS_,cx,cy,cz,cA,cB,cC,cD,cE,cF,cG,b3,b4,b7⟩
 have bl:qA (Kd.S k94 94 aQ w.heap.size (fun _=>True) cK au):=⟨cx⟩
 have bn:qA (Kd.S k67 67 aQ w.heap.size (fun _=>True) cL av):=⟨cy⟩
 have bo:qA (Kd.R k64 64 aQ w.heap.size (fun _=>True) cM az):=⟨cz⟩
 have bq:qA (aQ.heap[aj]?=some (.cells #[.slice aG ap.length aH,.slice aI ar.length aJ,.slice aT ab.length aK,.slice aM ao.length aN] 35 (0,0))):=⟨cA⟩
 have br:qA (aQ.heap[ax]?=some (.cells #[.slice none 0 0,.slice none 0 0,.slice none 0 0,.slice none 0 0] 35 (0,0))):=⟨cB⟩
 have bs:qA (aQ.heap[ae]?=some (.cells #[.slice none 0 0,.slice none 0 0,.slice none 0 0,.slice none 0 0] 35 (0,0))):=⟨cC⟩
 have bu:qA (w.heap.size≤ae):=⟨cD⟩
 have bv:qA (w.heap.size≤ae):=⟨cE⟩
 have bw:qA (aj≠ae):=⟨cF⟩
 have bz:qA (ae≠aj):=⟨cG⟩
 have b8:qA (ax≠ae):=⟨b3⟩
 have ca:qA (ae≠ax):=⟨b4⟩
 have cb:qA (Below w.heap.size w aQ):=⟨b7⟩
 clear ag
 clear ah
 clear HB
 clear cx cy cz cA cB cC cD cE cF cG b3 b4 b7
 have bU:=bl
 have bV:=bn
 have bW:=bo
 have ag:=bq
 have ah:=br
 have ad:=bs
 have eG:=bu
 have eH:=bv
 have aa:=bw
 have aC:=bz
 have aD:=b8
 have aE:=ca
 have HB:=cb
 clear bl bn bo bq br bs bu bv bw bz b8 ca cb
 have hHeld:aQ.cell? ⟨aj,0,none⟩=some (.slice aG ap.length aH)∧aQ.cell? ⟨aj,1,none⟩=some (.slice aI ar.length aJ)∧aQ.cell? ⟨aj,2,none⟩=some (.slice aT ab.length aK)∧aQ.cell? ⟨aj,3,none⟩=some (.slice aM ao.length aN):=hS_
 obtain⟨a4,a5,cc⟩:=Kd.qV bW.out
 (first|subst cc|(injection cc with bc bA bd;have bB:=bc.symm;have bC:=bd.symm;clear bc bA bd;subst bB;subst bC))
 obtain⟨a6,a7,cd⟩:=Kd.S_slice bV.out
 (first|subst cd|(injection cd with bc bA bd;have bB:=bc.symm;have bC:=bd.symm;clear bc bA bd;subst bB;subst bC))
 obtain⟨a8,a9,ce⟩:=Kd.S_slice bU.out
 (first|subst ce|(injection ce with bc bA bd;have bB:=bc.symm;have bC:=bd.symm;clear bc bA bd;subst bB;subst bC))
 refine norm_ (a':=?_) ?_ ?_
 rotate_left
 ·simp only[putAll,Act.put,List.setIfInBounds_toArray,List.set_cons_zero,List.set_cons_succ]
  rfl
 refine one_ (i:=12) (N:=none) #[true,true,true,true,true,true,true,true,true,true,true,true,true] rfl rfl (one_of HT_.out zk) (by decide) (fun K hK=>?_)
 have ff:aQ.cell? ⟨ae,0,none⟩=some (.slice none 0 0):=(vG ad.out 0).trans rfl
 have eI:=vQ ad.out 0
 have cV:=aa.out
 have cW:=aD.out
 have cX:=aC.out
 have cY:=aE.out
 have fg:aQ.cell? ⟨ae,1,none⟩=some (.slice none 0 0):=(vG ad.out 1).trans rfl
 have eJ:=vQ ad.out 1
 have cZ:=aa.out
 have c7:=aD.out
 have c8:=aC.out
 have da:=aE.out
 have fh:aQ.cell? ⟨ae,2,none⟩=some (.slice none 0 0):=(vG ad.out 2).trans rfl
 have eK:=vQ ad.out 2
 have db:=aa.out
 have dc:=aD.out
 have de:=aC.out
 have df:=aE.out
 have fi:aQ.cell? ⟨ae,3,none⟩=some (.slice none 0 0):=(vG ad.out 3).trans rfl
 have eL:=vQ ad.out 3
 have dh:=aa.out
 have di:=aD.out
 have dj:=aC.out
 have dk:=aE.out
 refine skip_ (w1:=?_) (by rfl) rfl ?_ ?_
 rotate_left
 ·go_simp
  rfl
 refine hK.out _ _ ⟨((cell_far (p:=⟨ae,_,none⟩) aa.out _).trans (((cell_far (p:=⟨ae,_,none⟩) aa.out _).trans (((cell_far (p:=⟨ae,_,none⟩) aa.out _).trans (((cell_far (p:=⟨ae,_,none⟩) aa.out _).trans (hHeld.1)))))))),((cell_far (p:=⟨ae,_,none⟩) aa.out _).trans (((cell_far (p:=⟨ae,_,none⟩) aa.out _).trans (((cell_far (p:=⟨ae,_,none⟩) aa.out _).trans (((cell_far (p:=⟨ae,_,none⟩) aa.out _).trans (hHeld.2.1)))))))),((cell_far (p:=⟨ae,_,none⟩) aa.out _).trans (((cell_far (p:=⟨ae,_,none⟩) aa.out _).trans (((cell_far (p:=⟨ae,_,none⟩) aa.out _).trans (((cell_far (p:=⟨ae,_,none⟩) aa.out _).trans (hHeld.2.2.1)))))))),((cell_far (p:=⟨ae,_,none⟩) aa.out _).trans (((cell_far (p:=⟨ae,_,none⟩) aa.out _).trans (((cell_far (p:=⟨ae,_,none⟩) aa.out _).trans (((cell_far (p:=⟨ae,_,none⟩) aa.out _).trans (hHeld.2.2.2))))))))⟩ (fun hHeld=>?_)
 clear hK K
 refine done_ (done_of HT_.out zk) ?_
 try go_wp2
 go_loopg[4] k (fun kq v4 w'=>∃(af:Int) (aw:List (S61)) (ay:Value),v4= .int .i64 af∧qA (spec_l19Copy.l0 kq af ap ar ab ao au av aw az=some (r1,r2,r3,r4))∧qA (kq≤k)∧qA (Kd.S k94 94 w' w.heap.size (fun _=>True) (.slice a8 au.length a9) au)∧qA (Kd.S k67 67 w' w.heap.size (fun _=>True) (.slice a6 av.length a7) av)∧qA (Kd.S k61 61 w' w.heap.size (fun _=>True) ay aw)∧qA (Kd.R k64 64 w' w.heap.size (fun _=>True) (.slice a4 az.length a5) az)∧qA (w'.heap[aj]?=some (.cells #[(.slice aG ap.length aH),(.slice aI ar.length aJ),(.slice aT ab.length aK),(.slice aM ao.length aN)] 35 (0,0)))∧qA (w'.heap[ax]?=some (.cells #[(.slice none 0 0),(.slice none 0 0),(.slice none 0 0),(.slice none 0 0)] 35 (0,0)))∧qA (w'.heap[ae]?=some (.cells #[(.slice a8 au.length a9),(.slice a6 av.length a7),ay,(.slice a4 az.length a5)] 35 (0,0)))∧qA (Below w.heap.size w w'))
 case atStart=>exact⟨(0),(([]:List (S61))),(.slice none 0 0),zr,H',⟨Nat.le_refl _⟩,⟨yS (Kd.vB bU.out ad.out (by decide))⟩,⟨yS (Kd.vB bV.out ad.out (by decide))⟩,⟨by first|exact Kd.S_nil _ _ _ _ _|exact Kd.N_nil _ _ _ _ _|exact Kd.V_nil _ _ _ _ _|exact Kd.Q_nil _ _ _ _ _|exact Kd.R_nil _ _ _ _ _⟩,⟨yV (Kd.qY bW.out ad.out (by decide))⟩,⟨yP ag.out⟩,⟨yP ah.out⟩,⟨yP ad.out⟩,⟨zb⟩⟩
 case round=>
  clear H'
  try clear c1
  try clear p2
  try clear c4
  try clear bT
  obtain⟨af,aw,ay,rfl,HA,cH,ak,al,ac,am,ag,ah,ad,HB⟩:=hrel
  cases gk with
  |zero=>exact absurd HA.out (by simp[spec_l19Copy.l0])
  |succ k1=>
   have H:=HA.out
   clear HA
   simp only[spec_l19Copy.l0] at H
   refine yDn H ?_ ?_<;>clear H<;>intro eM H
   ·simp only[Option.some.injEq,Prod.mk.injEq] at H
    obtain⟨rfl,rfl,rfl,rfl⟩:=H
    have eN:=ba.out
    have eO:=bb.out
    have eP:=aa.out
    have eQ:=aC.out
    obtain⟨dl,dm,dn,dp,dq,dr,dt,du⟩:=zc4 ag.out
    have eR:=aE.out
    have eS:=aD.out
    obtain⟨dv,dw,dx,dy,dz,dA,dB,dC⟩:=zc4 ad.out
    obtain⟨dD,dE,dF,dG,dH,dI,dJ,dK⟩:=zc4 ah.out
    obtain⟨cN,cO,cP⟩:=Kd.S_slice ac.out
    subst cP
    go_wp2
    refine bodyPost_ret (results_cell_row rfl _ _ ax 35 #[.slice a8 au.length a9,.slice a6 av.length a7,.slice cN aw.length cO,.slice a4 az.length a5] (0,0) _ rfl (yP ah.out) Tryz.underlying35 rfl zk) rfl ?_
    exact⟨_,_,_,_,ze,yS (Kd.vB ak.out ah.out (by decide)),yS (Kd.vB al.out ah.out (by decide)),yS (Kd.vB ac.out ah.out (by decide)),yV (Kd.qY am.out ah.out (by decide)),zb⟩
   replace H:=yAD H
   obtain⟨eT,H⟩:=H
   replace H:=zf H
   obtain⟨aA,cf,H⟩:=H
   try dsimp only at H
   have ew:=zz cf
   clear cf
   replace H:=yA H
   obtain⟨cI,H⟩:=H
   have co:=zz cI
   clear cI
   obtain⟨bJ,a3⟩:∃y_:List (S61),y_=(aw++[(⟨(qR ab af).f0,aA,(qR ab af).f2⟩:S61)]):=⟨_,rfl⟩
   replace H:(spec_l19Copy.l0 k1 (wrap64 (af+1)) ap ar ab ao au av bJ az)=some (r1,r2,r3,r4):=by first|(rw[a3];with_reducible exact H)|(have aZ:=(Option.bind_some _ _).symm.trans H;rw[a3];with_reducible exact aZ)|(have aZ:=(Option.bind_some _ _).symm.trans H;with_reducible exact aZ)|with_reducible exact H|(rw[a3];exact H)|exact H
   have cp:=zz a3
   clear a3
   have H':=zz H
   clear H
   have eU:=ba.out
   have eV:=bb.out
   have eW:=aa.out
   have eX:=aC.out
   obtain⟨dL,dM,dN,dO,dP,dQ,dR,dS⟩:=zc4 ag.out
   have fj:=yt (0≤(af:Int))
   have fk:=yt (af<(ab.length:Int))
   obtain⟨bX,aW,aX,cQ,bg,bh,bi,bj,bk⟩:=at_T61 ck.out af z2 z2
   cases cQ
   replace bg:=z3 HB.out bg
   replace bh:=z3 HB.out bh
   replace bi:=z3 HB.out bi
   have b0:=zz bk
   have b1:=zz bj
   clear bk bj
   go_wp2_with(first|(refine zX 5 61 #[.string (⟨#[]⟩:ByteArray),.slice none 0 0,.string (⟨#[]⟩:ByteArray)] ?_;intro ai hg fo hbox hb;replace ak:=zz (Kd.vE (zS ak.out) hb);replace al:=zz (Kd.vE (zS al.out) hb);replace ac:=zz (Kd.vE (Kd.S_elderB (zS ac.out) ai (Nat.le_of_eq hg.symm)) hb);replace am:=zz (Kd.R_below (zR am.out) hb);have an:=zz (hbox);have eY:=zz ((zg:w.heap.size≤ai));have eZ:=zz ((zg:w.heap.size≤ai));replace HB:=zz (zv zb hb);have bD:=zz (zH ag hg);have bE:=zz (zI ag hg);replace ag:=zz (zJ ag hb);have bF:=zz (zH ah hg);have bG:=zz (zI ah hg);replace ah:=zz (zJ ah hb);have bH:=zz (zH ad hg);have bI:=zz (zI ad hg);replace ad:=zz (zJ ad hb);clear hb hbox hg;have e0:=bE.out;have e1:=bD.out;have e3:=bG.out;have e4:=bF.out;have e6:=bI.out;have e7:=bH.out;obtain⟨dT,dU,dV,dW,dX,dY⟩:=zc3 an.out)|(refine zL 109 31 Tryz.func109 #[.slice aW ((qR ab af).f1).length aX] ?_;(with_reducible refine(spec_l10Copy.calls _ _ ((qR ab af).f1) aA _ ?s1 ?s2 ew.out).mono ?_);(case s1=>exact Kd.qC b0.out zb);(case s2=>exact b1.out);rintro e ey ⟨fl,rfl,bY,hb⟩;refine⟨_,rfl,?_⟩;replace ak:=zz (Kd.S_elder' (by(with_reducible repeat(first|apply Kd.vM|apply Kd.vN|apply Kd.S_drew));exact(Kd.qZ (Kd.vK (p:=⟨ai,2,none⟩) (Kd.vK (p:=⟨ai,1,none⟩) (Kd.vK (p:=⟨ai,0,none⟩) (Kd.vB ak.out an.out (by decide)) (fun _ hk=>hk.2) (.string ((qR ab af).f0))) (fun _ hk=>hk.2) (.slice aW ((qR ab af).f1).length aX)) (fun _ hk=>hk.2) (.string ((qR ab af).f2))) (fun _ h_=>h_.1))) (Kd.R_base bY) hb);replace al:=zz (Kd.vE (by(with_reducible repeat(first|apply Kd.vM|apply Kd.vN|apply Kd.S_drew));exact(Kd.qZ (Kd.vK (p:=⟨ai,2,none⟩) (Kd.vK (p:=⟨ai,1,none⟩) (Kd.vK (p:=⟨ai,0,none⟩) (Kd.vB al.out an.out (by decide)) (fun _ hk=>hk.2) (.string ((qR ab af).f0))) (fun _ hk=>hk.2) (.slice aW ((qR ab af).f1).length aX)) (fun _ hk=>hk.2) (.string ((qR ab af).f2))) (fun _ h_=>h_.1))) hb);replace ac:=zz (Kd.S_elder' (by(with_reducible repeat(first|apply Kd.vM|apply Kd.vN|apply Kd.S_drew));exact(Kd.qZ (Kd.vK (p:=⟨ai,2,none⟩) (Kd.vK (p:=⟨ai,1,none⟩) (Kd.vK (p:=⟨ai,0,none⟩) (Kd.qZ ac.out (fun k_ hk=>(⟨hk,hk.2⟩:_∧k_≠ai))) (fun _ hk=>hk.2) (.string ((qR ab af).f0))) (fun _ hk=>hk.2) (.slice aW ((qR ab af).f1).length aX)) (fun _ hk=>hk.2) (.string ((qR ab af).f2))) (fun _ h_=>h_.1))) (Kd.R_base bY) hb);replace am:=zz (Kd.R_below (by(with_reducible repeat(first|apply Kd.R_alloc|apply Kd.R_drewN|apply Kd.R_drew));exact(Kd.qT (Kd.R_far (p:=⟨ai,2,none⟩) (Kd.R_far (p:=⟨ai,1,none⟩) (Kd.R_far (p:=⟨ai,0,none⟩) (Kd.qY am.out an.out (by decide)) (fun _ hk=>hk.2) (.string ((qR ab af).f0))) (fun _ hk=>hk.2) (.slice aW ((qR ab af).f1).length aX)) (fun _ hk=>hk.2) (.string ((qR ab af).f2))) (fun _ h_=>h_.1))) hb);have aY:=zz (Kd.vC bY (qE zb));replace ag:=zz (qM (g:=aj) (o:= .cells #[.slice aG ap.length aH,.slice aI ar.length aJ,.slice (some bX) ab.length aK,.slice aM ao.length aN] 35 (0,0)) (yP ag.out) hb);replace ah:=zz (qM (g:=ax) (o:= .cells #[.slice none 0 0,.slice none 0 0,.slice none 0 0,.slice none 0 0] 35 (0,0)) (yP ah.out) hb);replace ad:=zz (qM (g:=ae) (o:= .cells #[.slice a8 au.length a9,.slice a6 av.length a7,ay,.slice a4 az.length a5] 35 (0,0)) (yP ad.out) hb);replace an:=zz (qM (g:=ai) (o:= .cells #[.string ((qR ab af).f0),.slice aW ((qR ab af).f1).length aX,.string ((qR ab af).f2)] 61 (0,0)) (yP an.out) hb);replace HB:=zz (zv zb hb);(try clear hb);(try clear fp);(try clear hk);(try clear hi);(try clear bY);obtain⟨aU,aV,cR⟩:=Kd.qV aY.out;subst cR;obtain⟨dZ,d0,d1,d2,d3,d4⟩:=zc3 an.out)|((with_reducible refine qP (t:=45) (p:=32) rfl ?_);refine qL (t:=45) (p:=32) (v:=?ez) (w1:=(ey.setCell ⟨ai,1,none⟩ (.slice aU aA.length aV))) ?hg ?ho ?hn ?hr ?_;(case ho=>rfl);(case hg=>rfl);(case hn=>rfl);(case hr=>first|(go_simp;done)|(go_simp;rfl));intro a0 hw;have bl:qA (Kd.S k94 94 a0 w.heap.size (fun k_=>some k_≠(.slice aU aA.length aV:Value).ownBlock) (.slice a8 au.length a9) au):=⟨(by rw[hw];exact(by(with_reducible repeat(first|apply Kd.vM|apply Kd.vN|apply Kd.S_drew));exact Kd.qZ (Kd.vK (p:=⟨ai,1,none⟩) (Kd.vB ak.out an.out (by decide)) (fun _ hk=>hk.2) (.slice aU aA.length aV)) (fun _ hk=>hk.1.2)))⟩;have bn:qA (Kd.S k67 67 a0 w.heap.size (fun _=>True) (.slice a6 av.length a7) av):=⟨(by rw[hw];exact(yS (Kd.vB al.out an.out (by decide))))⟩;have bo:qA (Kd.S k61 61 a0 w.heap.size (fun k_=>some k_≠(.slice aU aA.length aV:Value).ownBlock∧k_≠ai) ay aw):=⟨(by rw[hw];exact(by(with_reducible repeat(first|apply Kd.vM|apply Kd.vN|apply Kd.S_drew));exact Kd.qZ (Kd.vK (p:=⟨ai,1,none⟩) (Kd.qZ ac.out (fun k_ hk=>(⟨hk,hk.1.2⟩:_∧k_≠ai))) (fun _ hk=>hk.2) (.slice aU aA.length aV)) (fun _ hk=>⟨hk.1.2,hk.1.1.2⟩)))⟩;have bq:qA (Kd.R k64 64 a0 w.heap.size (fun _=>True) (.slice a4 az.length a5) az):=⟨(by rw[hw];exact(yV (Kd.qY am.out an.out (by decide))))⟩;have br:qA (Kd.R k96 96 a0 w.heap.size (fun _=>True) (.slice aU aA.length aV) aA):=⟨(by rw[hw];exact(yV (Kd.qY aY.out an.out (by decide))))⟩;have bs:qA (a0.heap[aj]?=some (.cells #[.slice aG ap.length aH,.slice aI ar.length aJ,.slice (some bX) ab.length aK,.slice aM ao.length aN] 35 (0,0))):=⟨(by rw[hw];exact(yP ag.out))⟩;have bu:qA (a0.heap[ax]?=some (.cells #[.slice none 0 0,.slice none 0 0,.slice none 0 0,.slice none 0 0] 35 (0,0))):=⟨(by rw[hw];exact(yP ah.out))⟩;have bv:qA (a0.heap[ae]?=some (.cells #[.slice a8 au.length a9,.slice a6 av.length a7,ay,.slice a4 az.length a5] 35 (0,0))):=⟨(by rw[hw];exact(yP ad.out))⟩;have bw:qA (a0.heap[ai]?=some (.cells #[.string ((qR ab af).f0),.slice aU aA.length aV,.string ((qR ab af).f2)] 61 (0,0))):=⟨(by rw[hw];exact(yP an.out))⟩;have bz:qA (Below w.heap.size w a0):=⟨(by rw[hw];exact zb)⟩;clear hw;clear ak;clear al;clear ac;clear am;clear aY;clear ag;clear ah;clear ad;clear an;clear HB;have ak:=bl;have al:=bn;have ac:=bo;have am:=bq;have aY:=br;have ag:=bs;have ah:=bu;have ad:=bv;have an:=bw;have HB:=bz;clear bl bn bo bq br bs bu bv bw bz;have e8:=aE.out;have fa:=aD.out;obtain⟨d5,d6,d7,d8,d9,ea,eb,ec⟩:=zc4 ad.out;obtain⟨ed,ee,ef,eg,eh,ei⟩:=zc3 an.out)|((with_reducible refine qW (b:= .append) (xs:= #[.tmp 34,.tmp 36]) rfl ?_);at_builtin;refine Kd.S_append k61 (w0:=w) w.heap.size rfl (.tmp 34) (.tmp 36) 32 61 (.agg #[(.string ⟨#[]⟩),(.slice none 0 0),(.string ⟨#[]⟩)]) 56 rfl Tryz.underlying32 info61 rfl (by decide) (by omega) ay aw (⟨(qR ab af).f0,aA,(qR ab af).f2⟩:S61) [.string ((qR ab af).f0),.slice aU aA.length aV,.string ((qR ab af).f2)] (fun k_=>k_≠ai) (fun k_=>some k_=(.slice aU aA.length aV:Value).ownBlock) rfl rfl ?aP (fun k_ hk_=>((Kd.qT (ok':=fun k_=>((fun k_=>k_≠ai)) k_∧some k_≠(ay:Value).ownBlock) (Kd.qY (Kd.R_apart' (aY.out) (Kd.S_typed ac.out) (by decide)) an.out (by decide)) (fun k_ hk=>⟨hk.2,hk.1.2⟩))).1 k_ hk_.symm) ?aF ?aO ?aB ?aS ?aL ?_;(case aP=>exact k61_mkM _ _ _ (⟨(qR ab af).f0,aA,(qR ab af).f2⟩:S61) (Kd.qT (Kd.R_tight rfl (Kd.qT (ok':=fun k_=>((fun k_=>k_≠ai)) k_∧some k_≠(ay:Value).ownBlock) (Kd.qY (Kd.R_apart' (aY.out) (Kd.S_typed ac.out) (by decide)) an.out (by decide)) (fun k_ hk=>⟨hk.2,hk.1.2⟩))) (fun _ h_=>h_)));(case aB=>exact zb);(case aF=>exact(fun k_ hk=>Kd.freshB (g:=ai) (o:= .cells #[.string ((qR ab af).f0),.slice aU aA.length aV,.string ((qR ab af).f2)] 61 (0,0)) (zB an.out) k_ hk));(case aO=>exact(by(with_reducible repeat(first|apply Kd.vM|apply Kd.vN|apply Kd.S_drew));exact Kd.qZ ac.out (fun k_ hk=>⟨hk.2,fun e_=>hk.1 e_⟩)));(case aS=>exact(qE zb));(case aL=>have:=co.out;omega);intro fm fq ho hb hg hat;rw[←cp.out] at ho;replace ak:=zz (Kd.S_over' (zS ak.out) (Kd.S_typed (zS ac.out)) (by decide) hg);replace al:=zz (Kd.S_over' (zS al.out) (Kd.S_typed (zS ac.out)) (by decide) hg);replace am:=zz (Kd.R_over' (zR am.out) (Kd.S_typed (zS ac.out)) (by decide) hg);replace ag:=zz (zK ag hg (Kd.S_ne ac.out ag.out (by decide)));replace ah:=zz (zK ah hg (Kd.S_ne ac.out ah.out (by decide)));replace ad:=zz (zK ad hg (Kd.S_ne ac.out ad.out (by decide)));replace an:=zz (zK an hg (Kd.S_away ac.out (fun _ hk=>hk.2)));replace HB:=zz (hb);have bZ:=zz (ho);clear ac aY;clear ho hb hg hat;obtain⟨cS,cT,cU⟩:=Kd.S_slice bZ.out;subst cU;obtain⟨ej,ek,em,en,eo,ep,eq,er⟩:=zc4 ad.out))
   go_roundg k1
   case measure=>have:=cH.out;omega
   case rel=>exact⟨(wrap64 (af+1)),(bJ),(.slice cS bJ.length cT),zr,H',⟨by have:=cH.out;omega⟩,⟨yS (Kd.vB ak.out ad.out (by decide))⟩,⟨yS (Kd.vB al.out ad.out (by decide))⟩,⟨yS (Kd.vB bZ.out ad.out (by decide))⟩,⟨yV (Kd.qY am.out ad.out (by decide))⟩,⟨yP ag.out⟩,⟨yP ah.out⟩,⟨yP ad.out⟩,⟨zb⟩⟩
def spec_Recover.f(k:Nat)(ab:List (S94))(ac:List (S67))(ad:List (S61))(ae:List (S64)):Option ((List (S94))×(List (S67))×(List (S61))×(List (S64))):=(spec_WorldOk.f k ab ac ad ae).bind fun af=>(if af=true then((spec_l19Copy.f k ab ac ad ae).bind fun aa=>(some (aa.1,aa.2.1,(([]:List (S61))),(([]:List (S64)))))) else(some (([]:List (S94)),([]:List (S67)),([]:List (S61)),([]:List (S64)))))
theorem spec_Recover.calls(k:Nat)(ar:Option Addr)(au:Nat)(ae:List (S94))(av:Option Addr)(aw:Nat)(af:List (S67))(ax:Option Addr)(ay:Nat)(ag:List (S61))(az:Option Addr)(aA:Nat)(ah:List (S64))(r1:List (S94))(r2:List (S67))(r3:List (S61))(r4:List (S64))(w:World)(bb:Kd.C k94 w ar ae.length ae)(bc:ae.length≤au)(bd:Kd.C k67 w av af.length af)(be:af.length≤aw)(bf:Kd.C k61 w ax ag.length ag)(bg:ag.length≤ay)(bh:Kd.C k64 w az ah.length ah)(bi:ah.length≤aA)(h:spec_Recover.f k ae af ag ah=some (r1,r2,r3,r4)):
 Calls Tryz.prog 25 #[.agg #[.slice ar ae.length au,.slice av af.length aw,.slice ax ag.length ay,.slice az ah.length aA]] w fun e w'=>∃bs bu bv bw:Value,e= .returned (.agg #[bs,bu,bv,bw])∧Kd.S k94 94 w' w.heap.size (fun _=>True) bs r1∧Kd.S k67 67 w' w.heap.size (fun _=>True) bu r2∧Kd.S k61 61 w' w.heap.size (fun _=>True) bv r3∧Kd.R k64 64 w' w.heap.size (fun _=>True) bw r4∧Below w.heap.size w w':=by
 have c8:=Tryz.underlying35
 have aZ:=zz bb
 have a0:=zz bc
 clear bb bc
 have a1:=zz bd
 have a2:=zz be
 clear bd be
 have a3:=zz bf
 have a4:=zz bg
 clear bf bg
 have a5:=zz bh
 have a6:=zz bi
 clear bh bi
 have HB:=yB w
 unfold spec_Recover.f at h
 have H:=h
 clear h
 replace H:=zf H
 obtain⟨bG,bz,H⟩:=H
 try dsimp only at H
 have A2:=zz bz
 clear bz
 by_cases c3:bG=true
 case neg=>
  replace c3:=Bool.eq_false_iff.mpr c3
  subst c3
  rw[if_neg (show¬(false=true) by decide)] at H
  simp only[Option.some.injEq,Prod.mk.injEq] at H
  obtain⟨rfl,rfl,rfl,rfl⟩:=H
  go_enter Tryz.func25,Tryz.ntmps25
  go_wp2_with(first|(refine zX 1 35 #[.slice ar ae.length au,.slice av af.length aw,.slice ax ag.length ay,.slice az ah.length aA] ?_;intro aB hg dj hbox hb;have ab:=zz (hbox);have bn:=zz ((zg:w.heap.size≤aB));have bo:=zz ((zg:w.heap.size≤aB));replace HB:=zz (zv zb hb);clear hb hbox hg)|(refine zX 2 35 #[.slice none 0 0,.slice none 0 0,.slice none 0 0,.slice none 0 0] ?_;intro ai hg dk hbox hb;have ac:=zz (hbox);have bq:=zz ((zg:w.heap.size≤ai));have br:=zz ((zg:w.heap.size≤ai));replace HB:=zz (zv zb hb);have aC:=zz (zH ab hg);have aD:=zz (zI ab hg);replace ab:=zz (zJ ab hb);clear hb hbox hg;have cV:=aC.out;have cW:=aD.out;obtain⟨bN,bO,bP,bQ,bR,bS,bT,bU⟩:=zc4 ab.out)|(refine zL 8 5 Tryz.func8 #[.agg #[.slice ar ae.length au,.slice av af.length aw,.slice ax ag.length ay,.slice az ah.length aA]] ?_;(with_reducible refine(spec_WorldOk.calls k _ _ ae _ _ af _ _ ag _ _ ah false _ ?s1 ?s2 ?s3 ?s4 ?s5 ?s6 ?s7 ?s8 A2.out).mono ?_);(case s1=>exact zc aZ.out);(case s2=>exact a0.out);(case s3=>exact zc a1.out);(case s4=>exact a2.out);(case s5=>exact zc a3.out);(case s6=>exact a4.out);(case s7=>exact zc a5.out);(case s8=>exact a6.out);rintro e dl ⟨rfl,hb⟩;refine⟨_,rfl,?_⟩;replace ab:=zz (zJ ab hb);replace ac:=zz (zJ ac hb);replace HB:=zz (zv zb hb);(try clear hb);(try clear bA);(try clear hk);(try clear hi);obtain⟨bV,bW,bX,bY,bZ,b0,b1,b3⟩:=zc4 ac.out))
  refine bodyPost_ret (results_cell_row rfl _ _ ai 35 #[.slice none 0 0,.slice none 0 0,.slice none 0 0,.slice none 0 0] (0,0) _ rfl (yP ac.out) Tryz.underlying35 rfl zk) rfl ?_
  exact⟨_,_,_,_,ze,by first|exact Kd.S_nil _ _ _ _ _|exact Kd.N_nil _ _ _ _ _|exact Kd.V_nil _ _ _ _ _|exact Kd.Q_nil _ _ _ _ _|exact Kd.R_nil _ _ _ _ _,by first|exact Kd.S_nil _ _ _ _ _|exact Kd.N_nil _ _ _ _ _|exact Kd.V_nil _ _ _ _ _|exact Kd.Q_nil _ _ _ _ _|exact Kd.R_nil _ _ _ _ _,by first|exact Kd.S_nil _ _ _ _ _|exact Kd.N_nil _ _ _ _ _|exact Kd.V_nil _ _ _ _ _|exact Kd.Q_nil _ _ _ _ _|exact Kd.R_nil _ _ _ _ _,by first|exact Kd.R_nil _ _ _ _ _|exact Kd.N_nil _ _ _ _ _|exact Kd.V_nil _ _ _ _ _|exact Kd.Q_nil _ _ _ _ _|exact Kd.S_nil _ _ _ _ _,zb⟩
 subst c3
 rw[if_pos rfl] at H
 replace H:=zf H
 obtain⟨⟨aj,ak,aL,aE⟩,bB,H⟩:=H
 try dsimp only at H
 have A4:=zz bB
 clear bB
 obtain⟨ap,aO⟩:∃y_:List (S61),y_=(([]:List (S61))):=⟨_,rfl⟩
 replace H:(some (aj,ak,ap,(([]:List (S64)))))=some (r1,r2,r3,r4):=by first|(rw[aO];with_reducible exact H)|(have aW:=(Option.bind_some _ _).symm.trans H;rw[aO];with_reducible exact aW)|(have aW:=(Option.bind_some _ _).symm.trans H;with_reducible exact aW)|with_reducible exact H|(rw[aO];exact H)|exact H
 have bj:=zz aO
 clear aO
 obtain⟨aQ,aP⟩:∃y_:List (S64),y_=(([]:List (S64))):=⟨_,rfl⟩
 replace H:(some (aj,ak,ap,aQ))=some (r1,r2,r3,r4):=by first|(rw[aP];with_reducible exact H)|(have aW:=(Option.bind_some _ _).symm.trans H;rw[aP];with_reducible exact aW)|(have aW:=(Option.bind_some _ _).symm.trans H;with_reducible exact aW)|with_reducible exact H|(rw[aP];exact H)|exact H
 have bk:=zz aP
 clear aP
 simp only[Option.some.injEq,Prod.mk.injEq] at H
 obtain⟨rfl,rfl,rfl,rfl⟩:=H
 go_enter Tryz.func25,Tryz.ntmps25
 go_wp2_with(first|(refine zX 1 35 #[.slice ar ae.length au,.slice av af.length aw,.slice ax ag.length ay,.slice az ah.length aA] ?_;intro aB hg w5 hbox hb;have ab:=zz (hbox);have bn:=zz ((zg:w.heap.size≤aB));have bo:=zz ((zg:w.heap.size≤aB));replace HB:=zz (zv zb hb);clear hb hbox hg)|(refine zX 2 35 #[.slice none 0 0,.slice none 0 0,.slice none 0 0,.slice none 0 0] ?_;intro ai hg w6 hbox hb;have ac:=zz (hbox);have bq:=zz ((zg:w.heap.size≤ai));have br:=zz ((zg:w.heap.size≤ai));replace HB:=zz (zv zb hb);have aC:=zz (zH ab hg);have aD:=zz (zI ab hg);replace ab:=zz (zJ ab hb);clear hb hbox hg;have c9:=aC.out;have da:=aD.out;obtain⟨cN,cO,cP,cQ,cR,cS,cT,cU⟩:=zc4 ab.out)|(refine zL 8 5 Tryz.func8 #[.agg #[.slice ar ae.length au,.slice av af.length aw,.slice ax ag.length ay,.slice az ah.length aA]] ?_;(with_reducible refine(spec_WorldOk.calls k _ _ ae _ _ af _ _ ag _ _ ah true _ ?s1 ?s2 ?s3 ?s4 ?s5 ?s6 ?s7 ?s8 A2.out).mono ?_);(case s1=>exact zc aZ.out);(case s2=>exact a0.out);(case s3=>exact zc a1.out);(case s4=>exact a2.out);(case s5=>exact zc a3.out);(case s6=>exact a4.out);(case s7=>exact zc a5.out);(case s8=>exact a6.out);rintro e w9 ⟨rfl,hb⟩;refine⟨_,rfl,?_⟩;replace ab:=zz (zJ ab hb);replace ac:=zz (zJ ac hb);replace HB:=zz (zv zb hb);(try clear hb);(try clear bA);(try clear hk);(try clear hi);obtain⟨b4,b7,b8,ca,cb,cc,cd,ce⟩:=zc4 ab.out)|(refine zL 68 9 Tryz.func68 #[.agg #[.slice ar ae.length au,.slice av af.length aw,.slice ax ag.length ay,.slice az ah.length aA]] ?_;(with_reducible refine(spec_l19Copy.calls k _ _ ae _ _ af _ _ ag _ _ ah aj ak aL aE _ ?s1 ?s2 ?s3 ?s4 ?s5 ?s6 ?s7 ?s8 A4.out).mono ?_);(case s1=>exact zc aZ.out);(case s2=>exact a0.out);(case s3=>exact zc a1.out);(case s4=>exact a2.out);(case s5=>exact zc a3.out);(case s6=>exact a4.out);(case s7=>exact zc a5.out);(case s8=>exact a6.out);rintro e dm ⟨db,dc,de,df,rfl,bC,bD,bE,bF,hb⟩;refine⟨_,rfl,?_⟩;have al:=zz (Kd.S_lower bC (qE zb));have am:=zz (Kd.S_lower bD (qE zb));have an:=zz (Kd.S_lower bE (qE zb));have ao:=zz (Kd.vC bF (qE zb));replace ab:=zz (zJ ab hb);replace ac:=zz (zJ ac hb);replace HB:=zz (zv zb hb);(try clear hb);(try clear bA);(try clear hk);(try clear hi);(try clear bC);(try clear bD);(try clear bE);(try clear bF))|(refine zX 3 35 #[.slice none 0 0,.slice none 0 0,.slice none 0 0,.slice none 0 0] ?_;intro aa hg dn hbox hb;replace al:=zz (Kd.vE (zS al.out) hb);replace am:=zz (Kd.vE (zS am.out) hb);replace an:=zz (Kd.vE (zS an.out) hb);replace ao:=zz (Kd.R_below (zR ao.out) hb);have ad:=zz (hbox);have cX:=zz ((zg:w.heap.size≤aa));have cY:=zz ((zg:w.heap.size≤aa));replace HB:=zz (zv zb hb);have a7:=zz (zH ab hg);have a8:=zz (zI ab hg);replace ab:=zz (zJ ab hb);have a9:=zz (zH ac hg);have ba:=zz (zI ac hg);replace ac:=zz (zJ ac hb);clear hb hbox hg;obtain⟨aF,aG,bH⟩:=Kd.S_slice al.out;subst bH;have cZ:=a8.out;have c5:=a7.out;have c6:=ba.out;have c7:=a9.out;obtain⟨cf,cg,ch,ci,cj,ck,cm,cn⟩:=zc4 ad.out;obtain⟨aH,aI,bI⟩:=Kd.S_slice am.out;subst bI;obtain⟨aR,aS,bJ⟩:=Kd.S_slice an.out;subst bJ;obtain⟨aM,aN,bK⟩:=Kd.qV ao.out;subst bK)|(refine zN 10 ?_;refine Kd.S_lit k61 _ 61 ?hg (N:=10) ?hd (xs:=([]:List (S61))) (inner:=[]) (ok:=fun _=>True) (okp:=fun _=>True) ?hr ?hp (fun _ hk=>hk) trivial (Below.refl _ _) (Nat.le_refl _) (by simp) ?_;(case hd=>rfl);(case hg=>rfl);(case hr=>first|(go_simp;done)|(go_simp;rfl));(case hp=>exact(Reps.none _ _));intro dh dp aT hb hg_ hnew_;clear hg_ hnew_;(first|rw[←bj.out] at aT|(simp only[Int.reduceToNat] at aT;rw[←bj.out] at aT));replace al:=zz (Kd.vE (by(with_reducible repeat(first|apply Kd.vM|apply Kd.vN|apply Kd.S_drew));exact(Kd.qZ (Kd.vK (p:=⟨aa,3,none⟩) (Kd.vK (p:=⟨aa,2,none⟩) (Kd.vK (p:=⟨aa,1,none⟩) (Kd.vK (p:=⟨aa,0,none⟩) (Kd.vB al.out ad.out (by decide)) (fun _ hk=>hk.2) (.slice aF aj.length aG)) (fun _ hk=>hk.2) (.slice aH ak.length aI)) (fun _ hk=>hk.2) (.slice aR aL.length aS)) (fun _ hk=>hk.2) (.slice aM aE.length aN)) (fun _ h_=>h_.1))) hb);replace am:=zz (Kd.vE (by(with_reducible repeat(first|apply Kd.vM|apply Kd.vN|apply Kd.S_drew));exact(Kd.qZ (Kd.vK (p:=⟨aa,3,none⟩) (Kd.vK (p:=⟨aa,2,none⟩) (Kd.vK (p:=⟨aa,1,none⟩) (Kd.vK (p:=⟨aa,0,none⟩) (Kd.vB am.out ad.out (by decide)) (fun _ hk=>hk.2) (.slice aF aj.length aG)) (fun _ hk=>hk.2) (.slice aH ak.length aI)) (fun _ hk=>hk.2) (.slice aR aL.length aS)) (fun _ hk=>hk.2) (.slice aM aE.length aN)) (fun _ h_=>h_.1))) hb);replace ao:=zz (Kd.R_below (by(with_reducible repeat(first|apply Kd.R_alloc|apply Kd.R_drewN|apply Kd.R_drew));exact(Kd.qT (Kd.R_far (p:=⟨aa,3,none⟩) (Kd.R_far (p:=⟨aa,2,none⟩) (Kd.R_far (p:=⟨aa,1,none⟩) (Kd.R_far (p:=⟨aa,0,none⟩) (Kd.qY ao.out ad.out (by decide)) (fun _ hk=>hk.2) (.slice aF aj.length aG)) (fun _ hk=>hk.2) (.slice aH ak.length aI)) (fun _ hk=>hk.2) (.slice aR aL.length aS)) (fun _ hk=>hk.2) (.slice aM aE.length aN)) (fun _ h_=>h_.1))) hb);have aV:=zz (Kd.S_lower (Kd.S_new' aT (Kd.S_lt (by(with_reducible repeat(first|apply Kd.vM|apply Kd.vN|apply Kd.S_drew));exact(Kd.qZ (Kd.vK (p:=⟨aa,3,none⟩) (Kd.vK (p:=⟨aa,2,none⟩) (Kd.vK (p:=⟨aa,1,none⟩) (Kd.vK (p:=⟨aa,0,none⟩) (Kd.vB an.out ad.out (by decide)) (fun _ hk=>hk.2) (.slice aF aj.length aG)) (fun _ hk=>hk.2) (.slice aH ak.length aI)) (fun _ hk=>hk.2) (.slice aR aL.length aS)) (fun _ hk=>hk.2) (.slice aM aE.length aN)) (fun _ h_=>h_.1))))) (qE zb));replace an:=zz (Kd.S_elder' (by(with_reducible repeat(first|apply Kd.vM|apply Kd.vN|apply Kd.S_drew));exact(Kd.qZ (Kd.vK (p:=⟨aa,3,none⟩) (Kd.vK (p:=⟨aa,2,none⟩) (Kd.vK (p:=⟨aa,1,none⟩) (Kd.vK (p:=⟨aa,0,none⟩) (Kd.vB an.out ad.out (by decide)) (fun _ hk=>hk.2) (.slice aF aj.length aG)) (fun _ hk=>hk.2) (.slice aH ak.length aI)) (fun _ hk=>hk.2) (.slice aR aL.length aS)) (fun _ hk=>hk.2) (.slice aM aE.length aN)) (fun _ h_=>h_.1))) (Kd.S_base aT) hb);replace ab:=zz (qM (g:=aB) (o:= .cells #[.slice ar ae.length au,.slice av af.length aw,.slice ax ag.length ay,.slice az ah.length aA] 35 (0,0)) (yP ab.out) hb);replace ac:=zz (qM (g:=ai) (o:= .cells #[.slice none 0 0,.slice none 0 0,.slice none 0 0,.slice none 0 0] 35 (0,0)) (yP ac.out) hb);replace ad:=zz (qM (g:=aa) (o:= .cells #[.slice aF aj.length aG,.slice aH ak.length aI,.slice aR aL.length aS,.slice aM aE.length aN] 35 (0,0)) (yP ad.out) hb);replace HB:=zz (zv zb hb);clear hb aT;obtain⟨aJ,aK,bL⟩:=Kd.S_slice aV.out;subst bL;obtain⟨co,cp,cq,cr,ct,cu,cv,cw⟩:=zc4 ad.out)|(refine zN 12 ?_;refine Kd.R_lit k64 _ 64 ?hg (N:=12) ?hd (xs:=([]:List (S64))) (inner:=[]) (ok:=fun _=>True) (okp:=fun _=>True) ?hr ?hp (fun _ hk=>hk) trivial (Below.refl _ _) (Nat.le_refl _) (by simp) ?_;(case hd=>rfl);(case hg=>rfl);(case hr=>first|(go_simp;done)|(go_simp;rfl));(case hp=>exact(Reps.none _ _));intro di dq aU hb hg_ hnew_;clear hg_ hnew_;(first|rw[←bk.out] at aU|(simp only[Int.reduceToNat] at aU;rw[←bk.out] at aU));replace al:=zz (Kd.vE (by(with_reducible repeat(first|apply Kd.vM|apply Kd.vN|apply Kd.S_drew));exact(Kd.qZ (Kd.vK (p:=⟨aa,2,none⟩) (Kd.vB al.out ad.out (by decide)) (fun _ hk=>hk.2) (.slice aJ ap.length aK)) (fun _ h_=>h_.1))) hb);replace am:=zz (Kd.vE (by(with_reducible repeat(first|apply Kd.vM|apply Kd.vN|apply Kd.S_drew));exact(Kd.qZ (Kd.vK (p:=⟨aa,2,none⟩) (Kd.vB am.out ad.out (by decide)) (fun _ hk=>hk.2) (.slice aJ ap.length aK)) (fun _ h_=>h_.1))) hb);replace an:=zz (Kd.vE (by(with_reducible repeat(first|apply Kd.vM|apply Kd.vN|apply Kd.S_drew));exact(Kd.qZ (Kd.vK (p:=⟨aa,2,none⟩) (Kd.vB an.out ad.out (by decide)) (fun _ hk=>hk.2) (.slice aJ ap.length aK)) (fun _ h_=>h_.1))) hb);replace aV:=zz (Kd.vE (by(with_reducible repeat(first|apply Kd.vM|apply Kd.vN|apply Kd.S_drew));exact(Kd.qZ (Kd.vK (p:=⟨aa,2,none⟩) (Kd.vB aV.out ad.out (by decide)) (fun _ hk=>hk.2) (.slice aJ ap.length aK)) (fun _ h_=>h_.1))) hb);have bl:=zz (Kd.vC (Kd.R_new' aU (Kd.R_lt (by(with_reducible repeat(first|apply Kd.R_alloc|apply Kd.R_drewN|apply Kd.R_drew));exact(Kd.qT (Kd.R_far (p:=⟨aa,2,none⟩) (Kd.qY ao.out ad.out (by decide)) (fun _ hk=>hk.2) (.slice aJ ap.length aK)) (fun _ h_=>h_.1))))) (qE zb));replace ao:=zz (Kd.R_elder' (by(with_reducible repeat(first|apply Kd.R_alloc|apply Kd.R_drewN|apply Kd.R_drew));exact(Kd.qT (Kd.R_far (p:=⟨aa,2,none⟩) (Kd.qY ao.out ad.out (by decide)) (fun _ hk=>hk.2) (.slice aJ ap.length aK)) (fun _ h_=>h_.1))) (Kd.R_base aU) hb);replace ab:=zz (qM (g:=aB) (o:= .cells #[.slice ar ae.length au,.slice av af.length aw,.slice ax ag.length ay,.slice az ah.length aA] 35 (0,0)) (yP ab.out) hb);replace ac:=zz (qM (g:=ai) (o:= .cells #[.slice none 0 0,.slice none 0 0,.slice none 0 0,.slice none 0 0] 35 (0,0)) (yP ac.out) hb);replace ad:=zz (qM (g:=aa) (o:= .cells #[.slice aF aj.length aG,.slice aH ak.length aI,.slice aJ ap.length aK,.slice aM aE.length aN] 35 (0,0)) (yP ad.out) hb);replace HB:=zz (zv zb hb);clear hb aU;obtain⟨aX,aY,bM⟩:=Kd.qV bl.out;subst bM;obtain⟨cx,cy,cz,cA,cB,cC,cD,cE⟩:=zc4 ad.out;obtain⟨cF,cG,cH,cI,cJ,cK,cL,cM⟩:=zc4 ac.out))
 refine bodyPost_ret (results_cell_row rfl _ _ ai 35 #[.slice aF aj.length aG,.slice aH ak.length aI,.slice aJ ap.length aK,.slice aX aQ.length aY] (0,0) _ rfl (yP ac.out) Tryz.underlying35 rfl zk) rfl ?_
 exact⟨_,_,_,_,ze,yS (Kd.vK (p:=⟨aa,3,none⟩) (Kd.vB (Kd.vB al.out ad.out (by decide)) ac.out (by decide)) (fun _ hk=>hk.1.2) (.slice aX aQ.length aY)),yS (Kd.vK (p:=⟨aa,3,none⟩) (Kd.vB (Kd.vB am.out ad.out (by decide)) ac.out (by decide)) (fun _ hk=>hk.1.2) (.slice aX aQ.length aY)),yS (Kd.vK (p:=⟨aa,3,none⟩) (Kd.vB (Kd.vB aV.out ad.out (by decide)) ac.out (by decide)) (fun _ hk=>hk.1.2) (.slice aX aQ.length aY)),yV (Kd.R_far (p:=⟨aa,3,none⟩) (Kd.qY (Kd.qY bl.out ad.out (by decide)) ac.out (by decide)) (fun _ hk=>hk.1.2) (.slice aX aQ.length aY)),zb⟩
def impl_copyTree.f(l0:List (S96)):Option ((List (S96))):=(some (([]:List (S96)):List (S96))).bind fun aa=>(if aa.length+l0.length<2932031007402 then(some (aa++l0)) else(none))
theorem impl_copyTree.calls(A0:Option Addr)(c0:Nat)(l0:List (S96))(r:List (S96))(w:World)(aj:Kd.C k96 w A0 l0.length l0)(ak:l0.length≤c0)(h:impl_copyTree.f l0=some r):
 Calls Tryz.prog 112 #[.slice A0 l0.length c0] w fun e w'=>∃al:Value,e= .returned (al)∧Kd.R k96 96 w' w.heap.size (fun _=>True) al r∧Below w.heap.size w w':=by
 have ap:=zz aj
 have au:=zz ak
 clear aj ak
 have HB:=yB w
 unfold impl_copyTree.f at h
 have H:=h
 clear h
 obtain⟨ad,aa⟩:∃y_:List (S96),y_=(([]:List (S96))):=⟨_,rfl⟩
 replace H:(if ad.length+l0.length<2932031007402 then(some (ad++l0)) else(none))=some r:=by first|(rw[aa];with_reducible exact H)|(have ac:=(Option.bind_some _ _).symm.trans H;rw[aa];with_reducible exact ac)|(have ac:=(Option.bind_some _ _).symm.trans H;with_reducible exact ac)|with_reducible exact H|(rw[aa];exact H)|exact H
 have af:=zz aa
 clear aa
 replace H:=yA H
 obtain⟨c2,H⟩:=H
 have am:=zz c2
 clear c2
 obtain⟨an,ab⟩:∃y_:List (S96),y_=(ad++l0):=⟨_,rfl⟩
 replace H:(some an)=some r:=by first|(rw[ab];with_reducible exact H)|(have ac:=(Option.bind_some _ _).symm.trans H;rw[ab];with_reducible exact ac)|(have ac:=(Option.bind_some _ _).symm.trans H;with_reducible exact ac)|with_reducible exact H|(rw[ab];exact H)|exact H
 have ah:=zz ab
 clear ab
 obtain rfl:=zi H
 go_enter Tryz.func112,Tryz.ntmps112
 go_wp2_with(first|(refine zN 3 ?_;refine Kd.R_lit k96 _ 96 ?hg (N:=3) ?hd (xs:=([]:List (S96))) (inner:=[]) (ok:=fun _=>True) (okp:=fun _=>True) ?hr ?hp (fun _ hk=>hk) trivial (Below.refl _ _) (Nat.le_refl _) (by simp) ?_;(case hd=>rfl);(case hg=>rfl);(case hr=>first|(go_simp;done)|(go_simp;rfl));(case hp=>exact(Reps.none _ _));intro ao w3 ae hb hg_ hnew_;clear hg_ hnew_;(first|rw[←af.out] at ae|(simp only[Int.reduceToNat] at ae;rw[←af.out] at ae));have ag:=zz (Kd.vC ae (qE zb));replace HB:=zz (zv zb hb);clear hb ae)|((with_reducible refine qW (b:= .append) (xs:= #[.tmp 3,.tmp 4]) rfl ?_);at_builtin;refine Kd.R_append_rows k96 (w0:=w) w.heap.size rfl (.tmp 3) (.tmp 4) 45 96 (.agg #[(.string ⟨#[]⟩),(.int .i64 0),(.string ⟨#[]⟩),(.bool false)]) 48 rfl Tryz.underlying45 info96 rfl (by decide) (by omega) ao ad l0 _ _ _ (fun _=>True) (fun _=>False) rfl rfl ?aO ?aR (fun _ _ h=>h) (fun _ h=>h.elim) ?aF ?aB ?aS ?aL ?_;(case aR=>exact zc ap.out);(case aB=>exact zb);(case aF=>exact(fun _ _=>trivial));(case aO=>exact(zR ag.out));(case aS=>exact(qE zb));(case aL=>have:=am.out;omega);intro ar w5 ho hb hg hat;rw[←ah.out] at ho;replace HB:=zz (hb);have ai:=zz (ho);clear ag;clear ho hb hg hat))
 go_ret
 exact⟨_,ze,zR ai.out,zb⟩
end Go.Proofs.YtcekmnclmldmmaaGreatDoor.Q
