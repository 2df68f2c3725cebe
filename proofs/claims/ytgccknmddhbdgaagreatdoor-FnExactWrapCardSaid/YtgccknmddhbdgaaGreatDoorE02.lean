import Derived.Test.YtgccknmddhbdgaaGreatDoorE01
namespace Go.Proofs.YtgccknmddhbdgaaGreatDoor.Q
open Go.RowKit W1 W2 W3
attribute [local go_sem] max2_int min2_int max_two min_two max_three min_three max_four min_four
attribute [local go_sem high] bl_leq bl_gtr bl_geq
set_option maxHeartbeats 8000000
set_option maxRecDepth 100000
theorem zk{P:Prop}(h:P:=by kernel_rfl):P:=h
theorem zm{P:Prop}(h:P:=by(try simp only[List.map_toArray,List.map_cons,List.map_nil]);first|done|rfl|(simp only[List.length_drop,List.length_take];rfl)):P:=h
theorem zr{P:Prop}(h:P:=by first|rfl|(simp;done)|(simp[*];done)):P:=h
theorem ze{P:Prop}(h:P:=by first|rfl|(simp[errW_none,errW_some]<;>rfl)|(simp[*,errW_none,errW_some]<;>rfl)):P:=h
theorem zb{P:Prop}(h:P:=by repeat(first|(with_reducible first|exact HB.out|apply qS|apply qQ|apply qK|refine qJ ?_ (qB.out (by assumption)))|exact HB.out)):P:=h
theorem zg{P:Prop}(h:P:=by rw[hg];exact(qE zb)):P:=h
theorem zR{P Q:Prop}(q:Q)(f:Q->P:=by intro q;(with_reducible repeat(first|apply Kd.vE|apply Kd.vD|apply Kd.qZ));exact q):P:=f q
theorem zS{P Q:Prop}(q:Q)(f:Q->P:=by intro q;(with_reducible repeat(first|apply Kd.S_alloc|apply Kd.S_drewN|apply Kd.S_drew));exact q):P:=f q
theorem zB{P Q:Prop}(q:Q)(f:Q->P:=by intro q;(with_reducible repeat(first|refine blk_drewN ?_ _|refine blk_drew ?_|refine blk_alloc ?_ _));exact q):P:=f q
theorem zc{P Q:Prop}(q:Q)(f:Q->P:=by intro q;repeat(first|exact(Kd.qD q HB.out)|(with_reducible refine Kd.C_alloc ?_ _)|(with_reducible refine Kd.C_drewN ?_ _)|(with_reducible refine Kd.C_drew ?_))):P:=f q
theorem zC{P Q:Prop}(q:Q)(f:Q->P:=by intro q;repeat(first|exact(Kd.qD q zb)|(with_reducible refine Kd.C_alloc ?_ _)|(with_reducible refine Kd.C_drewN ?_ _)|(with_reducible refine Kd.C_drew ?_))):P:=f q
theorem zd{P Q:Prop}(q:Q)(f:Q->P:=by intro q;repeat(first|exact q|(with_reducible refine Kd.C_alloc ?_ _)|(with_reducible refine Kd.C_drewN ?_ _)|(with_reducible refine Kd.C_drew ?_))):P:=f q
theorem zG{P:Prop}(h:P:=by first|exact HG.out|(refine GOK.drawn HG.out ?_;(repeat(first|exact vB.refl _|apply vB.step));done)|exact GOK.below HG.out zb):P:=h
theorem zM{P:Prop}(h:P:=by repeat' first|(with_reducible first|apply ih0|apply ih1|apply ih2|apply ih3|apply ih4|apply ih5|apply ih6|apply ih7|apply ih8|apply ih9|apply m0|apply m1|apply m2|apply m3|apply m4|apply m5|apply m6|apply m7|apply m8|exact LeO.refl _|exact LeO.none _|refine LeO.ite ?_ ?_|refine LeO.bind ?_ (fun _=>?_))|apply ih0|apply ih1|apply ih2|apply ih3|apply ih4|apply ih5|apply ih6|apply ih7|apply ih8|apply ih9|apply m0|apply m1|apply m2|apply m3|apply m4|apply m5|apply m6|apply m7|apply m8|exact LeO.none _|refine LeO.ite ?_ ?_|refine LeO.bind ?_ (fun _=>?_)):P:=h
theorem zz{p:Prop}(h:p):qB p:=⟨h⟩
theorem zv{w W w2:World}(h:Below w.heap.size w W)(k:Below W.heap.size W w2):Below w.heap.size w w2:=below_step h k
theorem zf{α β:Type}{x:Option α}{f:α->Option β}{r:β}(h:x.bind f=some r):∃a,x=some a/\f a=some r:=Option.bind_eq_some_iff.mp h
theorem z1{p:Prop}[inst:Decidable p](h:p):decide p=true:=decide_eq_true h
theorem z0{p:Prop}[inst:Decidable p](h:¬p):decide p=false:=decide_eq_false h
theorem z2{p:Prop}[inst:Decidable p](h:decide p=true:=by first|(with_reducible assumption)|assumption):p:=of_decide_eq_true h
theorem z3{w W:World}{a:Addr}{v:Value}(hb:Below w.heap.size w W)(h:w.cell? a=some v):W.cell? a=some v:=(hb.cell (World.block_lt_of_cell? w _ h)).trans h
theorem zno{α:Type}{c:Prop}[Decidable c]{a:Option α}{r:α}{P:Prop}(h:(if c then a else none)=some r)(n:¬c):P:=by rw[if_neg n] at h;cases h
section
variable {w W w1 : World} {g g' : Nat} {o : Obj} {row : Option Nat}
theorem zK(q:qB (w.heap[g]?=some o))(hg:W.grownBy w1 row)(hne:some g≠row)(h:W.heap[g]?=some o:=by(with_reducible repeat(first|refine blk_drewN ?_ _|refine blk_drew ?_|refine blk_alloc ?_ _));exact(qB.out (by assumption))):w1.heap[g]?=some o:=blk_grown h hg hne
theorem zJ(q:qB (w.heap[g]?=some o))(hb:Below W.heap.size W w1)(h:W.heap[g]?=some o:=by(with_reducible repeat(first|refine blk_drewN ?_ _|refine blk_drew ?_|refine blk_alloc ?_ _));exact(qB.out (by assumption))):w1.heap[g]?=some o:=qY h hb
theorem zH(q:qB (w.heap[g]?=some o))(hg:g'=W.heap.size)(h:W.heap[g]?=some o:=by(with_reducible repeat(first|refine blk_drewN ?_ _|refine blk_drew ?_|refine blk_alloc ?_ _));exact(qB.out (by assumption))):g≠g':=by rw[hg];exact Nat.ne_of_lt (blk_lt h)
theorem zI(q:qB (w.heap[g]?=some o))(hg:g'=W.heap.size)(h:W.heap[g]?=some o:=by(with_reducible repeat(first|refine blk_drewN ?_ _|refine blk_drew ?_|refine blk_alloc ?_ _));exact(qB.out (by assumption))):g'≠g:=by rw[hg];exact Nat.ne_of_gt (blk_lt h)
end
theorem zW{P:Program}{ops:Array Oper}{C:World->Prop}{K:Act->World->Prop}{a:Act}(h:∀w',C w'->K a w'):wpQuiet P ops C (fun a'=>∀w',C w'->K a' w') [] a:=h
theorem zE{α:Type}{p:World->α->Prop}{C:World->Prop}{q:α->Prop}{v:α}(h2:q v)(h1:∀W,C W->p W v:=by intro W hW;first|with_reducible rfl|(go_simp;with_reducible rfl)):∃v,(∀W,C W->p W v)/\q v:=⟨v,h1,h2⟩
theorem zgt{a b:Int}(h:a>b):decide (b<a)=true:=decide_eq_true h
theorem zgtn{a b:Int}(h:¬a>b):decide (b<a)=false:=decide_eq_false h
theorem zge{a b:Int}(h:a>=b):decide (b<=a)=true:=decide_eq_true h
theorem zgen{a b:Int}(h:¬a>=b):decide (b<=a)=false:=decide_eq_false h
theorem zq{α:Type}[BEq α][LawfulBEq α]{a b:α}(h:a=b):(a==b)=true/\(a !=b)=false:=⟨beq_iff_eq.mpr h,bne_eq_false_iff_eq.mpr h⟩
theorem zw{α:Type}[BEq α][LawfulBEq α]{a b:α}(h:¬a=b):(a==b)=false/\(a !=b)=true:=⟨beq_eq_false_iff_ne.mpr h,bne_iff_ne.mpr h⟩
theorem zi{α:Type}{a b:α}(h:some a=some b):a=b:=Option.some.inj h
section
variable {P : Program} {ops : Array Oper} {Q : Exit -> Act -> World -> Prop} {rest : List Oper} {o oi : Oper} {a : Act} {W w : World}
theorem z4(h:wpList P ops Q ({ o with guard:=none }::rest) a W)(hw:Region.wanted o (yielded ops a.tmps)=true:=by rfl):wpList P ops Q (o::rest) a W:=gate_guard hw h
theorem zN(N:Tmp)(h:wpList P ops Q (o::rest) a W)(hN:o.dst=some N:=by with_reducible rfl):wpList P ops Q (o::rest) a W:=h
theorem zX(N:Tmp)(t:TypeId)(cs:Array Value)(h:∀g,g=W.heap.size->∀w1,w1.heap[g]?=some (.cells cs t (0,0))->Below W.heap.size W w1->wpList P ops Q rest (a.put o.dst (.pointer (some ⟨g,0,none⟩))) w1)
 (hN:o.dst=some N:=by with_reducible rfl) (hd:o.dst=some N:=by rfl) (hg:o.guard=none:=by rfl) (hr:(execOp a.eval o).run P W= .ok (.value (.pointer (some ⟨W.heap.size,0,none⟩))) (W.alloc (.cells cs t (0,0))):=by first|(go_simp;done)|(go_simp;rfl)):wpList P ops Q (o::rest) a W:=box_event hg hd hr h
theorem zL(f:FuncId)(N:Tmp){fn:Func}(hf:P.funcs[f]?=some fn)(args:Array Value){ps:Array Operand}{ts:Array TypeId}(h:Calls P f args w fun e w'=>∃v,e= .returned v/\wpList P ops Q rest (a.put (some N) v) w')
 (hop:oi.op= .call { callee:= .value (.func f),args:=ps,argTypes:=ts }:=by with_reducible rfl) (hd:oi.dst=some N:=by rfl) (hg:oi.guard=none:=by rfl) (hname:(fn.name== "runtime.NumGoroutine")=false:=by kernel_rfl) (hb:fn.body.isSome=true:=by rfl)
 (hargs:ps.map a.eval=args:=by(try simp only[List.map_toArray,List.map_cons,List.map_nil]);first|done|rfl|(simp only[List.length_drop,List.length_take];rfl)):wpList P ops Q (oi::rest) a w:=goesL_ (some N) hd hg hf hname hb args hop hargs h
end
section
variable {w : World} {g : Nat} {t : TypeId} {a b c d e : Value}
theorem zc2(h:w.heap[g]?=some (.cells #[a,b] t (0,0))):w.cell? ⟨g,0,none⟩=some a/\w.cell? ⟨g,1,none⟩=some b/\w.frozen? ⟨g,0,none⟩=false/\w.frozen? ⟨g,1,none⟩=false:=
 ⟨(qV h 0).trans rfl,(qV h 1).trans rfl,blk_frozen h 0,blk_frozen h 1⟩
theorem zc3(h:w.heap[g]?=some (.cells #[a,b,c] t (0,0))):w.cell? ⟨g,0,none⟩=some a/\w.cell? ⟨g,1,none⟩=some b/\w.cell? ⟨g,2,none⟩=some c/\w.frozen? ⟨g,0,none⟩=false/\w.frozen? ⟨g,1,none⟩=false/\w.frozen? ⟨g,2,none⟩=false:=
 ⟨(qV h 0).trans rfl,(qV h 1).trans rfl,(qV h 2).trans rfl,blk_frozen h 0,blk_frozen h 1,blk_frozen h 2⟩
theorem zc4(h:w.heap[g]?=some (.cells #[a,b,c,d] t (0,0))):w.cell? ⟨g,0,none⟩=some a/\w.cell? ⟨g,1,none⟩=some b/\w.cell? ⟨g,2,none⟩=some c/\w.cell? ⟨g,3,none⟩=some d/\w.frozen? ⟨g,0,none⟩=false/\w.frozen? ⟨g,1,none⟩=false/\w.frozen? ⟨g,2,none⟩=false/\w.frozen? ⟨g,3,none⟩=false:=
 ⟨(qV h 0).trans rfl,(qV h 1).trans rfl,(qV h 2).trans rfl,(qV h 3).trans rfl,blk_frozen h 0,blk_frozen h 1,blk_frozen h 2,blk_frozen h 3⟩
theorem zc5(h:w.heap[g]?=some (.cells #[a,b,c,d,e] t (0,0))):w.cell? ⟨g,0,none⟩=some a/\w.cell? ⟨g,1,none⟩=some b/\w.cell? ⟨g,2,none⟩=some c/\w.cell? ⟨g,3,none⟩=some d/\w.cell? ⟨g,4,none⟩=some e/\w.frozen? ⟨g,0,none⟩=false/\w.frozen? ⟨g,1,none⟩=false/\w.frozen? ⟨g,2,none⟩=false/\w.frozen? ⟨g,3,none⟩=false/\w.frozen? ⟨g,4,none⟩=false:=
 ⟨(qV h 0).trans rfl,(qV h 1).trans rfl,(qV h 2).trans rfl,(qV h 3).trans rfl,(qV h 4).trans rfl,blk_frozen h 0,blk_frozen h 1,blk_frozen h 2,blk_frozen h 3,blk_frozen h 4⟩
theorem zx{v:Value}{cs:Array Value}(i:Nat)(h:w.heap[g]?=some (.cells cs t (0,0)))(e:cs[i]?=some v):∀W,Below w.heap.size w W->W.cell? ⟨g,i,none⟩=some v:=qL ((qV h i).trans e)
theorem zx2(h:w.heap[g]?=some (.cells #[a,b] t (0,0))):(∀W,Below w.heap.size w W->W.cell? ⟨g,0,none⟩=some a)/\(∀W,Below w.heap.size w W->W.cell? ⟨g,1,none⟩=some b):=⟨zx 0 h rfl,zx 1 h rfl⟩
theorem zx3(h:w.heap[g]?=some (.cells #[a,b,c] t (0,0))):(∀W,Below w.heap.size w W->W.cell? ⟨g,0,none⟩=some a)/\(∀W,Below w.heap.size w W->W.cell? ⟨g,1,none⟩=some b)/\(∀W,Below w.heap.size w W->W.cell? ⟨g,2,none⟩=some c):=⟨zx 0 h rfl,zx 1 h rfl,zx 2 h rfl⟩
theorem zx4(h:w.heap[g]?=some (.cells #[a,b,c,d] t (0,0))):(∀W,Below w.heap.size w W->W.cell? ⟨g,0,none⟩=some a)/\(∀W,Below w.heap.size w W->W.cell? ⟨g,1,none⟩=some b)/\(∀W,Below w.heap.size w W->W.cell? ⟨g,2,none⟩=some c)/\(∀W,Below w.heap.size w W->W.cell? ⟨g,3,none⟩=some d):=⟨zx 0 h rfl,zx 1 h rfl,zx 2 h rfl,zx 3 h rfl⟩
theorem zx5(h:w.heap[g]?=some (.cells #[a,b,c,d,e] t (0,0))):(∀W,Below w.heap.size w W->W.cell? ⟨g,0,none⟩=some a)/\(∀W,Below w.heap.size w W->W.cell? ⟨g,1,none⟩=some b)/\(∀W,Below w.heap.size w W->W.cell? ⟨g,2,none⟩=some c)/\(∀W,Below w.heap.size w W->W.cell? ⟨g,3,none⟩=some d)/\(∀W,Below w.heap.size w W->W.cell? ⟨g,4,none⟩=some e):=⟨zx 0 h rfl,zx 1 h rfl,zx 2 h rfl,zx 3 h rfl,zx 4 h rfl⟩
theorem zy4(h:w.heap[g]?=some (.cells #[a,b,c,d] t (0,0))):w.cell? ⟨g,0,none⟩=some a/\w.cell? ⟨g,1,none⟩=some b/\w.cell? ⟨g,2,none⟩=some c/\w.cell? ⟨g,3,none⟩=some d:=⟨(qV h 0).trans rfl,(qV h 1).trans rfl,(qV h 2).trans rfl,(qV h 3).trans rfl⟩
theorem zy5(h:w.heap[g]?=some (.cells #[a,b,c,d,e] t (0,0))):w.cell? ⟨g,0,none⟩=some a/\w.cell? ⟨g,1,none⟩=some b/\w.cell? ⟨g,2,none⟩=some c/\w.cell? ⟨g,3,none⟩=some d/\w.cell? ⟨g,4,none⟩=some e:=⟨(qV h 0).trans rfl,(qV h 1).trans rfl,(qV h 2).trans rfl,(qV h 3).trans rfl,(qV h 4).trans rfl⟩
end
def bm(n x:Nat):Array Bool:=((List.range n).map x.testBit).toArray
def bp(m k:Nat):Array Bool:=(List.replicate m true++List.replicate k false).toArray
section
variable {P : Program} {ops : Array Oper} {Q : Exit -> Act -> World -> Prop} {md : Region.Mode} {S : World -> Prop} {ds : List Nat} {T : Bool × List (List Nat × List Nat)} {oi : Oper} {v : Value} {fuel : Nat} {l : Array Bool} {a : Act} {w : World}
theorem zp(i N:Nat)(l':Array Bool){a':Act}(h:vC P md ops Q S ds fuel l' a' w)(hT:rtab md ops=T:=by exact HT_.out)(hi:ops[i]?=some oi:=by rfl)(hN:oi.dst=some N:=by rfl)(hc:anyT T l.toList l'.toList i=true:=by kernel_rfl)
 (hQ:∀c a w,Q (.panic c) (a.put oi.dst v) w->Q (.panic c) a w:=by exact fun _ _ _ h=>h) (hy:Yields P ops oi v a:=by refine Or.inl ⟨by rfl,?_⟩;intro w';go_simp;with_reducible rfl)
 (ha:a.put (some N) v=a':=by simp only[Act.put,List.setIfInBounds_toArray,List.set_cons_zero,List.set_cons_succ,i64_w,i32_w];rfl):vC P md ops Q S ds (fuel+1) l a w:=
 pure_ l' hi hN (any_of hT hc) hQ hy ha h
theorem zu(i N:Nat)(l':Array Bool){a':Act}(h:vC P md ops Q S ds fuel l' a' w)(hT:rtab md ops=T:=by exact HT_.out)(hi:ops[i]?=some oi:=by rfl)(hN:oi.dst=some N:=by rfl)(hc:anyT T l.toList l'.toList i=true:=by kernel_rfl)
 (hQ:∀c a w,Q (.panic c) (a.put oi.dst undef) w->Q (.panic c) a w:=by exact fun _ _ _ h=>h) (hy:Yields P ops oi undef a:=by exact Or.inr ⟨by rfl,rfl⟩)
 (ha:a.put (some N) undef=a':=by simp only[Act.put,List.setIfInBounds_toArray,List.set_cons_zero,List.set_cons_succ,i64_w,i32_w];rfl):vC P md ops Q S ds (fuel+1) l a w:=
 pure_ l' hi hN (any_of hT hc) hQ hy ha h
theorem zn(N:Nat){a':Act}(h:vC P md ops Q S ds fuel l a' w)(ha:a.put (some N) v=a':=by simp only[Act.put,List.setIfInBounds_toArray,List.set_cons_zero,List.set_cons_succ,i64_w,i32_w];rfl):vC P md ops Q S ds fuel l (a.put (some N) v) w:=norm_ ha h
theorem zo(i N:Nat)(l':Array Bool)(h:∀K:Act->World->Prop,Shut (∀a' w',S w'->(S w'->vC P md ops Q S ds fuel l' a' w')->K a' w')->if Region.wanted oi (yielded ops a.tmps)=true then Oper.wp P oi a w K Q else K (a.put (some N) undef) w)
 (hT:rtab md ops=T:=by exact HT_.out) (hi:ops[i]?=some oi:=by rfl) (hN:oi.dst=some N:=by rfl) (hc:(readyT T.2 l.toList==[i] && l.toList.set i true==l'.toList)=true:=by kernel_rfl) (hd:i ∉ ds:=by decide):vC P md ops Q S ds (fuel+1) l a w:=
 one_ l' hi hN (one_of hT hc) hd h
theorem zt{B:List Nat}(i N:Nat)(l':Array Bool){a':Act}(h:vC P md ops Q S ds fuel l' a' w)(hT:rtab md ops=T:=by exact HT_.out)(hW:waitsOk T.2 B=true:=by exact HW_.out)(hi:ops[i]?=some oi:=by rfl)(hN:oi.dst=some N:=by rfl)(hc:takeW T B ds l.toList l'.toList i=true:=by kernel_rfl)
 (hQ:∀c a w,Q (.panic c) (a.put oi.dst v) w->Q (.panic c) a w:=by exact fun _ _ _ h=>h) (hy:YieldsIf P ops S oi v a:=by refine Or.inl ⟨by rfl,?_⟩;intro w' hs_;(repeat(obtain⟨_,hs_⟩:=hs_));go_simp;with_reducible rfl) (hS:S w:=by exact hHeld)
 (ha:a.put (some N) v=a':=by simp only[Act.put,List.setIfInBounds_toArray,List.set_cons_zero,List.set_cons_succ,i64_w,i32_w];rfl):vC P md ops Q S ds (fuel+1) l a w:=
 take_ l' hi hN (take_ofW hT hW hc) hQ hy hS ha h
theorem zh{N:Option Tmp}{K:Act->World->Prop}{f:FuncId}{fn:Func}{ps:Array Operand}{ts:Array TypeId}(hf:P.funcs[f]?=some fn)(args:Array Value)(h:Calls P f args w fun e w'=>∃v,e= .returned v/\K (a.put N v) w')
 (hname:(fn.name== "runtime.NumGoroutine")=false:=by kernel_rfl) (hb:fn.body.isSome=true:=by rfl) (hw:Region.wanted oi (yielded ops a.tmps)=true:=by rfl) (hN:oi.dst=N:=by rfl) (hop:oi.op= .call { callee:= .value (.func f),args:=ps,argTypes:=ts }:=by rfl)
 (hargs:ps.map a.eval=args:=by(try simp only[List.map_toArray,List.map_cons,List.map_nil]);first|done|rfl|(simp only[List.length_drop,List.length_take];rfl)):if Region.wanted oi (yielded ops a.tmps)=true then Oper.wp P oi a w K Q else K (a.put N undef) w:=
 goes_ hf hname hb args hw hN hop hargs h
end
section
variable {α : Type} {c : Prop} [Decidable c] {a b : Option α} {r : α} {P : Prop}
theorem yA(h:(if c then a else none)=some r):c/\a=some r:=by
 by_cases q:c
 ·rw[if_pos q] at h;exact⟨q,h⟩
 ·rw[if_neg q] at h;cases h
theorem yAD(h:(if c then a else none)=some r):decide c=true/\a=some r:=⟨decide_eq_true (yA h).1,(yA h).2⟩
theorem yC(h:(if c then a else b)=some r)(p:c->a=some r->P)(n:¬c->b=some r->P):P:=by
 by_cases q:c
 ·rw[if_pos q] at h;exact p q h
 ·rw[if_neg q] at h;exact n q h
theorem yCn(h:(if c then a else b)=some r)(n:¬c->b=some r->P)(p:c->a=some r->P):P:=yC h p n
theorem yD(h:(if c then a else b)=some r)(p:decide c=true->a=some r->P)(n:decide c=false->b=some r->P):P:=yC h (fun q=>p (decide_eq_true q)) (fun q=>n (decide_eq_false q))
theorem yDn(h:(if c then a else b)=some r)(n:decide c=false->b=some r->P)(p:decide c=true->a=some r->P):P:=yD h p n
end
section
variable {α : Type} {a b : Option α} {r : α} {P : Prop} {x y : Int}
theorem yG(h:(if x>y then a else b)=some r)(p:decide (y<x)=true->a=some r->P)(n:decide (y<x)=false->b=some r->P):P:=yC h (fun q=>p (zgt q)) (fun q=>n (zgtn q))
theorem yGn(h:(if x>y then a else b)=some r)(n:decide (y<x)=false->b=some r->P)(p:decide (y<x)=true->a=some r->P):P:=yG h p n
theorem yE(h:(if x>=y then a else b)=some r)(p:decide (y<=x)=true->a=some r->P)(n:decide (y<=x)=false->b=some r->P):P:=yC h (fun q=>p (zge q)) (fun q=>n (zgen q))
theorem yEn(h:(if x>=y then a else b)=some r)(n:decide (y<=x)=false->b=some r->P)(p:decide (y<=x)=true->a=some r->P):P:=yE h p n
theorem yT{t:Bool}(h:(if t=true then a else b)=some r)(p:t=true->a=some r->P)(n:t=false->b=some r->P):P:=yC h p (fun q=>n (Bool.eq_false_iff.mpr q))
theorem yF{t:Bool}(h:(if t=true then a else b)=some r)(n:t=false->b=some r->P)(p:t=true->a=some r->P):P:=yT h p n
theorem yf{β:Type}{x:Option β}{f:β->Option α}(h:x.bind f=some r):∃a,qB (x=some a)/\f a=some r:=(Option.bind_eq_some_iff.mp h).imp fun _ q=>⟨⟨q.1⟩,q.2⟩
theorem yR{P:Prop}(h:P:=by go_wp2_with(fail);go_ret;exact⟨ze,zv HW.out HB⟩):P:=h
end
theorem yP{P Q:Prop}(q:Q)(f:Q->P:=by intro q;(repeat(first|(with_reducible exact q)|(with_reducible refine blk_drewN ?_ _)|(with_reducible refine blk_drew ?_)|(with_reducible refine blk_alloc ?_ _)|(with_reducible apply blk_put)|(with_reducible apply blk_far)));all_goals first|rfl|(simp only[List.setIfInBounds_toArray,List.set_cons_zero,List.set_cons_succ];done)|exact qB.out (by assumption)):P:=f q
theorem yS{P Q:Prop}(q:Q)(f:Q->P:=by intro q;(with_reducible repeat(first|apply Kd.S_alloc|apply Kd.S_drewN|apply Kd.S_drew));apply Kd.S_mono (hok:=fun _ _=>trivial);(repeat(first|(with_reducible exact q)|(with_reducible apply Kd.S_far)));all_goals exact fun _ hk=>hk.2):P:=f q
theorem yV{P Q:Prop}(q:Q)(f:Q->P:=by intro q;(with_reducible repeat(first|apply Kd.vE|apply Kd.vD|apply Kd.qZ));apply Kd.qM (hok:=fun _ _=>trivial);(repeat(first|(with_reducible exact q)|(with_reducible apply Kd.qX)));all_goals exact fun _ hk=>hk.2):P:=f q
theorem yt(p:Prop)[Decidable p](h:decide p=true:=by first|(with_reducible assumption)|assumption):p=True:=eq_true (of_decide_eq_true h)
theorem yB(w:World):qB (Below w.heap.size w w):=⟨Below.refl _ _⟩
theorem yD0{P:Prop}(h:P:=by repeat(first|exact vB.refl _|apply vB.step)):P:=h
theorem yr{P:Prop}(h:P:=by go_wp2;go_ret;exact⟨zr,yD0⟩):P:=h
theorem yQ{P:Prop}(h:P:=by(repeat(first|go_big_quiet_skip|(go_big_quiet_want;go_big_quiet_op;first|go_big_quiet_on|(refine zE ?_;go_big_quiet_on))));clear HB;refine zW fun wq (HB:Below _ _ _)=>?_;exact yR):P:=h
theorem yN{α β:Type}{X:α}{B:α->Option β}{r:β}(h:(some X).bind B=some r):∃y,qB (y=X)/\B y=some r:=⟨X,⟨rfl⟩,h⟩
theorem yN0{P Q:Prop}{α:Type}{a b:α}(e:a=b)(h:Q)(f:a=b->Q->P:=by intro e_ h_;first|(rw[e_];with_reducible exact h_)|(have H2_:=(Option.bind_some _ _).symm.trans h_;rw[e_];with_reducible exact H2_)|(have H2_:=(Option.bind_some _ _).symm.trans h_;with_reducible exact H2_)|with_reducible exact h_|(rw[e_];exact h_)|exact h_):P:=f e h
theorem yK{P:Prop}(h:P:=by repeat(first|(with_reducible first|exact HK.out|apply Kept.alloc|apply Kept.drewN|apply Kept.drew)|exact HK.out)):P:=h
theorem yk_{w W:World}{S:Nat->Prop}(h:Kept w W S):w.heap.size<=W.heap.size:=h.1
theorem yK1{P:Prop}(h:P:=by first|exact HK.out.1|(apply yk_;repeat(first|(with_reducible first|exact HK.out|apply Kept.alloc|apply Kept.drewN|apply Kept.drew)|exact HK.out))):P:=h
theorem yW{P:Prop}(h:P:=by clear HB;refine zW fun wq (HB:Below _ _ _)=>?_;exact yR):P:=h
section
variable {P : Program} {ops : Array Oper} {Q : Exit -> Act -> World -> Prop} {rest : List Oper} {o : Oper} {a : Act} {W : World}
theorem yL{α:Type}(d:Kd α)(e:Nat)(N:Tmp)(h:∀v1 w1,d.R e w1 W.heap.size (fun _=>True) v1 ([]:List α)->Below W.heap.size W w1->W.grownBy w1 none->(∃b,v1.ownBlock=some b/\W.heap.size<=b)->wpList P ops Q rest (a.put o.dst v1) w1)
 (hN:o.dst=some N:=by with_reducible rfl) (hd:o.dst=some N:=by rfl) (hg:o.guard=none:=by rfl) (hr:(execOp a.eval o).run P W= .ok (.value (.slice (some ⟨W.heap.size,0,none⟩) ([]:List α).length ([]:List α).length)) (W.alloc (.cells ([]:List Value).toArray e)):=by first|(go_simp;done)|(go_simp;rfl)):wpList P ops Q (o::rest) a W:=
 Kd.R_lit d W.heap.size e hg (N:=N) hd (xs:=[]) (inner:=[]) (ok:=fun _=>True) (okp:=fun _=>True) hr (Reps.none _ _) (fun _ hk=>hk) trivial (Below.refl _ _) (Nat.le_refl _) (by simp) h
theorem ye(t:TypeId)(p:Tmp)(w1:World){v:Operand}(h:∀w',w'=w1->wpList P ops Q rest a w')(ho:o.op= .store t (.tmp p) v:=by rfl)(hg:o.guard=none:=by rfl)(hn:o.dst=none:=by rfl)(hr:(execOp a.eval o).run P W= .ok .skip w1:=by first|(go_simp;done)|(go_simp;rfl)):wpList P ops Q (o::rest) a W:=store_event hg ho hn hr h
end
theorem zU{α:Type}{p:World->α->Prop}{C:World->Prop}{q:α->Prop}{v:α}(h1:∀W,C W->p W v)(h2:q v):∃v,(∀W,C W->p W v)/\q v:=⟨v,h1,h2⟩
section
variable {p q r s t : Prop}
theorem yM1(a:qB p)(h:p->t:=by intros;omega):t:=h a.out
theorem yM2(a:qB p)(b:qB q)(h:p->q->t:=by intros;omega):t:=h a.out b.out
theorem yM3(a:qB p)(b:qB q)(c:qB r)(h:p->q->r->t:=by intros;omega):t:=h a.out b.out c.out
theorem yM4(a:qB p)(b:qB q)(c:qB r)(d:qB s)(h:p->q->r->s->t:=by intros;omega):t:=h a.out b.out c.out d.out
end
theorem yo_{P:Prop}(h:P:=by omega):P:=h
theorem yd_{P:Prop}(h:P:=by decide):P:=h
end Go.Proofs.YtgccknmddhbdgaaGreatDoor.Q
