/- Proved: at every run the law FnExactPlanCollect returns true (impl.PlanCollect answers as spec.PlanCollect does, leaves its argument as it was, and its answer owns its memory), under no condition but the card's own: the variables that the row lists read as the program's text lays them. -/
import Derived.Test.YtmdoobnlehkmpaaGreatDoorC24
import Derived.Test.YtmdoobnlehkmpaaGreatDoorC26
import Derived.Test.YtmdoobnlehkmpaaGreatDoorC30
import Derived.Lib.SmallJoins
import Derived.SizedLaws
import Derived.Test.YtmdoobnlehkmpaaGreatDoorCards
import Derived.Test.YtmdoobnlehkmpaaGreatDoorTie
import Derived.ProofKit
import Derived.OpenShut
import Derived.Lay
import Derived.LaidOnce
import Derived.SevenTiedAt
import Derived.Handed
import Derived.Shelf.Vars
namespace Go.Proofs.YtmdoobnlehkmpaaGreatDoor.Q
open Go.RowKit W1 W2 W3
namespace P
def fnd(st:List Item)(u:ByteArray):Nat->Nat->Int
 |0,_=> -1
 |d+1,i=>if(rdI st i).f0.toList=u.toList then i else fnd st u d (i+1)
theorem fnd_at(st:List Item)(u:ByteArray):∀d i:Nat,st.length=i+d->fnd st u d i<0\/∃j:Nat,fnd st u d i=j/\j<st.length/\(rdI st j).f0.toList=u.toList
 |0,i,h=> .inl (show(-1:Int)<0 by decide)
 |d+1,i,h=>by
  unfold fnd;split
  ·rename_i e
   exact .inr ⟨i,rfl,by omega,e⟩
  ·exact fnd_at st u d (i+1) yo_
theorem eFndI(st:List Item)(u:ByteArray)(hs:st.length<=1048576):∀d i:Nat,st.length=i+d->Ev (fun k=>impl_itemOf.l0 k u st (st.length:Int) (i:Int)) (fnd st u d i)
 |0,i,h=>by
  refine Ev.step (fun k=>by rw[impl_itemOf.l0]) ?_;simp only[if_neg (show¬(i:Int)<st.length by omega)];exact Ev.now _
 |d+1,i,h=>by
  refine Ev.step (fun k=>by rw[impl_itemOf.l0]) ?_;simp only[if_pos (show(i:Int)<st.length by omega),if_pos (show(0:Int)<=i by omega),fnd];by_cases he:(rdI st i).f0.toList=u.toList
  ·simp only[if_pos he];exact Ev.now _
  ·simp only[if_neg he];rw[w64n yo_];exact eFndI st u hs d (i+1) yo_
theorem eFndS(st:List Item)(u:ByteArray)(hs:st.length<=1048576):∀d i:Nat,st.length=i+d->Ev (fun k=>spec_l12Find.l0 k st u (i:Int)) (fnd st u d i)
 |0,i,h=>by
  refine Ev.step (fun k=>by rw[spec_l12Find.l0]) ?_;simp only[if_neg (show¬(i:Int)<st.length by omega)];exact Ev.now _
 |d+1,i,h=>by
  refine Ev.step (fun k=>by rw[spec_l12Find.l0]) ?_;simp only[if_pos (show(i:Int)<st.length by omega),if_pos (show(0:Int)<=i by omega),fnd];by_cases he:(rdI st i).f0.toList=u.toList
  ·simp only[if_pos he];exact Ev.now _
  ·simp only[if_neg he];rw[w64n yo_];exact eFndS st u hs d (i+1) yo_
theorem eHas(l:List ByteArray)(u:ByteArray)(hl:l.length<=1048576):∀d i:Nat,l.length=i+d->Ev (fun k=>spec_l3Has.l0 k l u (i:Int)) (MapSet.has u (l.drop i))
 |0,i,h=>by
  refine Ev.step (fun k=>by rw[spec_l3Has.l0]) ?_;rw[List.drop_of_length_le yo_];simp only[if_neg (show¬(i:Int)<l.length by omega)];exact Ev.now _
 |d+1,i,h=>by
  have hi:i<l.length:=by omega
  have hr:=rdT_at l i hi;refine Ev.step (fun k=>by rw[spec_l3Has.l0]) ?_;simp only[if_pos (show(i:Int)<l.length by omega),if_pos (show(0:Int)<=i by omega)];rw[List.drop_eq_getElem_cons hi];by_cases he:(rdT l i).toList=u.toList
  ·have e:u=l[i]:=by
    rw[<-hr];exact MapSet.inj (by rw[<-ByteArray.toList_eq,<-ByteArray.toList_eq,he])
   refine Ev.congr (fun k=>if_pos he) ?_;rw[(has_iff u (l[i]::l.drop (i+1))).2 (by rw[e];exact List.mem_cons_self ..)];exact Ev.now _
  ·refine Ev.congr (fun k=>if_neg he) ?_;rw[w64n yo_];have e:u≠l[i]:=fun e=>he (by rw[hr,e]);have e2:MapSet.has u (l[i]::l.drop (i+1))=MapSet.has u (l.drop (i+1)):=by
    rw[Bool.eq_iff_iff,has_iff,has_iff,List.mem_cons];exact⟨fun h=>h.resolve_left e,.inr⟩
   rw[e2];exact eHas l u hl d (i+1) yo_
def rem(g:Item->Nat)(S:List ByteArray):List Item->Nat
 |[]=>0
 |x::st=>(if MapSet.has x.f0 S=true then 0 else g x)+rem g S st
theorem rem_mono(g:Item->Nat)(S:List ByteArray)(u:ByteArray):∀st,rem g (u::S) st<=rem g S st
 |[]=>Nat.le_refl _
 |x::st=>by
  have:=rem_mono g S u st;unfold rem;by_cases h:MapSet.has x.f0 S=true
  ·rw[if_pos h,if_pos ((has_iff _ _).2 (List.mem_cons_of_mem _ ((has_iff _ _).1 h)))];omega
  ·rw[if_neg h];split<;>omega
theorem rem_add(g:Item->Nat)(S:List ByteArray)(u:ByteArray)(hu:u ∉ S):∀st x,x ∈ st->x.f0=u->rem g (u::S) st+g x<=rem g S st
 |y::st,x,hx,e=>by
  have h1:=rem_mono g S u st;unfold rem;rcases List.mem_cons.1 hx with rfl|hx
  ·rw[if_neg (fun h=>hu (e ▸ (has_iff _ _).1 h)),if_pos ((has_iff _ _).2 (by rw[e];exact List.mem_cons_self ..))];omega
  ·have:=rem_add g S u hu st x hx e;by_cases h:MapSet.has y.f0 S=true
   ·rw[if_pos h,if_pos ((has_iff _ _).2 (List.mem_cons_of_mem _ ((has_iff _ _).1 h)))];omega
   ·rw[if_neg h];split<;>omega
theorem rem_le(g:Item->Nat)(B:Nat)(S:List ByteArray):∀st,(∀x ∈ st,g x<=B)->rem g S st<=st.length*B
 |[],_=>Nat.zero_le _
 |x::st,h=>by
  have h1:=rem_le g B S st (fun y hy=>h y (List.mem_cons_of_mem _ hy));have h2:=h x (List.mem_cons_self ..);unfold rem;rw[List.length_cons,Nat.succ_mul];split<;>omega
abbrev gr(x:Item):Nat:=x.f2.length+1
abbrev F0(st:List Item)(u:ByteArray):Int:=fnd st u st.length 0
inductive Rch (st:List Item) (t:List ByteArray):ByteArray->Prop
 |base (u:ByteArray):u ∈ t->0<=F0 st u->Rch st t u
 |step (v u:ByteArray):Rch st t v->u ∈ (rdI st (F0 st v)).f2->0<=F0 st u->Rch st t u
theorem Rch.mono{st:List Item}{t t':List ByteArray}(h:∀u ∈ t,0<=F0 st u->Rch st t' u){u:ByteArray}(hu:Rch st t u):Rch st t' u:=by
 induction hu with
 |base u hm h0=>exact h u hm h0
 |step v u _ hm h0 ih=>exact Rch.step v u ih hm h0
def Cl(st:List Item)(S t S':List ByteArray):Prop:=
 (∀u ∈ S',u ∈ S\/Rch st t u)/\(∀u ∈ S,u ∈ S')/\(∀u ∈ t,0<=F0 st u->u ∈ S')/\((∀v ∈ S,∀u ∈ (rdI st (F0 st v)).f2,0<=F0 st u->u ∈ S\/u ∈ t)->∀v ∈ S',∀u ∈ (rdI st (F0 st v)).f2,0<=F0 st u->u ∈ S')
theorem Cl.nil(st:List Item)(S:List ByteArray):Cl st S [] S:=
 ⟨fun u h=> .inl h,fun u h=>h,(fun u h=>by cases h),fun h v hv u hu h0=>(h v hv u hu h0).resolve_right (by simp)⟩
theorem Cl.skip{st:List Item}{S t S':List ByteArray}{p:ByteArray}(hp:F0 st p<0\/p ∈ S)(h:Cl st S t S'):Cl st S (t++[p]) S':=by
 obtain⟨h1,h2,h3,h4⟩:=h;refine⟨fun u hu=>(h1 u hu).imp id (fun r=>r.mono (fun u hm h0=> .base u (List.mem_append_left _ hm) h0)),h2,fun u hu h0=>?_,fun hc=>h4 (fun v hv u hu h0=>?_)⟩
 ·rcases List.mem_append.1 hu with hu|hu
  ·exact h3 u hu h0
  ·obtain rfl:=List.mem_singleton.1 hu;rcases hp with hp|hp
   ·omega
   ·exact h2 _ hp
 ·rcases hc v hv u hu h0 with h|h
  ·exact .inl h
  ·rcases List.mem_append.1 h with h|h
   ·exact .inr h
   ·obtain rfl:=List.mem_singleton.1 h;rcases hp with hp|hp
    ·omega
    ·exact .inl hp
theorem Cl.add{st:List Item}{S t S':List ByteArray}{p:ByteArray}(hp:0<=F0 st p)(h:Cl st (p::S) (t++(rdI st (F0 st p)).f2) S'):Cl st S (t++[p]) S':=by
 obtain⟨h1,h2,h3,h4⟩:=h;have hb:Rch st (t++[p]) p:= .base p (List.mem_append_right _ (List.mem_singleton.2 rfl)) hp;refine⟨fun u hu=>?_,fun u hu=>h2 u (List.mem_cons_of_mem _ hu),fun u hu h0=>?_,fun hc=>h4 (fun v hv u hu h0=>?_)⟩
 ·rcases h1 u hu with h|h
  ·rcases List.mem_cons.1 h with rfl|h
   ·exact .inr hb
   ·exact .inl h
  ·refine .inr (h.mono (fun u hm h0=>?_));rcases List.mem_append.1 hm with hm|hm
   ·exact .base u (List.mem_append_left _ hm) h0
   ·exact .step p u hb hm h0
 ·rcases List.mem_append.1 hu with hu|hu
  ·exact h3 u (List.mem_append_left _ hu) h0
  ·obtain rfl:=List.mem_singleton.1 hu;exact h2 _ (List.mem_cons_self ..)
 ·rcases List.mem_cons.1 hv with rfl|hv
  ·exact .inr (List.mem_append_right _ hu)
  ·rcases hc v hv u hu h0 with h|h
   ·exact .inl (List.mem_cons_of_mem _ h)
   ·rcases List.mem_append.1 h with h|h
    ·exact .inr (List.mem_append_left _ h)
    ·obtain rfl:=List.mem_singleton.1 h;exact .inl (List.mem_cons_self ..)
theorem Cl.iff{st:List Item}{t S':List ByteArray}(h:Cl st [] t S')(u:ByteArray):u ∈ S'↔Rch st t u:=by
 obtain⟨h1,_,h3,h4⟩:=h;refine⟨fun hu=>(h1 u hu).resolve_left (by simp),fun hr=>?_⟩;have hc:=h4 (fun v hv=>by cases hv);induction hr with
 |base u hm h0=>exact h3 u hm h0
 |step v u _ hm h0 ih=>exact hc v ih u hm h0
theorem Rch.same{st:List Item}{t t':List ByteArray}(h:∀u,u ∈ t↔u ∈ t')(u:ByteArray):Rch st t u↔Rch st t' u:=
 ⟨fun r=>r.mono (fun u hm h0=> .base u ((h u).1 hm) h0),fun r=>r.mono (fun u hm h0=> .base u ((h u).2 hm) h0)⟩
theorem last_take(t:List ByteArray)(n:Nat)(h:t.length=n+1):t=t.take n++[rdT t n]:=by
 have hn:n<t.length:=by omega
 rw[rdT_at t n hn];have:=List.take_append_getElem (l:=t) (i:=n) hn;rw[<-h,List.take_length] at this;exact this.symm
theorem eClos(st:List Item)(hs:st.length<=300)(hr:∀x ∈ st,x.f2.length<=1048576)(hz:∀x ∈ st,x.f0.size<=1048576):∀(m:Nat) (S t:List ByteArray),rem gr S st+t.length<=m->m<=1000000000->S.Nodup->S.length+rem (fun _=>1) S st<=st.length->(∀x ∈ S,x.size<=1048576)->
 ∃S':List ByteArray,Ev (fun k=>impl_closure.l0 k st S t) S'/\Ev (fun k=>spec_l12Closure.l0 k st ((sortL S).map mk) t) (impl_sorted.out S')/\S'.length<=300/\(∀x ∈ S',x.size<=1048576)/\Cl st S t S':=by
 intro m;induction m with
 |zero=>
  intro S t hm hM hn hc hS;obtain rfl:t=[]:=List.length_eq_zero_iff.1 yo_;refine⟨S,Ev.step (fun k=>by rw[impl_closure.l0]) ?_,Ev.step (fun k=>by rw[spec_l12Closure.l0]) ?_,by omega,hS,Cl.nil st S⟩
  ·exact Ev.now _
  ·rw[out_eq S S hn (fun _=>Iff.rfl)];exact Ev.now _
 |succ m ih=>
  intro S t hm hM hn hc hS;rcases Nat.eq_zero_or_pos t.length with h0|h0
  ·obtain rfl:t=[]:=List.length_eq_zero_iff.1 h0;refine⟨S,Ev.step (fun k=>by rw[impl_closure.l0]) ?_,Ev.step (fun k=>by rw[spec_l12Closure.l0]) ?_,by omega,hS,Cl.nil st S⟩
   ·exact Ev.now _
   ·rw[out_eq S S hn (fun _=>Iff.rfl)];exact Ev.now _
  obtain⟨n,hn1⟩:∃n,t.length=n+1:=⟨t.length - 1,by omega⟩
  have ew:wrap64 ((t.length:Int) - 1)=(n:Int):=by rw[wrap64_small yo_ yo_];omega
  have hpos:(t.length:Int)>0:=by omega
  have hk:=eFndI st (rdT t n) yo_ st.length 0 yo_;have hk':=eFndS st (rdT t n) yo_ st.length 0 yo_;have hlt:(t.take n).length=n:=by rw[List.length_take];omega
  suffices H:∃S':List ByteArray,Ev (fun k=>(impl_itemOf.f k st (rdT t n)).bind fun i=>if i<0 then impl_closure.l0 k st S (t.take n) else((MapB.get S (rdT t n)).bind fun c=>if c=true then impl_closure.l0 k st S (t.take n) else((MapB.put S (rdT t n)).bind fun s'=>if i<(st.length:Int)/\t.length+((rdI st i).f2).length<8796093022208 then impl_closure.l0 k st s' (t.take n++(rdI st i).f2) else none))) S'/\
   Ev (fun k=>(spec_l12Find.f k st (rdT t n)).bind fun t496=>(if t496<0 then(spec_l12Closure.l0 k st ((sortL S).map mk) (t.take n)) else((spec_l3Has.f k ((sortL S).map mk) (rdT t n)).bind fun t497=>(if t497=true then(spec_l12Closure.l0 k st ((sortL S).map mk) (t.take n)) else((spec_l3Add.f k ((sortL S).map mk) (rdT t n)).bind fun t498=>(if 0<=t496 then(if t496<(st.length:Int) then(if(t.take n).length+((rdI st t496).f2).length<8796093022208 then(spec_l12Closure.l0 k st t498 (t.take n++((rdI st t496).f2))) else(none)) else(none)) else(none))))))) (impl_sorted.out S')/\S'.length<=300/\(∀x ∈ S',x.size<=1048576)/\Cl st S t S' by
   obtain⟨S',e1,e2,e3⟩:=H;refine⟨S',Ev.step (fun k=>by rw[impl_closure.l0]) ?_,Ev.step (fun k=>by rw[spec_l12Closure.l0]) ?_,e3⟩
   ·simp only[if_pos hpos,ew,if_pos (show t.length<8796093022208 by omega),Int.toNat_natCast];exact e1
   ·simp only[if_pos hpos,ew,if_pos (show(0:Int)<=n by omega),if_pos (show(n:Int)<(t.length:Int) by omega),if_pos (show(n:Int)<=(t.length:Int) by omega),Option.bind_some,Int.toNat_natCast];exact e2
  have hlast:=last_take t n hn1;rcases fnd_at st (rdT t n) st.length 0 yo_ with hf|⟨j,hj,hjl,hje⟩
  ·obtain⟨S',e1,e2,e3⟩:=ih S (t.take n) yo_ yo_ hn hc hS;refine⟨S',Ev.bind hk ?_,Ev.bind hk' ?_,e3.1,e3.2.1,by rw[hlast];exact Cl.skip (.inl hf) e3.2.2⟩
   ·simp only[if_pos hf];exact e1
   ·simp only[if_pos hf];exact e2
  rw[hj] at hk hk';have hmem:rdI st (j:Int) ∈ st:=by rw[rdI_at st j hjl];exact List.getElem_mem hjl
  have hp:rdT t n=(rdI st (j:Int)).f0:=MapSet.inj (by rw[<-ByteArray.toList_eq,<-ByteArray.toList_eq,hje]);have hps:(rdT t n).size<=1048576:=by rw[hp];exact hz _ hmem
  have hSl:S.length<=300:=by omega
  have hh:=eHas ((sortL S).map mk) (rdT t n) (by rw[List.length_map,sortL_len];omega) _ 0 (Nat.zero_add _).symm;have hiff:rdT t n ∈ (sortL S).map mk↔rdT t n ∈ S:=by
   rw[List.mem_map];constructor
   ·rintro⟨x,hx,e⟩;obtain⟨s,hs,e2⟩:=(sortL_mem S x).1 hx;have:s=rdT t n:=MapSet.inj (by rw[<-e,mk_data,e2]);exact this ▸ hs
   ·intro hx;exact⟨(rdT t n).data.toList,(sortL_mem S _).2 ⟨_,hx,rfl⟩,MapSet.inj (mk_data _)⟩
  rw[List.drop_zero] at hh;have hg:MapB.get S (rdT t n)=some (MapSet.has (rdT t n) S):=if_pos yo_;by_cases hin:rdT t n ∈ S
  ·obtain⟨S',e1,e2,e3⟩:=ih S (t.take n) yo_ yo_ hn hc hS;rw[(has_iff _ _).2 (hiff.2 hin)] at hh;refine⟨S',Ev.bind hk ?_,Ev.bind hk' ?_,e3.1,e3.2.1,by rw[hlast];exact Cl.skip (.inr hin) e3.2.2⟩
   ·simp only[if_neg (show¬(j:Int)<0 by omega),hg,Option.bind_some,if_pos ((has_iff _ _).2 hin)];exact e1
   ·simp only[if_neg (show¬(j:Int)<0 by omega)];refine Ev.bind hh ?_;simp only[if_true];exact e2
  ·have r1:=rem_add gr S (rdT t n) hin st _ hmem hp.symm;replace r1:rem gr (rdT t n::S) st+((rdI st (j:Int)).f2.length+1)<=rem gr S st:=r1;have r2:=rem_add (fun _=>1) S (rdT t n) hin st _ hmem hp.symm;have hr1:=hr _ hmem;have hfalse:MapSet.has (rdT t n) S=false:=by rw[Bool.eq_false_iff];exact fun h=>hin ((has_iff _ _).1 h)
   obtain⟨S',e1,e2,e3⟩:=ih (rdT t n::S) (t.take n++(rdI st (j:Int)).f2) (by rw[List.length_append,hlt];omega) yo_ (List.nodup_cons.2 ⟨hin,hn⟩) (by rw[List.length_cons];omega) (fun x hx=>by
    rcases List.mem_cons.1 hx with rfl|hx
    ·exact hps
    ·exact hS x hx)
   rw[show MapSet.has (rdT t n) ((sortL S).map mk)=false from Bool.eq_false_iff.2 (fun h=>hin (hiff.1 ((has_iff _ _).1 h)))] at hh;refine⟨S',Ev.bind hk ?_,Ev.bind hk' ?_,e3.1,e3.2.1,by rw[hlast];exact Cl.add (show 0<=fnd st (rdT t n) st.length 0 by omega) (by rw[show F0 st (rdT t n)=(j:Int) from hj];exact e3.2.2)⟩
   ·simp only[if_neg (show¬(j:Int)<0 by omega),hg,Option.bind_some,hfalse,Bool.false_eq_true,if_false,show MapB.put S (rdT t n)=some (rdT t n::S) from if_pos ⟨by omega,by omega⟩,if_pos (show(j:Int)<(st.length:Int)/\t.length+(rdI st (j:Int)).f2.length<8796093022208 from⟨by omega,by omega⟩)];exact e1
   ·simp only[if_neg (show¬(j:Int)<0 by omega)];refine Ev.bind hh ?_;simp only[Bool.false_eq_true,if_false];have ha:=eAddS (sortL S) (rdT t n) (by rw[sortL_len];omega) _ 0 (Nat.zero_add _).symm;rw[List.take_zero,List.drop_zero,List.nil_append,ins_sort S _ hn hin] at ha;refine Ev.bind ha ?_;simp only[if_pos (show(0:Int)<=(j:Int) by omega),if_pos (show(j:Int)<(st.length:Int) by omega),hlt,if_pos (show n+(rdI st (j:Int)).f2.length<8796093022208 by omega)];exact e2
theorem out_len(S:List ByteArray):(impl_sorted.out S).length<=S.length:=by
 unfold impl_sorted.out;rw[List.length_map,List.length_mergeSort];induction S with
 |nil=>exact Nat.le_refl _
 |cons s S ih=>
  unfold impl_sorted.dd;split
  ·exact Nat.le_succ_of_le ih
  ·exact Nat.succ_le_succ ih
theorem eIn(l:List ByteArray)(u:ByteArray)(hl:l.length<=1048576):∀d i:Nat,l.length=i+d->Ev (fun k=>impl_inList.l0 k u l (l.length:Int) (i:Int)) (MapSet.has u (l.drop i))
 |0,i,h=>by
  refine Ev.step (fun k=>by rw[impl_inList.l0]) ?_;rw[List.drop_of_length_le yo_];simp only[if_neg (show¬(i:Int)<l.length by omega)];exact Ev.now _
 |d+1,i,h=>by
  have hi:i<l.length:=by omega
  have hr:=rdT_at l i hi;refine Ev.step (fun k=>by rw[impl_inList.l0]) ?_;simp only[if_pos (show(i:Int)<l.length by omega),if_pos (show(0:Int)<=i by omega)];rw[List.drop_eq_getElem_cons hi];by_cases he:(rdT l i).toList=u.toList
  ·have e:u=l[i]:=by
    rw[<-hr];exact MapSet.inj (by rw[<-ByteArray.toList_eq,<-ByteArray.toList_eq,he])
   refine Ev.congr (fun k=>if_pos he) ?_;rw[(has_iff u (l[i]::l.drop (i+1))).2 (by rw[e];exact List.mem_cons_self ..)];exact Ev.now _
  ·refine Ev.congr (fun k=>if_neg he) ?_;rw[w64n yo_];have e:u≠l[i]:=fun e=>he (by rw[hr,e]);have e2:MapSet.has u (l[i]::l.drop (i+1))=MapSet.has u (l.drop (i+1)):=by
    rw[Bool.eq_iff_iff,has_iff,has_iff,List.mem_cons];exact⟨fun h=>h.resolve_left e,.inr⟩
   rw[e2];exact eIn l u hl d (i+1) yo_
def usd(st:List Item)(u:ByteArray):Nat->Nat->Bool
 |0,_=>false
 |d+1,i=>if(rdI st i).f0.toList=u.toList then usd st u d (i+1) else if MapSet.has u (rdI st i).f2=true then true else usd st u d (i+1)
theorem eUsdS(st:List Item)(u:ByteArray)(hs:st.length<=1048576)(hr:∀x ∈ st,x.f2.length<=1048576):∀d i:Nat,st.length=i+d->Ev (fun k=>spec_l13Used.l0 k st u (i:Int)) (usd st u d i)
 |0,i,h=>by
  refine Ev.step (fun k=>by rw[spec_l13Used.l0]) ?_;simp only[if_neg (show¬(i:Int)<st.length by omega)];exact Ev.now _
 |d+1,i,h=>by
  have hm:(rdI st (i:Int)).f2.length<=1048576:=by rw[rdI_at st i yo_];exact hr _ (List.getElem_mem _)
  have hh:=eHas (rdI st i).f2 u hm _ 0 (Nat.zero_add _).symm;rw[List.drop_zero] at hh;refine Ev.step (fun k=>by rw[spec_l13Used.l0]) ?_;simp only[if_pos (show(i:Int)<st.length by omega),if_pos (show(0:Int)<=i by omega),usd];have ih:=eUsdS st u hs hr d (i+1) yo_;by_cases he:(rdI st i).f0.toList=u.toList
  ·simp only[if_pos he];rw[w64n yo_];exact ih
  ·simp only[if_neg he];refine Ev.bind hh ?_;cases MapSet.has u (rdI st (i:Int)).f2 with
   |true=>simp only[if_true];exact Ev.now _
   |false=>
    simp only[Bool.false_eq_true,if_false];rw[w64n yo_];exact ih
theorem eUsdI(st:List Item)(u:ByteArray)(hs:st.length<=1048576)(hr:∀x ∈ st,x.f2.length<=1048576):∀d i:Nat,st.length=i+d->Ev (fun k=>impl_canCut.l0 k u st (st.length:Int) (i:Int)) (!usd st u d i)
 |0,i,h=>by
  refine Ev.step (fun k=>by rw[impl_canCut.l0]) ?_;simp only[if_neg (show¬(i:Int)<st.length by omega)];exact Ev.now _
 |d+1,i,h=>by
  have hm:(rdI st (i:Int)).f2.length<=1048576:=by rw[rdI_at st i yo_];exact hr _ (List.getElem_mem _)
  have hh:=eIn (rdI st i).f2 u hm _ 0 (Nat.zero_add _).symm;rw[List.drop_zero] at hh;refine Ev.step (fun k=>by rw[impl_canCut.l0]) ?_;simp only[if_pos (show(i:Int)<st.length by omega),if_pos (show(0:Int)<=i by omega),usd];have ih:=eUsdI st u hs hr d (i+1) yo_;by_cases he:(rdI st i).f0.toList=u.toList
  ·simp only[if_pos he];rw[w64n yo_];exact ih
  ·simp only[if_neg he];refine Ev.bind hh ?_;cases MapSet.has u (rdI st (i:Int)).f2 with
   |true=>simp only[if_true];exact Ev.now _
   |false=>
    simp only[Bool.false_eq_true,if_false];rw[w64n yo_];exact ih
theorem rdG_at'(xs:List Gen)(i:Nat)(h:i<xs.length):rdG xs (i:Int)=xs[i]:=by
 simp[qP,List.getD_eq_getElem?_getD,h]
theorem rdN_at'(xs:List Next)(i:Nat)(h:i<xs.length):rdN xs (i:Int)=xs[i]:=by
 simp[rd_T134,List.getD_eq_getElem?_getD,h]
def rootsL(ps:List Prof):List ByteArray:=ps.flatMap fun p=>p.f2.map (·.f1)
def pendL(P:List ByteArray)(qs:List Pend):List ByteArray:=qs.flatMap fun q=>q.f0::refs q.f1 P
section
variable {st : List Item} {ps : List Prof} {qs : List Pend} {ns : List Next}
theorem eRt3I(P:List ByteArray)(hP:P.length<=300)(hl:qs.length<=20)(hq:∀q ∈ qs,tSmall q.f1/\treeOk q.f1=true/\(refs q.f1 P).length<=300):∀(d i:Nat) (acc:List ByteArray),qs.length=i+d->acc.length<=100000+i*301->Ev (fun k=>impl_worldRoots.l3 k acc P qs (qs.length:Int) (i:Int)) (acc++pendL P (qs.drop i))
 |0,i,acc,h,ha=>by
  refine Ev.step (fun k=>by rw[impl_worldRoots.l3]) ?_;simp only[if_neg (show¬(i:Int)<qs.length by omega),List.drop_of_length_le (show qs.length<=i by omega),pendL,List.flatMap_nil,List.append_nil];exact Ev.now _
 |d+1,i,acc,h,ha=>by
  have hi:i<qs.length:=by omega
  have hr:=rdQ_at qs i hi;obtain⟨h1,h2,h3⟩:=hq _ (List.getElem_mem hi);rw[<-hr] at h1 h2 h3;refine Ev.step (fun k=>by rw[impl_worldRoots.l3]) ?_;simp only[if_pos (show(i:Int)<qs.length by omega),if_pos (show(0:Int)<=i by omega),if_pos (show acc.length<8796093022208 by omega),Option.bind_some];refine Ev.bind (eRefsI _ h1 h2 P yo_) ?_;rw[w64n yo_];refine Ev.congr (fun k=>if_pos (by rw[List.length_append,List.length_singleton];omega)) ?_;have:=eRt3I P hP hl hq d (i+1) ((acc++[(rdQ qs i).f0])++refs (rdQ qs i).f1 P) yo_ (by rw[List.length_append,List.length_append,List.length_singleton];omega);have e:(acc++[(rdQ qs i).f0])++refs (rdQ qs i).f1 P++pendL P (qs.drop (i+1))=acc++pendL P (qs.drop i):=by
   rw[List.drop_eq_getElem_cons hi,<-hr];simp[pendL]
  rw[e] at this;exact this
theorem eRt2I(hs:st.length<=300)(hl:qs.length<=20)(hn:ns.length<=20)(hq:∀q ∈ qs,tSmall q.f1/\treeOk q.f1=true/\(refs q.f1 (vD st)).length<=300):∀(d i:Nat) (acc:List ByteArray),ns.length=i+d->acc.length<=50000+i->Ev (fun k=>impl_worldRoots.l2 k acc ns (ns.length:Int) (i:Int) st ps qs ns) (acc++(ns.drop i).map (·.f1)++pendL (vD st) qs)
 |0,i,acc,h,ha=>by
  refine Ev.step (fun k=>by rw[impl_worldRoots.l2]) ?_;simp only[if_neg (show¬(i:Int)<ns.length by omega),List.drop_of_length_le (show ns.length<=i by omega),List.map_nil,List.append_nil];refine Ev.bind (ePathsOfI st yo_) ?_;exact eRt3I (vD st) (by simp[vD];omega) hl hq qs.length 0 acc yo_ yo_
 |d+1,i,acc,h,ha=>by
  have hi:i<ns.length:=by omega
  have hr:=rdN_at' ns i hi;refine Ev.step (fun k=>by rw[impl_worldRoots.l2]) ?_;simp only[if_pos (show(i:Int)<ns.length by omega),if_pos (show(0:Int)<=i by omega),if_pos (show acc.length<8796093022208 by omega)];rw[w64n yo_];have:=eRt2I hs hl hn hq d (i+1) (acc++[(rdN ns i).f1]) yo_ (by rw[List.length_append,List.length_singleton];omega);rw[List.drop_eq_getElem_cons hi,List.map_cons,<-hr];rw[List.append_assoc acc] at this;exact this
theorem eRt1I(i:Nat)(gs:List Gen)(hg:gs.length<=50)(r:List ByteArray):∀(d j:Nat) (acc:List ByteArray),gs.length=j+d->acc.length<=10000+j->Ev (fun k=>impl_worldRoots.l0 k (acc++(gs.drop j).map (·.f1)) ps (ps.length:Int) (wrap64 ((i:Int)+1)) st ps qs ns) r->
 Ev (fun k=>impl_worldRoots.l1 k acc ps (ps.length:Int) (i:Int) gs (gs.length:Int) (j:Int) st ps qs ns) r
 |0,j,acc,h,ha,hr=>by
  refine Ev.step (fun k=>by rw[impl_worldRoots.l1]) ?_;simp only[if_neg (show¬(j:Int)<gs.length by omega)];rw[List.drop_of_length_le yo_,List.map_nil,List.append_nil] at hr;exact hr
 |d+1,j,acc,h,ha,hr=>by
  have hj:j<gs.length:=by omega
  refine Ev.step (fun k=>by rw[impl_worldRoots.l1]) ?_;simp only[if_pos (show(j:Int)<gs.length by omega),if_pos (show(0:Int)<=j by omega),if_pos (show acc.length<8796093022208 by omega)];rw[w64n (i:=j) yo_];rw[List.drop_eq_getElem_cons hj,List.map_cons,<-rdG_at' gs j hj] at hr;refine eRt1I i gs hg r d (j+1) (acc++[(rdG gs j).f1]) yo_ (by rw[List.length_append,List.length_singleton];omega) ?_;rw[List.append_assoc];exact hr
theorem eRt0I(hs:st.length<=300)(hl:qs.length<=20)(hn:ns.length<=20)(hp:ps.length<=20)(hg:∀p ∈ ps,p.f2.length<=50)(hq:∀q ∈ qs,tSmall q.f1/\treeOk q.f1=true/\(refs q.f1 (vD st)).length<=300):∀(d i:Nat) (acc:List ByteArray),ps.length=i+d->acc.length<=i*50->
 Ev (fun k=>impl_worldRoots.l0 k acc ps (ps.length:Int) (i:Int) st ps qs ns) (acc++rootsL (ps.drop i)++ns.map (·.f1)++pendL (vD st) qs)
 |0,i,acc,h,ha=>by
  refine Ev.step (fun k=>by rw[impl_worldRoots.l0]) ?_;simp only[if_neg (show¬(i:Int)<ps.length by omega),List.drop_of_length_le (show ps.length<=i by omega),rootsL,List.flatMap_nil,List.append_nil];have:=eRt2I (ps:=ps) hs hl hn hq ns.length 0 acc yo_ yo_;rw[List.drop_zero] at this;exact this
 |d+1,i,acc,h,ha=>by
  have hi:i<ps.length:=by omega
  have hr:=rdP_at ps i hi;have hgs:=hg _ (List.getElem_mem hi);rw[<-hr] at hgs;refine Ev.step (fun k=>by rw[impl_worldRoots.l0]) ?_;simp only[if_pos (show(i:Int)<ps.length by omega),if_pos (show(0:Int)<=i by omega)];refine eRt1I i (rdP ps i).f2 hgs _ _ 0 acc (Nat.zero_add _).symm yo_ ?_;rw[w64n yo_,List.drop_zero];have:=eRt0I hs hl hn hp hg hq d (i+1) (acc++(rdP ps i).f2.map (·.f1)) yo_ (by rw[List.length_append,List.length_map];omega);have e:acc++(rdP ps i).f2.map (·.f1)++rootsL (ps.drop (i+1))++ns.map (·.f1)++pendL (vD st) qs=acc++rootsL (ps.drop i)++ns.map (·.f1)++pendL (vD st) qs:=by
   rw[List.drop_eq_getElem_cons hi,<-hr];simp[rootsL]
  rw[e] at this;exact this
theorem eRootsI(hs:st.length<=300)(hl:qs.length<=20)(hn:ns.length<=20)(hp:ps.length<=20)(hg:∀p ∈ ps,p.f2.length<=50)(hq:∀q ∈ qs,tSmall q.f1/\treeOk q.f1=true/\(refs q.f1 (vD st)).length<=300):
 Ev (fun k=>impl_worldRoots.f k st ps qs ns) (rootsL ps++ns.map (·.f1)++pendL (vD st) qs):=by
 unfold impl_worldRoots.f;have:=eRt0I hs hl hn hp hg hq ps.length 0 [] (Nat.zero_add _).symm (by simp);rw[List.drop_zero,List.nil_append] at this;exact this
end
theorem sortL_len'(S:List ByteArray):(sortL S).length=S.length:=by unfold sortL;rw[List.length_mergeSort,List.length_map]
theorem eAddN(S:List ByteArray)(hn:S.Nodup)(hl:S.length<=100000)(u:ByteArray):∃T:List ByteArray,T.Nodup/\T.length<=S.length+1/\(∀v,v ∈ T↔v=u\/v ∈ S)/\Ev (fun k=>spec_l3Add.f k ((sortL S).map mk) u) ((sortL T).map mk):=by
 have ha:=eAddS (sortL S) u (by rw[sortL_len'];omega) _ 0 (Nat.zero_add _).symm;rw[List.take_zero,List.drop_zero,List.nil_append] at ha;by_cases hu:u ∈ S
 ·rw[ins_sort_in S u hn hu] at ha;exact⟨S,hn,by omega,fun v=>⟨.inr,fun h=>h.elim (fun e=>e ▸ hu) id⟩,ha⟩
 ·rw[ins_sort S u hn hu] at ha;exact⟨u::S,List.nodup_cons.2 ⟨hu,hn⟩,Nat.le_refl _,fun v=>List.mem_cons,ha⟩
section
variable {ps : List Prof}
theorem eSp1(Q:List ByteArray->Prop)(i:Nat)(hi:i<ps.length)(hp:ps.length<=20)(hg:(rdP ps i).f2.length<=50):∀(d j:Nat) (S:List ByteArray),(rdP ps i).f2.length=j+d->S.Nodup->S.length<=1000+j->
 (∀T',T'.Nodup->T'.length<=S.length+d->(∀u,u ∈ T'↔u ∈ S\/u ∈ ((rdP ps i).f2.drop j).map (·.f1))->∃T,Q T/\Ev (fun k=>spec_l13Roots.l0 k ps [] ((sortL T').map mk) (wrap64 ((i:Int)+1))) ((sortL T).map mk))->
 ∃T,Q T/\Ev (fun k=>spec_l13Roots.l1 k ps [] ((sortL S).map mk) (i:Int) (j:Int)) ((sortL T).map mk)
 |0,j,S,h,hn,hl,hc=>by
  obtain⟨T,hT,e⟩:=hc S hn (Nat.le_refl _) (fun u=>by rw[List.drop_of_length_le yo_];simp);refine⟨T,hT,Ev.step (fun k=>by rw[spec_l13Roots.l1]) ?_⟩;simp only[if_pos (show(0:Int)<=i by omega),if_pos (show(i:Int)<ps.length by omega),if_neg (show¬(j:Int)<(rdP ps i).f2.length by omega)];exact e
 |d+1,j,S,h,hn,hl,hc=>by
  have hj:j<(rdP ps i).f2.length:=by omega
  obtain⟨S1,n1,l1,m1,e1⟩:=eAddN S hn yo_ (rdG (rdP ps i).f2 j).f1;obtain⟨T,hT,e⟩:=eSp1 Q i hi hp hg d (j+1) S1 yo_ n1 yo_ (fun T' t1 t2 t3=>hc T' t1 yo_ (fun u=>by
   rw[t3 u,m1 u,List.drop_eq_getElem_cons hj,List.map_cons,List.mem_cons,<-rdG_at' _ j hj];constructor
   ·rintro((h|h)|h)
    ·exact .inr (.inl h)
    ·exact .inl h
    ·exact .inr (.inr h)
   ·rintro(h|h|h)
    ·exact .inl (.inr h)
    ·exact .inl (.inl h)
    ·exact .inr h))
  refine⟨T,hT,Ev.step (fun k=>by rw[spec_l13Roots.l1]) ?_⟩;simp only[if_pos (show(0:Int)<=i by omega),if_pos (show(i:Int)<ps.length by omega),if_pos (show(j:Int)<(rdP ps i).f2.length by omega),if_pos (show(0:Int)<=j by omega)];refine Ev.bind e1 ?_;rw[w64n (i:=j) yo_];exact e
theorem eSp0(hp:ps.length<=20)(hg:∀p ∈ ps,p.f2.length<=50):∀(d i:Nat) (S:List ByteArray),ps.length=i+d->S.Nodup->S.length<=i*50->
 ∃T,(T.Nodup/\T.length<=1000/\∀u,u ∈ T↔u ∈ S\/u ∈ rootsL (ps.drop i))/\Ev (fun k=>spec_l13Roots.l0 k ps [] ((sortL S).map mk) (i:Int)) ((sortL T).map mk)
 |0,i,S,h,hn,hl=>by
  refine⟨S,⟨hn,by omega,fun u=>by rw[List.drop_of_length_le yo_];simp[rootsL]⟩,Ev.step (fun k=>by rw[spec_l13Roots.l0]) ?_⟩;simp only[if_neg (show¬(i:Int)<ps.length by omega)];refine Ev.step (fun k=>by rw[spec_l13Roots.l2]) ?_;simp only[List.length_nil,if_neg (show¬(0:Int)<((0:Nat):Int) by omega)];exact Ev.now _
 |d+1,i,S,h,hn,hl=>by
  have hi:i<ps.length:=by omega
  have hr:=rdP_at ps i hi;have hgs:=hg _ (List.getElem_mem hi);rw[<-hr] at hgs;obtain⟨T,hT,e⟩:=eSp1 (fun T=>T.Nodup/\T.length<=1000/\∀u,u ∈ T↔u ∈ S\/u ∈ rootsL (ps.drop i)) i hi hp hgs _ 0 S (Nat.zero_add _).symm hn yo_ (fun T' t1 t2 t3=>by
   obtain⟨T,⟨a1,a2,a3⟩,e⟩:=eSp0 hp hg d (i+1) T' yo_ t1 yo_;refine⟨T,⟨a1,a2,fun u=>?_⟩,by rw[w64n yo_];exact e⟩;rw[a3 u,t3 u,List.drop_zero,List.drop_eq_getElem_cons hi,<-hr]
   simp[rootsL,or_assoc])
  refine⟨T,hT,Ev.step (fun k=>by rw[spec_l13Roots.l0]) ?_⟩;simp only[if_pos (show(i:Int)<ps.length by omega)];exact e
theorem eRootsS(hp:ps.length<=20)(hg:∀p ∈ ps,p.f2.length<=50):∃T,(T.Nodup/\T.length<=1000/\∀u,u ∈ T↔u ∈ rootsL ps)/\Ev (fun k=>spec_l13Roots.f k ps []) ((sortL T).map mk):=by
 obtain⟨T,⟨a1,a2,a3⟩,e⟩:=eSp0 hp hg ps.length 0 [] (Nat.zero_add _).symm List.nodup_nil (by simp);refine⟨T,⟨a1,a2,fun u=>by rw[a3 u,List.drop_zero];simp⟩,?_⟩;unfold spec_l13Roots.f;have e0:(sortL ([]:List ByteArray)).map mk=[]:=by simp[sortL]
 rw[e0] at e;exact e
end
section
variable {st : List Item} {ps : List Prof} {qs : List Pend} {ns : List Next}
theorem eLv1(P:List ByteArray)(hP:P.length<=300)(hl:qs.length<=20)(hq:∀q ∈ qs,tSmall q.f1/\treeOk q.f1=true/\(refs q.f1 P).length<=300)(f:List ByteArray->Prop):∀(d i:Nat) (acc:List ByteArray),qs.length=i+d->acc.length<=100000+i*301->∀r,Ev (fun k=>spec_l12Closure.f k st (acc++pendL P (qs.drop i))) r->Ev (fun k=>spec_l19Live.l1 k acc P (i:Int) st ps qs ns) r
 |0,i,acc,h,ha,r,hr=>by
  rw[List.drop_of_length_le yo_] at hr;simp only[pendL,List.flatMap_nil,List.append_nil] at hr;refine Ev.step (fun k=>by rw[spec_l19Live.l1]) ?_;simp only[if_neg (show¬(i:Int)<qs.length by omega)];exact Ev.bind hr (Ev.now _)
 |d+1,i,acc,h,ha,r,hr=>by
  have hi:i<qs.length:=by omega
  have hx:=rdQ_at qs i hi;obtain⟨h1,h2,h3⟩:=hq _ (List.getElem_mem hi);rw[<-hx] at h1 h2 h3;refine Ev.step (fun k=>by rw[spec_l19Live.l1]) ?_;simp only[if_pos (show(i:Int)<qs.length by omega),if_pos (show(0:Int)<=i by omega),if_pos (show acc.length<8796093022208 by omega),Option.bind_some];refine Ev.bind (eRefsS _ h1 h2 P yo_) ?_;rw[w64n yo_];refine Ev.congr (fun k=>if_pos (by rw[List.length_append,List.length_singleton];omega)) ?_;refine eLv1 P hP hl hq f d (i+1) ((acc++[(rdQ qs i).f0])++refs (rdQ qs i).f1 P) yo_ (by rw[List.length_append,List.length_append,List.length_singleton];omega) r ?_;have e:(acc++[(rdQ qs i).f0])++refs (rdQ qs i).f1 P++pendL P (qs.drop (i+1))=acc++pendL P (qs.drop i):=by
   rw[List.drop_eq_getElem_cons hi,<-hx];simp[pendL]
  rw[e];exact hr
theorem eLv0(hs:st.length<=300)(hl:qs.length<=20)(hn:ns.length<=20)(hq:∀q ∈ qs,tSmall q.f1/\treeOk q.f1=true/\(refs q.f1 (vD st)).length<=300):∀(d i:Nat) (acc:List ByteArray),ns.length=i+d->acc.length<=50000+i->∀r,Ev (fun k=>spec_l12Closure.f k st (acc++(ns.drop i).map (·.f1)++pendL (vD st) qs)) r->Ev (fun k=>spec_l19Live.l0 k acc (i:Int) st ps qs ns) r
 |0,i,acc,h,ha,r,hr=>by
  rw[List.drop_of_length_le yo_,List.map_nil,List.append_nil] at hr;refine Ev.step (fun k=>by rw[spec_l19Live.l0]) ?_;simp only[if_neg (show¬(i:Int)<ns.length by omega)];refine Ev.bind (ePathsOfS st yo_) ?_;exact eLv1 (vD st) (by simp[vD];omega) hl hq (fun _=>True) qs.length 0 acc yo_ yo_ r (by rw[List.drop_zero];exact hr)
 |d+1,i,acc,h,ha,r,hr=>by
  have hi:i<ns.length:=by omega
  have hx:=rdN_at' ns i hi;refine Ev.step (fun k=>by rw[spec_l19Live.l0]) ?_;simp only[if_pos (show(i:Int)<ns.length by omega),if_pos (show(0:Int)<=i by omega),if_pos (show acc.length<8796093022208 by omega)];rw[w64n yo_];refine eLv0 hs hl hn hq d (i+1) (acc++[(rdN ns i).f1]) yo_ (by rw[List.length_append,List.length_singleton];omega) r ?_;rw[List.drop_eq_getElem_cons hi,List.map_cons,<-hx] at hr;rw[List.append_assoc acc];exact hr
theorem eLiveS(hs:st.length<=300)(hl:qs.length<=20)(hn:ns.length<=20)(hp:ps.length<=20)(hg:∀p ∈ ps,p.f2.length<=50)(hq:∀q ∈ qs,tSmall q.f1/\treeOk q.f1=true/\(refs q.f1 (vD st)).length<=300):
 ∃t:List ByteArray,t.length<=10000/\(∀u,u ∈ t↔u ∈ rootsL ps++ns.map (·.f1)++pendL (vD st) qs)/\∀r,Ev (fun k=>spec_l12Closure.f k st t) r->Ev (fun k=>spec_l19Live.f k st ps qs ns) r:=by
 obtain⟨T,⟨a1,a2,a3⟩,e⟩:=eRootsS hp hg;have hpl:(pendL (vD st) qs).length<=qs.length*301:=by
  clear hl;induction qs with
  |nil=>simp[pendL]
  |cons q qs ih=>
   have h1:=ih (fun q hq'=>hq q (List.mem_cons_of_mem _ hq'));have h2:=(hq q (List.mem_cons_self ..)).2.2;have h3:(pendL (vD st) (q::qs)).length=1+(refs q.f1 (vD st)).length+(pendL (vD st) qs).length:=by simp[pendL];omega
   rw[h3,List.length_cons];omega
 refine⟨(sortL T).map mk++ns.map (·.f1)++pendL (vD st) qs,?_,fun u=>?_,fun r hr=>?_⟩
 ·rw[List.length_append,List.length_append,List.length_map,List.length_map,sortL_len];omega
 ·have hm:u ∈ (sortL T).map mk↔u ∈ rootsL ps:=by
   rw[<-a3 u,List.mem_map];constructor
   ·rintro⟨x,hx,e⟩;obtain⟨s,hs',e2⟩:=(sortL_mem T x).1 hx;have:s=u:=MapSet.inj (by rw[<-e,mk_data,e2]);exact this ▸ hs'
   ·intro hx;exact⟨u.data.toList,(sortL_mem T _).2 ⟨_,hx,rfl⟩,MapSet.inj (mk_data _)⟩
  rw[List.mem_append,List.mem_append,List.mem_append,List.mem_append,hm]
 ·unfold spec_l19Live.f;refine Ev.bind e ?_;exact eLv0 hs hl hn hq ns.length 0 _ (Nat.zero_add _).symm (by rw[List.length_map,sortL_len];omega) r (by rw[List.drop_zero];exact hr)
end
theorem out_mem(S:List ByteArray)(u:ByteArray):u ∈ impl_sorted.out S↔u ∈ S:=by
 unfold impl_sorted.out;rw[List.mem_map];constructor
 ·rintro⟨l,hl,rfl⟩;rw[List.mem_mergeSort] at hl;obtain⟨s,hs,e⟩:=(impl_sorted.dd_mem l S).1 hl;have:s=(⟨l.toArray⟩:ByteArray):=MapSet.inj (by rw[e]);exact this ▸ hs
 ·intro hu;refine⟨u.data.toList,?_,MapSet.inj (by simp)⟩;rw[List.mem_mergeSort];exact(impl_sorted.dd_mem _ S).2 ⟨u,hu,rfl⟩
section
variable {st : List Item} {ps : List Prof} {qs : List Pend} {ns : List Next}
theorem eClosB(hs:st.length<=300)(hr:∀x ∈ st,x.f2.length<=300)(hz:∀x ∈ st,x.f0.size<=1048576)(t:List ByteArray)(ht:t.length<=100000):
 ∃S',Ev (fun k=>impl_closure.l0 k st [] t) S'/\Ev (fun k=>spec_l12Closure.f k st t) (impl_sorted.out S')/\S'.length<=300/\∀u,u ∈ S'↔Rch st t u:=by
 have h1:=rem_le gr 301 [] st (fun x hx=>by have:=hr x hx;show x.f2.length+1<=301;omega);have h2:=rem_le (fun _=>1) 1 [] st (fun x hx=>Nat.le_refl _);have h3:rem gr [] st<=300*301:=Nat.le_trans h1 (Nat.mul_le_mul_right _ hs);obtain⟨S',e1,e2,a,b,c⟩:=eClos st hs (fun x hx=>by have:=hr x hx;omega) hz (rem gr [] st+t.length) [] t (Nat.le_refl _) yo_ List.nodup_nil (by simp;omega) (fun x hx=>by cases hx);refine⟨S',e1,?_,a,c.iff⟩;unfold spec_l12Closure.f;simp only[Option.bind_some,List.length_nil,Nat.zero_add,List.nil_append,if_pos (show t.length<8796093022208 by omega)];have e0:(sortL ([]:List ByteArray)).map mk=[]:=by simp[sortL]
 rw[e0] at e2;exact e2
theorem eCut(hs:st.length<=300)(hr:∀x ∈ st,x.f2.length<=300)(hz:∀x ∈ st,x.f0.size<=1048576)(hl:qs.length<=20)(hn:ns.length<=20)(hp:ps.length<=20)(hg:∀p ∈ ps,p.f2.length<=50)(hq:∀q ∈ qs,tSmall q.f1/\treeOk q.f1=true/\(refs q.f1 (vD st)).length<=300)(hR:(rootsL ps++ns.map (·.f1)++pendL (vD st) qs).length<=100000)(u:ByteArray)(hu:u.size<=1048576):
 ∃b:Bool,Ev (fun k=>impl_canCut.f k st ps qs ns u) b/\Ev (fun k=>spec_l19Cuts.f k st ps qs ns u) b/\(b=true->0<=F0 st u/\usd st u st.length 0=false):=by
 have fI:=eFndI st u yo_ st.length 0 yo_;have fS:=eFndS st u yo_ st.length 0 yo_;unfold impl_canCut.f spec_l19Cuts.f;by_cases h0:F0 st u<0
 ·refine⟨false,Ev.bind fI ?_,Ev.bind fS ?_,fun h=>by cases h⟩
  ·simp only[if_pos h0];exact Ev.step (fun k=>by rw[impl_canCut.j0]) (by simp only[if_true];exact Ev.now _)
  ·simp only[if_neg (show¬F0 st u>=0 by omega)];exact Ev.now _
 ·obtain⟨t,ht,hm,hL⟩:=eLiveS hs hl hn hp hg hq;obtain⟨S1,c1,_,n1,m1⟩:=eClosB hs hr hz (rootsL ps++ns.map (·.f1)++pendL (vD st) qs) hR;obtain⟨S2,_,c2,n2,m2⟩:=eClosB hs hr hz t yo_;have hsame:u ∈ S1↔u ∈ impl_sorted.out S2:=by rw[out_mem,m1,m2];exact(Rch.same hm u).symm
  have uS:=eUsdS st u yo_ (fun x hx=>by have:=hr x hx;omega) st.length 0 yo_;have uI:=eUsdI st u yo_ (fun x hx=>by have:=hr x hx;omega) st.length 0 yo_;have hh:=eHas (impl_sorted.out S2) u (by have:=out_len S2;omega) _ 0 (Nat.zero_add _).symm;rw[List.drop_zero] at hh;have eb:MapSet.has u (impl_sorted.out S2)=MapSet.has u S1:=by rw[Bool.eq_iff_iff,has_iff,has_iff];exact hsame.symm
  rw[eb] at hh;have cI:Ev (fun k=>impl_cutIn.f k st (rootsL ps++ns.map (·.f1)++pendL (vD st) qs) u) (MapSet.has u S1):=by
   unfold impl_cutIn.f impl_closure.f;simp only[if_pos (show(rootsL ps++ns.map (·.f1)++pendL (vD st) qs).length<8796093022208 by omega)];refine Ev.bind c1 ?_;rw[show MapB.get S1 u=some (MapSet.has u S1) from if_pos yo_];exact Ev.now _
  refine⟨!MapSet.has u S1 && !usd st u st.length 0,Ev.bind fI ?_,Ev.bind fS ?_,fun h=>?_⟩
  ·simp only[if_neg h0];refine Ev.bind (eRootsI hs hl hn hp hg hq) ?_;refine Ev.bind cI ?_;refine Ev.step (fun k=>by rw[impl_canCut.j0]) ?_;cases MapSet.has u S1 with
   |true=>simp only[if_true,Bool.not_true,Bool.false_and];exact Ev.now _
   |false=>simp only[Bool.false_eq_true,if_false,Bool.not_false,Bool.true_and];exact uI
  ·simp only[if_pos (show F0 st u>=0 by omega)];refine Ev.bind (hL _ c2) ?_;refine Ev.bind hh ?_;cases MapSet.has u S1 with
   |true=>simp only[if_true,Bool.not_true,Bool.false_and];exact Ev.now _
   |false=>
    simp only[Bool.false_eq_true,if_false,Bool.not_false,Bool.true_and];exact Ev.bind uS (Ev.now _)
  ·simp only[Bool.and_eq_true,Bool.not_eq_true'] at h;exact⟨by omega,h.2⟩
end
theorem coll_len(t:List Entry)(l:List ByteArray):∀d i ds,(coll t l d i ds).length<=ds.length+d
 |0,_,_=>Nat.le_refl _
 |d+1,i,ds=>by
  unfold coll;have:=coll_len t l d (i+1) (if addrOk (rdT l i)=true/\refAny t ((rdT l i).extract 0 13) t.length 0=true/\MapSet.has (rdT l i) ds=false then rdT l i::ds else ds);split at this<;>split<;>simp_all<;>omega
theorem refs_len(t:List Entry)(l:List ByteArray):(refs t l).length<=l.length:=by
 unfold refs;rw[List.length_map,sortL_len];have:=coll_len t l l.length 0 [];simpa using this
theorem eHas1(p u:ByteArray):Ev (fun k=>spec_l3Has.f k [p] u) (MapSet.has u [p]):=by
 have:=eHas [p] u (by simp) 1 0 rfl;rw[List.drop_zero] at this;exact this
section
variable {st : List Item}
theorem eWo1(p:ByteArray)(i:Nat)(hi:i<st.length)(acc:List Item)(ha:acc.length<=1000000)(r:List Item×Bool)(hr:(rdI st i).f2.length<=1048576)(hc:Ev (fun k=>spec_l12Without.l0 k st [p] (acc++[rdI st i]) (wrap64 ((i:Int)+1))) r):∀d j:Nat,(rdI st i).f2.length=j+d->p ∉ (rdI st i).f2.drop j->
 Ev (fun k=>spec_l12Without.l1 k st [p] acc (i:Int) (j:Int)) r
 |0,j,h,hp=>by
  refine Ev.step (fun k=>by rw[spec_l12Without.l1]) ?_;simp only[if_pos (show(0:Int)<=i by omega),if_pos (show(i:Int)<st.length by omega),if_neg (show¬(j:Int)<(rdI st i).f2.length by omega),if_pos (show acc.length<1466015503701 by omega)];exact hc
 |d+1,j,h,hp=>by
  have hj:j<(rdI st i).f2.length:=by omega
  rw[List.drop_eq_getElem_cons hj,List.mem_cons,not_or,<-rdT_at _ j hj] at hp;refine Ev.step (fun k=>by rw[spec_l12Without.l1]) ?_;simp only[if_pos (show(0:Int)<=i by omega),if_pos (show(i:Int)<st.length by omega),if_pos (show(j:Int)<(rdI st i).f2.length by omega),if_pos (show(0:Int)<=j by omega)];refine Ev.bind (eHas1 p _) ?_;rw[show MapSet.has (rdT (rdI st i).f2 j) [p]=false from Bool.eq_false_iff.2 (fun h=>hp.1 (List.mem_singleton.1 ((has_iff _ _).1 h)).symm)];simp only[Bool.false_eq_true,if_false];rw[w64n (i:=j) yo_];exact eWo1 p i hi acc ha r hr hc d (j+1) yo_ hp.2
theorem eWo0(hs:st.length<=300)(hr:∀x ∈ st,x.f2.length<=300)(p:ByteArray):∀(d i:Nat) (acc:List Item),st.length=i+d->acc.length<=i->usd st p d i=false->Ev (fun k=>spec_l12Without.l0 k st [p] acc (i:Int)) (acc++(st.drop i).filter (fun x=> !MapSet.has x.f0 [p]),true)
 |0,i,acc,h,ha,hu=>by
  refine Ev.step (fun k=>by rw[spec_l12Without.l0]) ?_;simp only[if_neg (show¬(i:Int)<st.length by omega),List.drop_of_length_le (show st.length<=i by omega),List.filter_nil,List.append_nil];exact Ev.now _
 |d+1,i,acc,h,ha,hu=>by
  have hi:i<st.length:=by omega
  have hx:=rdI_at st i hi;have hr1:(rdI st i).f2.length<=300:=by rw[hx];exact hr _ (List.getElem_mem hi)
  refine Ev.step (fun k=>by rw[spec_l12Without.l0]) ?_;simp only[if_pos (show(i:Int)<st.length by omega),if_pos (show(0:Int)<=i by omega)];refine Ev.bind (eHas1 p _) ?_;rw[List.drop_eq_getElem_cons hi,<-hx,List.filter_cons];unfold usd at hu;cases hb:MapSet.has (rdI st i).f0 [p] with
  |true=>
   have e:(rdI st i).f0=p:=List.mem_singleton.1 ((has_iff _ _).1 hb);simp only[if_true,Bool.not_true,Bool.false_eq_true,if_false];rw[if_pos (by rw[e])] at hu;rw[w64n yo_];exact eWo0 hs hr p d (i+1) acc yo_ yo_ hu
  |false=>
   have e:¬(rdI st i).f0.toList=p.toList:=fun e=>by
    have:(rdI st i).f0=p:=MapSet.inj (by rw[<-ByteArray.toList_eq,<-ByteArray.toList_eq,e]);rw[Bool.eq_false_iff] at hb;exact hb ((has_iff _ _).2 (List.mem_singleton.2 this))
   rw[if_neg e] at hu;split at hu
   ·cases hu
   ·rename_i hm
    simp only[Bool.false_eq_true,if_false,Bool.not_false,if_true];refine eWo1 p i hi acc yo_ _ yo_ ?_ _ 0 (Nat.zero_add _).symm (by rw[List.drop_zero];exact fun h=>hm ((has_iff _ _).2 h));rw[w64n yo_];have:=eWo0 hs hr p d (i+1) (acc++[rdI st i]) yo_ (by rw[List.length_append,List.length_singleton];omega) hu;rw[List.append_assoc] at this;exact this
theorem eWo(hs:st.length<=300)(hr:∀x ∈ st,x.f2.length<=300)(p:ByteArray)(hu:usd st p st.length 0=false):Ev (fun k=>spec_l12Without.f k st [p]) (st.filter (fun x=> !MapSet.has x.f0 [p]),true):=by
 unfold spec_l12Without.f;have:=eWo0 hs hr p st.length 0 [] (Nat.zero_add _).symm (Nat.le_refl _) hu;rw[List.drop_zero,List.nil_append] at this;exact this
end
structure Good(st:List Item)(ps:List Prof)(qs:List Pend)(ns:List Next):Prop where
 hs:st.length<=300
 hr:∀x ∈ st,x.f2.length<=300
 hz:∀x ∈ st,x.f0.size<=1048576
 he:∀x ∈ st,x.f0.toList≠[]
 nd:(vD st).Nodup
 hl:qs.length<=20
 hn:ns.length<=20
 hp:ps.length<=20
 hg:∀p ∈ ps,p.f2.length<=50
 hq:∀q ∈ qs,tSmall q.f1/\treeOk q.f1=true
 hR:(rootsL ps).length<=50000
section
variable {st : List Item} {ps : List Prof} {qs : List Pend} {ns : List Next}
theorem Good.hq'(G:Good st ps qs ns):∀q ∈ qs,tSmall q.f1/\treeOk q.f1=true/\(refs q.f1 (vD st)).length<=300:=fun q hm=>
 ⟨(G.hq q hm).1,(G.hq q hm).2,Nat.le_trans (refs_len _ _) (by simp[vD];exact G.hs)⟩
theorem pendL_len(P:List ByteArray):∀qs:List Pend,(∀q ∈ qs,(refs q.f1 P).length<=300)->(pendL P qs).length<=qs.length*301
 |[],_=>by simp[pendL]
 |q::qs,h=>by
  have h1:=pendL_len P qs (fun q hq'=>h q (List.mem_cons_of_mem _ hq'));have h2:=h q (List.mem_cons_self ..);have h3:(pendL P (q::qs)).length=1+(refs q.f1 P).length+(pendL P qs).length:=by simp[pendL];omega
  rw[h3,List.length_cons];omega
theorem Good.cut(G:Good st ps qs ns)(u:ByteArray)(hu:u.size<=1048576):∃b:Bool,Ev (fun k=>impl_canCut.f k st ps qs ns u) b/\Ev (fun k=>spec_l19Cuts.f k st ps qs ns u) b/\(b=true->0<=F0 st u/\usd st u st.length 0=false):=
 eCut G.hs G.hr G.hz G.hl G.hn G.hp G.hg G.hq' (by
  have h1:=pendL_len (vD st) qs (fun q hm=>(G.hq' q hm).2.2);have h2:=G.hR;have h3:=G.hl;have h4:=G.hn;rw[List.length_append,List.length_append,List.length_map]
  omega) u hu
theorem spec_stop(p:ByteArray)(i:Int)(hp:p.toList≠[]):Ev (fun k=>spec_PlanCollect.l1 k st ps qs ns p i) p:=by
 refine Ev.step (fun k=>by rw[spec_PlanCollect.l1]) ?_;by_cases h:i<(st.length:Int)
 ·simp only[if_pos h,if_neg hp];exact Ev.now _
 ·simp only[if_neg h];exact Ev.now _
theorem eFirst(G:Good st ps qs ns):∀d i:Nat,st.length=i+d->
 (Ev (fun k=>impl_PlanCollect.l1 k st ps qs ns (i:Int)) (-1)/\Ev (fun k=>spec_PlanCollect.l1 k st ps qs ns ⟨#[]⟩ (i:Int)) ⟨#[]⟩)\/
 ∃j:Nat,j<st.length/\Ev (fun k=>impl_PlanCollect.l1 k st ps qs ns (i:Int)) (j:Int)/\Ev (fun k=>spec_PlanCollect.l1 k st ps qs ns ⟨#[]⟩ (i:Int)) (rdI st j).f0/\Ev (fun k=>impl_canCut.f k st ps qs ns (rdI st j).f0) true/\Ev (fun k=>spec_l19Cuts.f k st ps qs ns (rdI st j).f0) true/\0<=F0 st (rdI st j).f0/\usd st (rdI st j).f0 st.length 0=false
 |0,i,h=>by
  refine .inl ⟨Ev.step (fun k=>by rw[impl_PlanCollect.l1]) ?_,Ev.step (fun k=>by rw[spec_PlanCollect.l1]) ?_⟩
  ·simp only[if_neg (show¬(i:Int)<st.length by omega)];exact Ev.now _
  ·simp only[if_neg (show¬(i:Int)<st.length by omega)];exact Ev.now _
 |d+1,i,h=>by
  have hi:i<st.length:=by omega
  have hx:=rdI_at st i hi;have hm:rdI st i ∈ st:=by rw[hx];exact List.getElem_mem hi
  have hsl:=G.hs;have h0:(⟨#[]⟩:ByteArray).toList=([]:List UInt8):=by rw[ByteArray.toList_eq]
  obtain⟨b,b1,b2,b3⟩:=G.cut (rdI st i).f0 (G.hz _ hm);cases b with
  |true=>
   refine .inr ⟨i,hi,Ev.step (fun k=>by rw[impl_PlanCollect.l1]) ?_,Ev.step (fun k=>by rw[spec_PlanCollect.l1]) ?_,b1,b2,(b3 rfl).1,(b3 rfl).2⟩
   ·simp only[if_pos (show(i:Int)<st.length by omega),if_pos (show(0:Int)<=i by omega)];refine Ev.bind b1 ?_;simp only[if_true];exact Ev.now _
   ·simp only[if_pos (show(i:Int)<st.length by omega),if_pos h0,if_pos (show(0:Int)<=i by omega)];refine Ev.bind b2 ?_;simp only[if_true];exact spec_stop _ _ (G.he _ hm)
  |false=>
   have ih:=eFirst G d (i+1) yo_;have s1:∀r,Ev (fun k=>impl_PlanCollect.l1 k st ps qs ns ((i+1:Nat):Int)) r->Ev (fun k=>impl_PlanCollect.l1 k st ps qs ns (i:Int)) r:=fun r hr=>by
    refine Ev.step (fun k=>by rw[impl_PlanCollect.l1]) ?_;simp only[if_pos (show(i:Int)<st.length by omega),if_pos (show(0:Int)<=i by omega)];refine Ev.bind b1 ?_;simp only[Bool.false_eq_true,if_false];rw[w64n yo_];exact hr
   have s2:∀r,Ev (fun k=>spec_PlanCollect.l1 k st ps qs ns ⟨#[]⟩ ((i+1:Nat):Int)) r->Ev (fun k=>spec_PlanCollect.l1 k st ps qs ns ⟨#[]⟩ (i:Int)) r:=fun r hr=>by
    refine Ev.step (fun k=>by rw[spec_PlanCollect.l1]) ?_;simp only[if_pos (show(i:Int)<st.length by omega),if_pos h0,if_pos (show(0:Int)<=i by omega)];refine Ev.bind b2 ?_;simp only[Bool.false_eq_true,if_false];rw[w64n yo_];exact hr
   rcases ih with⟨a1,a2⟩|⟨j,hj,a1,a2,a3⟩
   ·exact .inl ⟨s1 _ a1,s2 _ a2⟩
   ·exact .inr ⟨j,hj,s1 _ a1,s2 _ a2,a3⟩
end
theorem cut_eq(st:List Item)(hn:(vD st).Nodup)(j:Nat)(hj:j<st.length):st.filter (fun x=> !MapSet.has x.f0 [st[j].f0])=st.take j++st.drop (j+1):=by
 have hs:st=st.take j++st[j]::st.drop (j+1):=by rw[<-List.drop_eq_getElem_cons hj,List.take_append_drop]
 have hn2:((st.take j++st[j]::st.drop (j+1)).map (·.f0)).Nodup:=by rw[<-hs];exact hn
 rw[List.map_append,List.map_cons,List.nodup_append] at hn2;obtain⟨_,h2,h3⟩:=hn2;have h4:=(List.nodup_cons.1 h2).1;generalize st[j]=a at*;have ha:∀x ∈ st.take j,(!MapSet.has x.f0 [a.f0])=true:=fun x hx=>by
  rw[Bool.not_eq_true',Bool.eq_false_iff];intro hc;have e:=List.mem_singleton.1 ((has_iff _ _).1 hc);exact h3 x.f0 (List.mem_map_of_mem hx) a.f0 (List.mem_cons_self ..) e
 have hb:∀x ∈ st.drop (j+1),(!MapSet.has x.f0 [a.f0])=true:=fun x hx=>by
  rw[Bool.not_eq_true',Bool.eq_false_iff];intro hc;have e:=List.mem_singleton.1 ((has_iff _ _).1 hc);exact h4 (e ▸ List.mem_map_of_mem hx)
 have hself:MapSet.has a.f0 [a.f0]=true:=(has_iff _ _).2 (List.mem_singleton.2 rfl)
 calc st.filter (fun x=> !MapSet.has x.f0 [a.f0])=(st.take j++a::st.drop (j+1)).filter (fun x=> !MapSet.has x.f0 [a.f0]):=by rw[<-hs]
  _=st.take j++st.drop (j+1):=by
   rw[List.filter_append,List.filter_cons,List.filter_eq_self.2 ha,List.filter_eq_self.2 hb,hself];rfl
section
variable {st : List Item} {ps : List Prof} {qs : List Pend} {ns : List Next}
theorem F0_at(G:Good st ps qs ns)(j:Nat)(hj:j<st.length)(h0:0<=F0 st (rdI st j).f0):F0 st (rdI st j).f0=j:=by
 rcases fnd_at st (rdI st j).f0 st.length 0 yo_ with h|⟨i,hi,hil,he⟩
 ·exact absurd (show 0<=fnd st (rdI st j).f0 st.length 0 from h0) yo_
 ·have e:(rdI st i).f0=(rdI st j).f0:=MapSet.inj (by rw[<-ByteArray.toList_eq,<-ByteArray.toList_eq,he]);rw[rdI_at st i hil,rdI_at st j hj] at e;have hl:(vD st).length=st.length:=by simp[vD]
  have e2:(vD st)[i]'yo_=(vD st)[j]'yo_:=by simpa[vD] using e
  have hp:=List.pairwise_iff_getElem.1 G.nd;have e3:i=j:=by
   rcases Nat.lt_trichotomy i j with h|h|h
   ·exact absurd e2 (hp i j yo_ yo_ h)
   ·exact h
   ·exact absurd e2.symm (hp j i yo_ yo_ h)
  rw[<-e3] at hi⊢;exact hi
theorem Good.sub(G:Good st ps qs ns)(j:Nat):Good (st.take j++st.drop (j+1)) ps qs ns:=by
 have hsub:(st.take j++st.drop (j+1)).Sublist st:=by rw[<-List.eraseIdx_eq_take_drop_succ];exact List.eraseIdx_sublist ..
 exact⟨Nat.le_trans hsub.length_le G.hs,fun x hx=>G.hr x (hsub.subset hx),fun x hx=>G.hz x (hsub.subset hx),fun x hx=>G.he x (hsub.subset hx),(hsub.map _).nodup G.nd,G.hl,G.hn,G.hp,G.hg,G.hq,G.hR⟩
end
theorem eColl{ps:List Prof}{qs:List Pend}{ns:List Next}:∀(n:Nat) (st:List Item),Good st ps qs ns->st.length<=n->∀o:List S54,o.length+n<=100000->
 ∃R:List S54,Ev (fun k=>impl_PlanCollect.l0 k o st ps qs ns) (o++R)/\Ev (fun k=>spec_PlanCollect.l0 k o st ps qs ns) (o++R)/\R.length<=n/\∀x ∈ R,∃p:ByteArray,p.size<=1048576/\x=⟨7,⟨#[]⟩,p,[],⟨#[]⟩,0⟩:=by
 intro n;induction n with
 |zero=>
  intro st G hl o ho;rcases eFirst G st.length 0 yo_ with⟨a1,a2⟩|⟨j,hj,_⟩
  ·refine⟨[],Ev.step (fun k=>by rw[impl_PlanCollect.l0]) ?_,Ev.step (fun k=>by rw[spec_PlanCollect.l0]) ?_,Nat.le_refl _,fun x hx=>by cases hx⟩
   ·refine Ev.bind a1 ?_;simp only[if_pos (show(-1:Int)<0 by decide),List.append_nil];exact Ev.now _
   ·refine Ev.bind a2 ?_;simp only[if_pos (show(⟨#[]⟩:ByteArray).toList=([]:List UInt8) by rw[ByteArray.toList_eq]),List.append_nil];exact Ev.now _
  ·omega
 |succ n ih=>
  intro st G hl o ho;rcases eFirst G st.length 0 yo_ with⟨a1,a2⟩|⟨j,hj,a1,a2,b1,b2,c1,c2⟩
  ·refine⟨[],Ev.step (fun k=>by rw[impl_PlanCollect.l0]) ?_,Ev.step (fun k=>by rw[spec_PlanCollect.l0]) ?_,Nat.zero_le _,fun x hx=>by cases hx⟩
   ·refine Ev.bind a1 ?_;simp only[if_pos (show(-1:Int)<0 by decide),List.append_nil];exact Ev.now _
   ·refine Ev.bind a2 ?_;simp only[if_pos (show(⟨#[]⟩:ByteArray).toList=([]:List UInt8) by rw[ByteArray.toList_eq]),List.append_nil];exact Ev.now _
  ·have hm:rdI st j ∈ st:=by rw[rdI_at st j hj];exact List.getElem_mem hj
   have hF:=F0_at G j hj c1;have hsl:=G.hs;have fI:=eFndI st (rdI st j).f0 yo_ st.length 0 yo_;have hw:=eWo G.hs G.hr (rdI st j).f0 c2;rw[show(rdI st (j:Int)).f0=st[j].f0 by rw[rdI_at st j hj],cut_eq st G.nd j hj,show st[j].f0=(rdI st (j:Int)).f0 by rw[rdI_at st j hj]] at hw;obtain⟨R,e1,e2,e3,e4⟩:=ih (st.take j++st.drop (j+1)) (G.sub j) (by rw[List.length_append,List.length_take,List.length_drop];omega) (o++[⟨7,⟨#[]⟩,(rdI st j).f0,[],⟨#[]⟩,0⟩]) (by rw[List.length_append,List.length_singleton];omega);rw[List.append_assoc] at e1 e2;refine⟨⟨7,⟨#[]⟩,(rdI st j).f0,[],⟨#[]⟩,0⟩::R,Ev.step (fun k=>by rw[impl_PlanCollect.l0]) ?_,Ev.step (fun k=>by rw[spec_PlanCollect.l0]) ?_,by rw[List.length_cons];omega,fun x hx=>?_⟩
   ·refine Ev.bind a1 ?_;simp only[if_neg (show¬(j:Int)<0 by omega)];refine Ev.bind b1 ?_;simp only[if_true];refine Ev.bind fI ?_;rw[show fnd st (rdI st j).f0 st.length 0=(j:Int) from hF];simp only[if_pos (show(0:Int)<=(j:Int)/\(j:Int)<(st.length:Int)/\st.length<=1000000/\o.length<1000000000 by omega),Int.toNat_natCast];exact e1
   ·refine Ev.bind a2 ?_;simp only[if_neg (G.he _ hm)];refine Ev.bind b2 ?_;simp only[if_true];refine Ev.bind hw ?_;simp only[if_pos (show o.length<1000000000 by omega)];exact e2
   ·rcases List.mem_cons.1 hx with rfl|hx
    ·exact⟨_,G.hz _ hm,rfl⟩
    ·exact e4 x hx
theorem itm_of(st:List Item)(l:List ByteArray):∀d i:Nat,itR st l d i=true->∀j,i<=j->j<i+d->itemOk (rdI st j) l=true
 |0,i,h,j,h1,h2=>by omega
 |d+1,i,h,j,h1,h2=>by
  simp only[itR,Bool.and_eq_true] at h;by_cases e:j=i
  ·subst e;exact h.1
  ·exact itm_of st l d (i+1) h.2 j yo_ yo_
theorem prf_of(ps:List Prof):∀d i:Nat,profsR ps d i=true->∀j,i<=j->j<i+d->(rdP ps j).f2.length<=50
 |0,i,h,j,h1,h2=>by omega
 |d+1,i,h,j,h1,h2=>by
  simp only[profsR,Bool.and_eq_true,profOk,decide_eq_true_eq] at h;by_cases e:j=i
  ·subst e;exact h.1.2.1.1
  ·exact prf_of ps d (i+1) h.2 j yo_ yo_
theorem pnd_of(qs:List Pend):∀d i:Nat,pendR qs d i=true->∀j,i<=j->j<i+d->treeOk (rdQ qs j).f1=true
 |0,i,h,j,h1,h2=>by omega
 |d+1,i,h,j,h1,h2=>by
  simp only[pendR,Bool.and_eq_true,pendOk] at h;by_cases e:j=i
  ·subst e;exact h.1.1.2
  ·exact pnd_of qs d (i+1) h.2 j yo_ yo_
theorem asc_of(l:List ByteArray):∀d i:Nat,ascR l d i=true->∀j,i<=j->j<i+d->ascT l j=true
 |0,i,h,j,h1,h2=>by omega
 |d+1,i,h,j,h1,h2=>by
  simp only[ascR,Bool.and_eq_true] at h;by_cases e:j=i
  ·subst e;exact h.1
  ·exact asc_of l d (i+1) h.2 j yo_ yo_
theorem asc_lt(l:List ByteArray)(h:ascR l l.length 0=true):∀(d i:Nat),i+d+1<l.length->(rdT l i).toList<(rdT l ((i+d+1:Nat):Int)).toList
 |0,i,hl=>by
  have:=asc_of l _ 0 h (i+1) yo_ yo_;simp only[ascT,Bool.or_eq_true,decide_eq_true_eq] at this;rcases this with h|h
  ·omega
  ·rw[bl_eq] at h;simpa using h
 |d+1,i,hl=>by
  have h1:=asc_lt l h d i yo_;have:=asc_of l _ 0 h (i+d+1+1) yo_ yo_;simp only[ascT,Bool.or_eq_true,decide_eq_true_eq] at this;rcases this with h2|h2
  ·omega
  ·rw[bl_eq] at h2;have h3:(rdT l ((i+d+1:Nat):Int)).toList<(rdT l ((i+d+1+1:Nat):Int)).toList:=by simpa using h2
   exact List.lt_trans h1 h3
theorem asc_nodup(l:List ByteArray)(h:ascR l l.length 0=true):l.Nodup:=by
 refine List.pairwise_iff_getElem.2 (fun i j hi hj hij e=>?_);have:=asc_lt l h (j - i - 1) i yo_;rw[show i+(j - i - 1)+1=j by omega,rdT_at l i hi,rdT_at l j hj,e] at this;exact List.lt_irrefl _ this
theorem rootsL_len:∀ps:List Prof,(∀p ∈ ps,p.f2.length<=50)->(rootsL ps).length<=ps.length*50
 |[],_=>by simp[rootsL]
 |p::ps,h=>by
  have h1:=rootsL_len ps (fun p hp=>h p (List.mem_cons_of_mem _ hp));have h2:=h p (List.mem_cons_self ..);have h3:(rootsL (p::ps)).length=p.f2.length+(rootsL ps).length:=by simp[rootsL]
  rw[h3,List.length_cons];omega
theorem goodOf{st:List Item}{ps:List Prof}{qs:List Pend}{ns:List Next}(H:Sized st ps qs ns)(hw:worldOk st ps qs ns=true):Good st ps qs ns:=by
 simp only[worldOk,Bool.and_eq_true,storeOk,profilesOk,decide_eq_true_eq] at hw;obtain⟨⟨⟨⟨⟨⟨⟨⟨hl,ha⟩,hit⟩,hpl,hpr⟩,hq⟩,hn⟩,hpe⟩,_⟩,_⟩:=hw;have hpl2:(vD st).length=st.length:=by simp[vD]
 have hI:∀x ∈ st,itemOk x (vD st)=true:=fun x hx=>by
  obtain⟨j,hj,rfl⟩:=List.getElem_of_mem hx;rw[<-rdI_at st j hj];exact itm_of st _ _ 0 hit j yo_ yo_
 have hA:∀x ∈ st,addrOk x.f0=true:=fun x hx=>by
  have:=hI x hx;simp only[itemOk,Bool.and_eq_true] at this;exact this.1.1.1.1
 have hg:∀p ∈ ps,p.f2.length<=50:=fun p hp=>by
  obtain⟨j,hj,rfl⟩:=List.getElem_of_mem hp;rw[<-rdP_at ps j hj];exact prf_of ps _ 0 hpr j yo_ yo_
 refine⟨hl,fun x hx=>?_,fun x hx=>addr_size2 (hA x hx),fun x hx e=>?_,asc_nodup _ (by rw[hpl2];exact ha),hq,hn,hpl,hg,fun q hm=>⟨H.qs q hm,?_⟩,?_⟩
 ·have:=hI x hx;simp only[itemOk,Bool.and_eq_true,sameT,decide_eq_true_eq] at this;have h1:=this.1.2.1;have h2:=refs_len x.f4 (vD st);omega
 ·have h1:=addr_size (hA x hx);have h2:x.f0.size=x.f0.toList.length:=by rw[ByteArray.toList_eq,Array.length_toList];rfl
  rw[h2,e] at h1;simp at h1
 ·obtain⟨j,hj,rfl⟩:=List.getElem_of_mem hm;rw[<-rdQ_at qs j hj];exact pnd_of qs _ 0 hpe j yo_ yo_
 ·have:=rootsL_len ps hg;omega
abbrev Wr:=S54
abbrev rdW(xs:List Wr)(i:Int):Wr:=rd_T54 xs i
theorem rdW_at(xs:List Wr)(i:Nat)(h:i<xs.length):rdW xs (i:Int)=xs[i]:=by
 show xs.getD i z54=_
 simp[List.getD_eq_getElem?_getD,List.getElem?_eq_getElem h]
theorem eqW_l(t:List Wr)(hl:t.length<=1048576)(ha:∀x ∈ t,Ev (fun k=>laws_eqEntryS.f k x.f3 x.f3) true):∀d i:Nat,t.length=i+d->Ev (fun k=>laws_eqWriteS.l0 k t t (i:Int)) true
 |0,i,h=>by
  refine Ev.step (fun k=>by rw[laws_eqWriteS.l0]) ?_;simp only[if_neg (show¬(i:Int)<t.length by omega)];exact Ev.now _
 |d+1,i,h=>by
  have hw:wrap64 ((i:Int)+1)=((i+1:Nat):Int):=w64n yo_;have hx:Ev (fun k=>laws_eqEntryS.f k (rdW t i).f3 (rdW t i).f3) true:=by rw[rdW_at t i yo_];exact ha _ (List.getElem_mem _)
  refine Ev.step (fun k=>by rw[laws_eqWriteS.l0]) ?_;simp only[if_pos (show(i:Int)<t.length by omega),if_pos (show(0:Int)<=i by omega),hw];refine Ev.bind (a:=true) ?_ ?_
  ·unfold laws_eqWrite.f;simp only[if_true];refine Ev.bind hx ?_;simp only[if_true];exact Ev.now _
  ·simp only[if_true];exact eqW_l t hl ha d (i+1) yo_
theorem eqW(t:List Wr)(hl:t.length<=1048576)(ha:∀x ∈ t,Ev (fun k=>laws_eqEntryS.f k x.f3 x.f3) true):Ev (fun k=>laws_eqWriteS.f k t t) true:=by
 unfold laws_eqWriteS.f;simp only[if_true];exact eqW_l t hl ha t.length 0 yo_
theorem mhWrite:∀(d i k:Nat) (X:List Wr),X.length=i+d->X.length<=1048576->(∀x ∈ X,x.f3.length<=1048576)->k+d*10000000<=4611686018427387904->∃(n:Nat) (M:List Wr),Ev (fun r=>laws_markWriteS.l0 r X (k:Int) (i:Int)) ((n:Int),M)/\
 Ev (fun r=>laws_heldWriteS.l0 r M (k:Int) (i:Int)) (n:Int)/\M.length=X.length/\M.take i=X.take i/\n<=k+d*10000000
 |0,i,k,X,h,hl,hx,hk=>by
  refine⟨k,X,Ev.step (fun r=>by rw[laws_markWriteS.l0]) ?_,Ev.step (fun r=>by rw[laws_heldWriteS.l0]) ?_,rfl,rfl,Nat.le_refl _⟩
  ·simp only[if_neg (show¬(i:Int)<X.length by omega)];exact Ev.now _
  ·simp only[if_neg (show¬(i:Int)<X.length by omega)];exact Ev.now _
 |d+1,i,k,X,h,hl,hx,hk=>by
  have hX:(rdW X i).f3.length<=1048576:=by rw[rdW_at X i yo_];exact hx _ (List.getElem_mem _)
  obtain⟨s1,hs1⟩:=mText (k+1) yo_;obtain⟨s2,hs2⟩:=mText (k+1+1) yo_;obtain⟨n3,M3,b1,b2,b3,_,b5⟩:=mhEntry (rdW X i).f3.length 0 (k+1+1+1) (rdW X i).f3 yo_ hX yo_;obtain⟨s4,hs4⟩:=mText n3 yo_;obtain⟨v,hv⟩:∃v:Wr,v=⟨(k:Int),s1,s2,M3,s4,((n3+1:Nat):Int)⟩:=⟨_,rfl⟩
  obtain⟨n,M,h1,h2,h3,h4,h5⟩:=mhWrite d (i+1) (n3+1+1) (X.set i v) (by rw[List.length_set];omega) (by rw[List.length_set];omega) (fun x h=>by
   rcases List.mem_or_eq_of_mem_set h with h|rfl
   ·exact hx x h
   ·rw[hv];show M3.length<=_;omega) yo_
  rw[List.length_set] at h3;obtain⟨hM,hT⟩:=set_get z54 h4 yo_ h3;replace hM:rdW M i=v:=hM;refine⟨n,M,Ev.step (fun r=>by rw[laws_markWriteS.l0]) ?_,Ev.step (fun r=>by rw[laws_heldWriteS.l0]) ?_,h3,hT,by omega⟩
  ·simp only[if_pos (show(i:Int)<X.length by omega),Int.toNat_natCast,w1 (show k<4611686018427387905 by omega),w1 (show k+1<4611686018427387905 by omega),w1 (show k+1+1<4611686018427387905 by omega),w1 (show i<4611686018427387905 by omega)];refine Ev.bind hs1 (Ev.bind hs2 (Ev.bind b1 (Ev.bind hs4 ?_)));simp only[w1 (show n3<4611686018427387905 by omega),w1 (show n3+1<4611686018427387905 by omega),<-hv];exact h1
  ·simp only[if_pos (show(i:Int)<M.length by omega),if_pos (show(0:Int)<=i by omega),hM,hv,if_true,w1 (show k<4611686018427387905 by omega),w1 (show k+1<4611686018427387905 by omega),w1 (show k+1+1<4611686018427387905 by omega),w1 (show i<4611686018427387905 by omega)];refine Ev.bind hs1 ?_;simp only[if_true];refine Ev.bind hs2 ?_;simp only[if_true];refine Ev.bind b2 ?_;simp only[if_neg (show¬(n3:Int)<0 by omega)];refine Ev.bind hs4 ?_;simp only[if_true,w1 (show n3<4611686018427387905 by omega),w1 (show n3+1<4611686018427387905 by omega)];exact h2
theorem take_push{α:Type}(X:List α)(i:Nat)(h:i<X.length):X.take i++[X[i]]=X.take (i+1):=by
 rw[List.take_add_one,List.getElem?_eq_getElem h];rfl
theorem cpTreeI(t:List Entry)(h:t.length<=1048576):impl_copyTree.f t=some t:=by
 unfold impl_copyTree.f;simp only[Option.bind_some,List.length_nil,List.nil_append,if_pos (show 0+t.length<2932031007402 by omega)]
theorem cpItemI(x:Item)(h:x.f2.length<=1048576)(h':x.f4.length<=1048576):impl_copyItem.f x.f0 x.f1 x.f2 x.f3 x.f4=some (x.f0,x.f1,x.f2,x.f3,x.f4):=by
 unfold impl_copyItem.f;simp only[Option.bind_some,List.length_nil,List.nil_append,if_pos (show 0+x.f2.length<8796093022208 by omega),cpTreeI _ h']
section
variable (st : List Item) (hs : st.length <= 1048576) (hi : ∀ x ∈ st, x.f2.length <= 1048576 /\ x.f4.length <= 1048576)
include hs hi
theorem cpStoreI:∀d i:Nat,st.length=i+d->Ev (fun k=>impl_copyStore.l0 k (st.take i) st (st.length:Int) (i:Int)) st
 |0,i,h=>by
  refine Ev.step (fun k=>by rw[impl_copyStore.l0]) ?_;simp only[if_neg (show¬(i:Int)<st.length by omega),List.take_of_length_le (show st.length<=i by omega)];exact Ev.now _
 |d+1,i,h=>by
  have ih:=cpStoreI d (i+1) yo_;have hm:=hi _ (List.getElem_mem (show i<st.length by omega));have hl:(st.take i).length=i:=by rw[List.length_take];omega
  refine Ev.step (fun k=>by rw[impl_copyStore.l0]) ?_;have e:rdI st i=st[i]:=rdI_at st i yo_;simp only[if_pos (show(i:Int)<st.length by omega),if_pos (show(0:Int)<=i by omega),e,cpItemI _ hm.1 hm.2,Option.bind_some,hl,if_pos (show i<1466015503701 by omega),w1 (show i<4611686018427387905 by omega)];rw[<-take_push st i yo_] at ih;exact ih
end
section
variable (ps : List Prof) (hs : ps.length <= 1048576) (hi : ∀ x ∈ ps, x.f2.length <= 1048576)
include hs hi
theorem cpProfsI:∀d i:Nat,ps.length=i+d->Ev (fun k=>impl_copyProfiles.l0 k (ps.take i) ps (ps.length:Int) (i:Int)) ps
 |0,i,h=>by
  refine Ev.step (fun k=>by rw[impl_copyProfiles.l0]) ?_;simp only[if_neg (show¬(i:Int)<ps.length by omega),List.take_of_length_le (show ps.length<=i by omega)];exact Ev.now _
 |d+1,i,h=>by
  have ih:=cpProfsI d (i+1) yo_;have hm:=hi _ (List.getElem_mem (show i<ps.length by omega));have hl:(ps.take i).length=i:=by rw[List.length_take];omega
  refine Ev.step (fun k=>by rw[impl_copyProfiles.l0]) ?_;have e:rdP ps i=ps[i]:=rdP_at ps i yo_;simp only[if_pos (show(i:Int)<ps.length by omega),if_pos (show(0:Int)<=i by omega),e,Option.bind_some,List.length_nil,List.nil_append,if_pos (show 0+ps[i].f2.length<5864062014805 by omega),hl,if_pos (show i<2932031007402 by omega),w1 (show i<4611686018427387905 by omega)];rw[<-take_push ps i yo_] at ih;exact ih
end
section
variable (qs : List Pend) (hs : qs.length <= 1048576) (hi : ∀ x ∈ qs, x.f1.length <= 1048576) (a : List Item) (b : List Prof) (n : List Next)
include hs hi
theorem cpPendI:∀d i:Nat,qs.length=i+d->Ev (fun k=>impl_copyWorld.l0 k qs (qs.length:Int) (i:Int) a b (qs.take i) n) (a,b,qs,n)
 |0,i,h=>by
  refine Ev.step (fun k=>by rw[impl_copyWorld.l0]) ?_;simp only[if_neg (show¬(i:Int)<qs.length by omega),List.take_of_length_le (show qs.length<=i by omega)];exact Ev.now _
 |d+1,i,h=>by
  have ih:=cpPendI d (i+1) yo_;have hm:=hi _ (List.getElem_mem (show i<qs.length by omega));have hl:(qs.take i).length=i:=by rw[List.length_take];omega
  refine Ev.step (fun k=>by rw[impl_copyWorld.l0]) ?_;have e:rdQ qs i=qs[i]:=rdQ_at qs i yo_;simp only[if_pos (show(i:Int)<qs.length by omega),if_pos (show(0:Int)<=i by omega),e,cpTreeI _ hm,Option.bind_some,hl,if_pos (show i<2513169434916 by omega),w1 (show i<4611686018427387905 by omega)];rw[<-take_push qs i yo_] at ih;exact ih
end
section
variable {a : List LItem} {b : List LProfile} {c : List LPending} {d : List LNext}
theorem cpWorldI(H:SmallW a b c d):Ev (fun k=>impl_copyWorld.f k (a.map cpItem) (b.map vE) (c.map vH) (d.map cpNext)) (a.map cpItem,b.map vE,c.map vH,d.map cpNext):=by
 unfold impl_copyWorld.f;have hd:=H.d.len;refine Ev.bind (cpStoreI _ (by simpa using H.a.len) (fun x hx=>?_) (a.map cpItem).length 0 yo_) ?_
 ·obtain⟨y,hy,rfl⟩:=List.mem_map.1 hx;exact⟨(H.a.all y hy).f2.len,by simpa[cpItem] using(H.a.all y hy).f4.len⟩
 refine Ev.bind (cpProfsI _ (by simpa using H.b.len) (fun x hx=>?_) (b.map vE).length 0 yo_) ?_
 ·obtain⟨y,hy,rfl⟩:=List.mem_map.1 hx;simpa[vE] using(H.b.all y hy).f2.len
 simp only[Option.bind_some,List.length_nil,List.nil_append,if_pos (show 0+(d.map cpNext).length<4398046511104 by rw[List.length_map];omega)];refine cpPendI _ (by simpa using H.c.len) (fun x hx=>?_) _ _ _ (c.map vH).length 0 yo_;obtain⟨y,hy,rfl⟩:=List.mem_map.1 hx;simpa[vH] using(H.c.all y hy).f1.len
theorem ePlanC(H:SmallW a b c d):∃R:List Wr,Ev (fun k=>impl_PlanCollect.f k (a.map cpItem) (b.map vE) (c.map vH) (d.map cpNext)) R/\Ev (fun k=>spec_PlanCollect.f k (a.map cpItem) (b.map vE) (c.map vH) (d.map cpNext)) R/\R.length<=1000/\∀x ∈ R,x.f3=[]:=by
 have hI:=eWorldI (sized H);have hS:=eWorldS (sized H);unfold impl_PlanCollect.f spec_PlanCollect.f;cases hw:worldOk (a.map cpItem) (b.map vE) (c.map vH) (d.map cpNext) with
 |false=>
  rw[hw] at hI hS;refine⟨[],Ev.bind hI ?_,Ev.bind hS ?_,by decide,fun x hx=>by cases hx⟩
  ·simp only[Bool.false_eq_true,if_false];exact Ev.now _
  ·simp only[Bool.false_eq_true,if_false];exact Ev.now _
 |true=>
  rw[hw] at hI hS;have G:=goodOf (sized H) hw;have hs:=G.hs;obtain⟨R,e1,e2,e3,e4⟩:=eColl _ _ G (Nat.le_refl _) [] (by rw[List.length_nil];omega);rw[List.nil_append] at e1 e2;refine⟨R,Ev.bind hI ?_,Ev.bind hS ?_,by omega,fun x hx=>by obtain⟨p,_,rfl⟩:=e4 x hx;rfl⟩
  ·simp only[if_true];refine Ev.bind (cpWorldI H) ?_;exact e1
  ·simp only[if_true];exact e2
end
theorem collLaw(a:List LItem)(b:List LProfile)(c:List LPending)(d:List LNext)(ha:BItemS a)(hb:BProfileS b)(hc:BPendingS c)(hd:BNextS d){A0 A1 A2 A3:Option Addr}{c0 c1 c2 c3:Nat}{w:World}
 (hL:Nd.L4 w A0 c0 A1 c1 A2 c2 A3 c3 a b c d) (hG:GOK w):Calls Tryz.prog 5 #[.agg #[.slice A0 a.length c0,.slice A1 b.length c1,.slice A2 c.length c2,.slice A3 d.length c3]] w fun e w'=>e= .returned (.bool true)/\Below w.heap.size w w':=by
 obtain⟨r,e,hr⟩:=szWorld_ok a b c d ha hb hc hd;obtain⟨kz,hz⟩:=e.rounds;by_cases h0:r<0
 ·exact laws_FnExactPlanCollect.much hL hz h0
 obtain⟨r0,r1,H⟩:=hr.resolve_left h0;obtain⟨kt,ht⟩:=(toWorld_ok H).rounds;obtain⟨kw,hw⟩:=(eqWorld_ok H).rounds;have eN:Ev (fun k=>laws_eqEntryS.f k ([]:List CEntry) []) true:=eqEntryS_ok [] yd_ (fun x hx=>by cases hx);obtain⟨R,e1,e2,l2,l3⟩:=ePlanC H;obtain⟨ki,hi⟩:=e1.rounds;obtain⟨ks,hs⟩:=e2.rounds;obtain⟨ke,he⟩:=(eqW R yo_ (fun x hx=>by rw[l3 x hx];exact eN)).rounds;obtain⟨m,M,m1,m2,_,_,m5⟩:=mhWrite R.length 0 1 R yo_ yo_ (fun x hx=>by rw[l3 x hx];exact Nat.zero_le _) yo_;obtain⟨km,hm⟩:=m1.rounds;obtain⟨kh,hh⟩:=m2.rounds;have fw:=few15 H;exact laws_FnExactPlanCollect.calls hL hG hz h0 ht hs hi he hw (show laws_markWriteS.f km R 1=_ from hm) (show laws_heldWriteS.f kh M 1=_ from hh) yo_ yo_ yo_
end P
open Go.Deep
namespace P
def vJ{H:Type}(enc:TypeId×Value->H)(W:World)(t:TypeId){α:Type}(k:Kd α)(B:α->Prop):Prop:=
 ∀fuel cs x,DataW.trod enc Tryz.prog W 0 (fun _=>true) true fuel t cs=some x->(∀n ∈ x.1.weights Tryz.prog t,n<=reachBytes)->∃a,k.K W a cs/\B a
def OpensF{H:Type}(enc:TypeId×Value->H)(W:World)(N:Nat)(fs:List Field)(off:Nat){α:Type}(k:Kd α)(B:α->Prop):Prop:=
 ∀(n:Nat) (cs:List Value) (xs:List (DataW H×List MemPlace)),cs.length=N->xs.length=fs.length->
  (∀(i:Nat) (f:Field),fs[i]?=some f->DataW.trod enc Tryz.prog W 0 (fun _=>true) true n f.type ((cs.drop f.offset).take (Tryz.prog.cellsOf f.type))=xs[i]?)->
  (∀m ∈ DataW.weightsEach Tryz.prog (fs.map (·.type)) (xs.map (·.1)),m<=reachBytes)->∃a,k.K W a (cs.drop off)/\B a
section
variable {H : Type} {enc : TypeId × Value -> H} {W : World}
theorem reach_big{n:Nat}(h:n<=reachBytes):n<=big:=by have:=reachBytes_lt;unfold big;omega
theorem vJ.str{t:TypeId}(ht:Tryz.prog.underlying t=some .string):vJ enc W t Kd.string (fun s=>s.size<=big):=by
 intro fuel cs x h hw;obtain⟨s,rfl,rfl,_⟩:=DataW.trod_string ht h;refine⟨s,rfl,reach_big ?_⟩;have:=hw s.data.toList.length (by simp[DataW.weights])
 rwa [Array.length_toList] at this
theorem vJ.num{t:TypeId}{k:IntKind}(ht:Tryz.prog.underlying t=some (.int k)):vJ enc W t (Kd.int k) (fun _=>True):=by
 intro fuel cs x h hw;obtain⟨n,rfl,rfl,_⟩:=DataW.trod_int ht h;exact⟨n,rfl,trivial⟩
theorem vJ.bool{t:TypeId}(ht:Tryz.prog.underlying t=some .bool):vJ enc W t Kd.bool (fun _=>True):=by
 intro fuel cs x h hw;obtain⟨n,rfl,rfl⟩:=DataW.trod_bool ht h;exact⟨n,rfl,trivial⟩
theorem list_lt{α:Type}{p:Nat->α->Prop}:∀n:Nat,(∀i,i<n->∃x,p i x)->∃l:List α,l.length=n/\∀i x,l[i]?=some x->p i x
 |0,_=>⟨[],rfl,fun i x h=>by simp at h⟩
 |n+1,h=>by
  obtain⟨l,hl,hp⟩:=list_lt n (fun i hi=>h i yo_);obtain⟨x,hx⟩:=h n yo_;refine⟨l++[x],by simp[hl],fun i y hy=>?_⟩;by_cases hi:i<l.length
  ·rw[List.getElem?_append_left hi] at hy;exact hp i y hy
  ·rw[List.getElem?_append_right yo_] at hy;have h0:i - l.length=0:=by
    rcases Nat.eq_zero_or_pos (i - l.length) with h0|h0
    ·exact h0
    ·rw[List.getElem?_eq_none (by simp;omega)] at hy;cases hy
   rw[h0] at hy;obtain rfl:x=y:=by simpa using hy
   rw[show i=n by omega];exact hx
theorem all_mem{P:Program}{e:TypeId}{b:Nat}:∀(l:List (DataW H)),(∀n ∈ DataW.weightsAll P e l,n<=b)->∀d ∈ l,∀n ∈ d.weights P e,n<=b
 |[],_,d,hd=>by cases hd
 |x::l,h,d,hd=>by
  intro n hn;rcases List.mem_cons.1 hd with rfl|hd
  ·exact h n (by simp[DataW.weightsAll,hn])
  ·exact all_mem l (fun m hm=>h m (by simp[DataW.weightsAll,hm])) d hd n hn
theorem vJ.slice{t e:TypeId}{α:Type}{k:Kd α}{B:α->Prop}(ht:Tryz.prog.underlying t=some (.slice e))(hc:Tryz.prog.cellsOf e=k.sz)(hb:1<=Tryz.prog.bytesOf e)(h:vJ enc W e k B):
 vJ enc W t (Kd.slice e k) (fun l=>l.length<=big/\∀x ∈ l,B x):=by
 intro fuel cs x hx hw;rcases open_slice ht hx with⟨rfl,_⟩|⟨a,len,cap,m,n,D,Pl,rfl,_,hl,hm,hmm,rfl,hD⟩
 ·exact⟨[],⟨none,0,rfl,Nat.le_refl _,rfl,Nat.zero_le _,fun hp=>absurd hp (Nat.lt_irrefl _)⟩,Nat.zero_le _,fun x hx=>by cases hx⟩
 ·obtain rfl:m=cap:=by simpa using hmm
  simp only[DataW.weights,ht] at hw;have hlen:len<=big:=by
   have h1:=hw _ (List.mem_cons_self ..);simp only[List.length_map,List.length_range] at h1;refine reach_big (Nat.le_trans ?_ h1)
   calc len<=len+(m - len):=by omega
    _=(len+(m - len))*1:=by omega
    _<=_:=Nat.mul_le_mul_left _ hb
  have hall:∀i,i<len->∀n ∈ (D i).weights Tryz.prog e,n<=reachBytes:=fun i hi=>
   all_mem ((List.range len).map D) (fun n hn=>hw n (List.mem_cons_of_mem _ (List.mem_append_left _ hn))) (D i) (List.mem_map.2 ⟨i,List.mem_range.2 hi,rfl⟩)
  obtain⟨l,hll,hp⟩:=list_lt (p:=fun i (x:α)=>∃cs',W.cells? 0 (a.add (i*Tryz.prog.cellsOf e)) (Tryz.prog.cellsOf e)=some cs'/\k.K W x cs'/\B x) len (fun i hi=>by
   obtain⟨cs',h1,h2⟩:=hD i yo_;obtain⟨y,h3,h4⟩:=h _ _ _ h2 (hall i hi);exact⟨y,cs',h1,h3,h4⟩)
  refine⟨l,⟨some a,m,by rw[hll],by omega,rfl,by unfold big at hlen;omega,fun hpos=>⟨a,rfl,fun j p hj=>?_⟩⟩,by omega,fun x hxm=>?_⟩
  ·obtain⟨cs',h1,h2,_⟩:=hp j p hj;obtain⟨_,h3,h4⟩:=World.cells?_some h1;refine⟨cs',h3.trans hc,h2,fun i u hu=>?_⟩;have hi:i<cs'.length:=(List.getElem?_eq_some_iff.1 hu).1;rw[<-hu,<-h4 i yo_,Deep.add_add,hc]
  ·obtain⟨j,hj⟩:=List.getElem?_of_mem hxm;obtain⟨_,_,_,h3⟩:=hp j x hj;exact h3
theorem vJ.last{N:Nat}{f:Field}{off:Nat}{α:Type}{k:Kd α}{B:α->Prop}(ho:f.offset=off)(hn:off+Tryz.prog.cellsOf f.type=N)(h:vJ enc W f.type k B):OpensF enc W N [f] off k B:=by
 intro n cs xs hl hx hf hw
 match xs,hx with
 |[x],_=>
  have h0:=hf 0 f rfl;rw[ho,List.take_of_length_le (by rw[List.length_drop];omega)] at h0;exact h n _ x h0 (fun m hm=>hw m (by simp[DataW.weightsEach,hm]))
theorem vJ.cons{N:Nat}{f:Field}{fs:List Field}{off:Nat}{α β:Type}{k:Kd α}{k':Kd β}{B:α->Prop}{B':β->Prop}(ho:f.offset=off)(h:vJ enc W f.type k B)(hs:OpensF enc W N fs (off+Tryz.prog.cellsOf f.type) k' B'):
 OpensF enc W N (f::fs) off (Kd.pair k k') (fun p=>B p.1/\B' p.2):=by
 intro n cs xs hl hx hf hw
 match xs,hx with
 |x::xs,hx=>
  have h0:=hf 0 f rfl;rw[ho] at h0;obtain⟨a,h1,h2⟩:=h n _ x h0 (fun m hm=>hw m (by simp only[List.map_cons,DataW.weightsEach];exact List.mem_append_left _ hm));obtain⟨b,h3,h4⟩:=hs n cs xs hl (by simpa using hx) (fun i g hg=>hf (i+1) g hg) (fun m hm=>hw m (by simp only[List.map_cons,DataW.weightsEach];exact List.mem_append_right _ hm));refine⟨(a,b),⟨_,_,?_,h1,h3⟩,h2,h4⟩;rw[<-List.drop_drop,List.take_append_drop]
theorem vJ.struct{t:TypeId}{fs:Array Field}{α β:Type}{k:Kd α}{B:α->Prop}{f:β->α}(ht:Tryz.prog.underlying t=some (.struct fs))(h:OpensF enc W (Tryz.prog.cellsOf t) fs.toList 0 k B)(g:α->β)(hg:∀a,f (g a)=a):
 vJ enc W t (Kd.iso k f) (fun x=>B (f x)):=by
 intro fuel cs x hx hw;obtain⟨xs,n,_,rfl,hl,hlen,hf⟩:=DataW.trod_struct ht hx;simp only[DataW.weights,ht] at hw;obtain⟨a,h1,h2⟩:=h n cs xs hl (by simpa using hlen) (fun i f hf'=>hf i f (by simpa using hf')) hw;refine⟨g a,?_,?_⟩
 ·show k.K W (f (g a)) cs
  rw[hg];simpa using h1
 ·show B (f (g a))
  rw[hg];exact h2
theorem vJ.imp{t:TypeId}{α:Type}{k:Kd α}{B B':α->Prop}(h:vJ enc W t k B)(hi:∀a,B a->B' a):vJ enc W t k B':=fun n cs x hx hw=>by
 obtain⟨a,h1,h2⟩:=h n cs x hx hw;exact⟨a,h1,hi a h2⟩
end
end P
end Go.Proofs.YtmdoobnlehkmpaaGreatDoor.Q
namespace Go.Proofs.YtmdoobnlehkmpaaGreatDoor.Law
open Go.ChangeShapes Go.WideShapes Go.ChangeAt Go.RowKit Go.Deep
open Q Q.P W1 W2 W3
section
variable {H : Type} {enc : TypeId × Value -> H} {W : World}
theorem oStr:vJ enc W 9 Kd.string (fun s=>s.size<=big):=vJ.str Tryz.underlying9
theorem oEntry:vJ enc W 80 k80 BEntry:=
 (vJ.struct Tryz.underlying80 (vJ.cons rfl oStr (vJ.cons (by kernel_rfl) (vJ.num Tryz.underlying2) (vJ.cons (by kernel_rfl) oStr (vJ.last (by kernel_rfl) (by kernel_rfl) (vJ.bool Tryz.underlying4)))))
  (fun p=>⟨p.1,p.2.1,p.2.2.1,p.2.2.2⟩) (fun _=>rfl)).imp fun a h=>⟨h.1,h.2.2.1⟩
theorem oEntryS:vJ enc W 28 (Kd.slice 80 k80) BEntryS:=
 (vJ.slice Tryz.underlying28 (by kernel_rfl) (of_decide_eq_true (by kernel_rfl)) oEntry).imp fun a h=>⟨h.1,h.2⟩
theorem oStringS:vJ enc W 101 (Kd.slice 9 Kd.string) BStringS:=
 (vJ.slice Tryz.underlying101 (by kernel_rfl) (of_decide_eq_true (by kernel_rfl)) oStr).imp fun a h=>⟨h.1,h.2⟩
theorem oItem:vJ enc W 119 k119 BItem:=
 (vJ.struct Tryz.underlying119 (vJ.cons rfl oStr (vJ.cons (by kernel_rfl) oStr (vJ.cons (by kernel_rfl) oStringS (vJ.cons (by kernel_rfl) oStr (vJ.last (by kernel_rfl) (by kernel_rfl) oEntryS)))))
  (fun p=>⟨p.1,p.2.1,p.2.2.1,p.2.2.2.1,p.2.2.2.2⟩) (fun _=>rfl)).imp fun a h=>⟨h.1,h.2.1,h.2.2.1,h.2.2.2.1,h.2.2.2.2⟩
theorem oGen:vJ enc W 206 k206 BGen:=
 (vJ.struct Tryz.underlying206 (vJ.cons rfl (vJ.num Tryz.underlying2) (vJ.last (by kernel_rfl) (by kernel_rfl) oStr)) (fun p=>⟨p.1,p.2⟩) (fun _=>rfl)).imp fun a h=>⟨h.2⟩
theorem oGenS:vJ enc W 121 (Kd.slice 206 k206) BGenS:=
 (vJ.slice Tryz.underlying121 (by kernel_rfl) (of_decide_eq_true (by kernel_rfl)) oGen).imp fun a h=>⟨h.1,h.2⟩
theorem oProfile:vJ enc W 123 k123 BProfile:=
 (vJ.struct Tryz.underlying123 (vJ.cons rfl oStr (vJ.cons (by kernel_rfl) (vJ.num Tryz.underlying2) (vJ.last (by kernel_rfl) (by kernel_rfl) oGenS))) (fun p=>⟨p.1,p.2.1,p.2.2⟩) (fun _=>rfl)).imp fun a h=>⟨h.1,h.2.2⟩
theorem oPending:vJ enc W 126 k126 BPending:=
 (vJ.struct Tryz.underlying126 (vJ.cons rfl oStr (vJ.cons (by kernel_rfl) oEntryS (vJ.last (by kernel_rfl) (by kernel_rfl) oStr))) (fun p=>⟨p.1,p.2.1,p.2.2⟩) (fun _=>rfl)).imp fun a h=>⟨h.1,h.2.1,h.2.2⟩
theorem oNext:vJ enc W 129 k129 BNext:=
 (vJ.struct Tryz.underlying129 (vJ.cons rfl oStr (vJ.last (by kernel_rfl) (by kernel_rfl) oStr)) (fun p=>⟨p.1,p.2⟩) (fun _=>rfl)).imp fun a h=>⟨h.1,h.2⟩
theorem oItemS:vJ enc W 22 (Kd.slice 119 k119) BItemS:=
 (vJ.slice Tryz.underlying22 (by kernel_rfl) (of_decide_eq_true (by kernel_rfl)) oItem).imp fun a h=>⟨h.1,h.2⟩
theorem oProfileS:vJ enc W 23 (Kd.slice 123 k123) BProfileS:=
 (vJ.slice Tryz.underlying23 (by kernel_rfl) (of_decide_eq_true (by kernel_rfl)) oProfile).imp fun a h=>⟨h.1,h.2⟩
theorem oPendingS:vJ enc W 24 (Kd.slice 126 k126) BPendingS:=
 (vJ.slice Tryz.underlying24 (by kernel_rfl) (of_decide_eq_true (by kernel_rfl)) oPending).imp fun a h=>⟨h.1,h.2⟩
theorem oNextS:vJ enc W 25 (Kd.slice 129 k129) BNextS:=
 (vJ.slice Tryz.underlying25 (by kernel_rfl) (of_decide_eq_true (by kernel_rfl)) oNext).imp fun a h=>⟨h.1,h.2⟩
end
theorem own:ownKnob Tryz.prog.godebug=none:=by kernel_rfl
theorem laidOut:laidOutB Tryz.prog=true:=by kernel_rfl
def laid:List (String×DataW Unit):=Rows.fnExactPlanCollectRow.laid
theorem wrap{H:Type}{enc:TypeId×Value->H}{a:Assume}{C:Checked}{os:Os}{f:FuncId}{fn:Func}{s:ChangeSpec}{apart fresh handsOn again:Bool}{X:World->Array Value->Prop}
 (own:ownKnob C.prog.godebug=none) (started:os.Started) (noInit:C.prog.inits.idxOf? f=none) (hfn:C.prog.funcs[f]?=some fn)
 (witness:∃(w:World) (tape:Tape) (i:Input),w.os=os/\(w.forCall tape i).Shaped C.prog/\i.vars=[]/\Input.okWide C.prog (w.forCall tape i) .any w.heap.size f i/\
  ((s.pre enc C.prog fn [] apart (w.forCall tape i).memory i.args/\X (w.forCall tape i).memory i.args)/\sizedMet enc C.prog fn (OpenSpec.ofChange s) apart (w.forCall tape i).memory i.args)/\a.holds C.prog (lone (Frame.enter C.prog f i.args .normal) [] (w.forCall tape i)))
 (contract:∀(W:World) (base:Nat) (args:Array Value) (ds gs:List (DataW H)) (before:List MemPlace),
  (∀(j:Nat) t v,fn.params[j]?=some t->args[j]?=some v->Value.okWide C.prog W .any base t v)->
  DataW.Whole enc C.prog fn.params.toList s.vars apart W args.toList ds gs before->
  (DataW.weightsEach C.prog (fn.params.toList++s.plain.varTypes C.prog) (ds++gs)).all (· <=reachBytes)=true->
  W.ShapedOpen C.prog->
  Calls C.prog f args W fun e W'=>∃v,e= .returned v/\s.post enc C.prog fn apart fresh handsOn again W args v W'):
 ReturnsInHanded a C os f .any (fun w args=>(s.pre enc C.prog fn [] apart w args/\X w args)/\sizedMet enc C.prog fn (OpenSpec.ofChange s) apart w args) (s.post enc C.prog fn apart fresh handsOn again):=by
 refine returnsInHanded_of_calls own started noInit witness ?_;intro w tape i _ hsh _ hok hpre _;obtain⟨_,_,_,fn',hfn',_,_,_,_,hval⟩:=hok;have e:fn'=fn:=Option.some.inj (hfn'.symm.trans hfn);subst e;obtain⟨⟨⟨ds,gs,before,hw,_⟩,_⟩,hz⟩:=hpre;have hw':=DataW.Whole.of_heap (w':=w.forCall tape i) (by rfl) hw;refine(contract (w.forCall tape i) w.heap.size i.args ds gs before hval hw' (hz.weights hw) hsh).mono fun e W' ⟨v,he,hp⟩=>?_;subst he;exact ChangeSpec.post_blind hp
set_option maxRecDepth 100000 in
set_option maxHeartbeats 1000000 in
theorem lifted(os:Os)(started:os.Started)(H:Type)(enc:TypeId×Value->H):
 ReturnsInHanded {} Tryz.checked os 5 .any (fun w args=>(Rows.fnExactPlanCollectSpec.pre enc Tryz.prog Tryz.f5 [] false w args/\laidMetH Tryz.prog laid w)/\sizedMet enc Tryz.prog Tryz.f5 (OpenSpec.ofChange Rows.fnExactPlanCollectSpec) false w args)
  (Rows.fnExactPlanCollectSpec.post enc Tryz.prog Tryz.f5 false true false false):=by
 refine wrap (C:=Tryz.checked) (X:=fun w _=>laidMetH Tryz.prog laid w) own started (by kernel_rfl) Tryz.func5
  (ChangeSpec.witness_shaped (enc:=enc) (C:=Tryz.checked) (os:=os) (X:=fun w _=>laidMetH Tryz.prog laid w) false (World.laidAll Tryz.prog os laid) #[.agg #[.slice none 0 0,.slice none 0 0,.slice none 0 0,.slice none 0 0]] 8 (World.laidAll_os _ _ _)
   (World.shaped_of_ZipB (by kernel_rfl) (by kernel_rfl)) (by kernel_rfl) (by kernel_rfl) (by kernel_rfl)
   (by rw[MakeChecks.laidMetH_plain _ _ _ (by kernel_rfl)];exact laidMet_laidAll _ (by kernel_rfl) (by kernel_rfl))) ?_
 intro W base args ds gs before hval0 hW hsz0 hsh;have hsz:(DataW.weightsEach Tryz.prog (Tryz.f5.params.toList++Rows.fnExactPlanCollectSpec.plain.varTypes Tryz.prog) (ds++gs)).all (· <=reachBytes)=true:=hsz0;have hval:∀(j:Nat) t v,Tryz.f5.params[j]?=some t->args[j]?=some v->Value.okWide Tryz.prog W .any base t v:=hval0;have hW':=hW;obtain⟨p,q,hA0,hV,rfl,_,_⟩:=hW;have hA:DataW.TrodAll enc Tryz.prog W 0 (fun _=>true) true Tryz.f5.params.toList args.toList ds p:=hA0;rw[Tryz.params5] at hA hval hsz;obtain⟨v0,d0,rfl,rfl,h0⟩:=trodAll_one hA;obtain⟨rfl,rfl⟩:=trodVars_none hV;have h0k:=h0;have lt0:∀x ∈ p,x.block<W.heap.size:=by obtain⟨m,hm⟩:=h0k;exact DataW.trod_lt m _ _ _ hm
 obtain⟨w0,w1,w2,w3,y0,y1,y2,y3,n,rfl,rfl,rfl,h0a,h0b,h0c,h0d⟩:=Joins.open_agg4 Tryz.underlying27 (by kernel_rfl) (by kernel_rfl) (hval 0 27 v0 rfl rfl) h0;have hz:∀m ∈ DataW.weightsEach Tryz.prog [22,23,24,25] [y0.1,y1.1,y2.1,y3.1],m<=reachBytes:=fun m hm=>by
  have:=List.all_eq_true.1 hsz m (DataW.weights_mem_each (j:=0) (t:=27) (d:= .agg [y0.1,y1.1,y2.1,y3.1]) rfl rfl m (by simp only[DataW.weights,Tryz.underlying27];exact hm));simpa using this
 simp only[DataW.weightsEach,List.mem_append] at hz;obtain⟨l0,⟨A0,c0,e0,hc0,hr0⟩,b0⟩:=oItemS (enc:=enc) (W:=W) n [w0] y0 h0a (fun m hm=>hz m (.inl hm));obtain⟨l1,⟨A1,c1,e1,hc1,hr1⟩,b1⟩:=oProfileS (enc:=enc) (W:=W) n [w1] y1 h0b (fun m hm=>hz m (.inr (.inl hm)));obtain⟨l2,⟨A2,c2,e2,hc2,hr2⟩,b2⟩:=oPendingS (enc:=enc) (W:=W) n [w2] y2 h0c (fun m hm=>hz m (.inr (.inr (.inl hm))));obtain⟨l3,⟨A3,c3,e3,hc3,hr3⟩,b3⟩:=oNextS (enc:=enc) (W:=W) n [w3] y3 h0d (fun m hm=>hz m (.inr (.inr (.inr (.inl hm)))));simp only[List.cons.injEq,and_true] at e0 e1 e2 e3;subst e0 e1 e2 e3;obtain⟨m,hm⟩:=cell_of_shapedOpen_int (P:=Tryz.prog) (g:=0) (t:=3) (zero:= #[.int .i64 0]) hsh (of_decide_eq_true (by kernel_rfl)) (by kernel_rfl) rfl (by kernel_rfl) (by kernel_rfl) Tryz.underlying3;refine(collLaw l0 l1 l2 l3 b0 b1 b2 b3 ⟨hr0,hc0,hr1,hc1,hr2,hc2,hr3,hc3⟩ ⟨m,hm⟩).mono fun e W' ⟨he,bel⟩=>?_;subst he;exact⟨_,rfl,_,_,_,[],_,[],hW',trodAll_mk1 (shut_bool Tryz.underlying4 _),trodAll_mk1 (Below.trod laidOut (by kernel_rfl) (of_decide_eq_true (by kernel_rfl)) h0k bel lt0),rfl,bel.frame _,fun h=>by cases h⟩
theorem holds:Rows.fnExactPlanCollectRow.holds Tryz.pinned (OpenSpec.ofChange Rows.fnExactPlanCollectSpec):=
 OpenClaim.holds_of_wide 5 Tryz.f5 rfl rfl rfl rfl rfl rfl rfl ⟨rfl,rfl,rfl,rfl,rfl⟩ rfl rfl rfl rfl rfl (by kernel_rfl) Tryz.func5 (by kernel_rfl)
  (of_decide_eq_true (by kernel_rfl)) (by unfold Func.isWrapper;first|(rw[if_pos (by decide+kernel)];kernel_rfl)|(rw[if_neg (by decide+kernel)];exact⟨rfl,rfl⟩))
  (fun os started H enc _=>lifted os started H enc)
theorem card_holds:Rows.FnExactPlanCollectCardSaid:=
 Claim7.holds_tied_plain_at .later [] [.data,.pinned] true _ false holds (fun _ h=>by cases h) (by kernel_rfl) (fun _ h=>by cases h) fnExactPlanCollect_row_tie rfl ⟨rfl,rfl⟩ (by kernel_rfl) rfl
  (fun f fn hf hfn=>by
   obtain rfl:f=5:=Option.some.inj ((show Tryz.prog.funcNamed "loop.example/g00023/laws.FnExactPlanCollect"=some 5 by kernel_rfl).symm.trans hf)|>.symm
   obtain rfl:fn=Tryz.f5:=(Option.some.inj (Tryz.func5.symm.trans hfn)).symm;exact⟨by kernel_rfl,fun j t ht=>by
    rw[Tryz.params5] at ht;have hm:t ∈ [27]:=by simpa using Array.mem_of_getElem? ht
    have hall:([27].all fun u=> !Tryz.prog.wantsStandIn u)=true:=by kernel_rfl
    exact(show Tryz.prog.wantsStandIn t=false by simpa using List.all_eq_true.1 hall t hm)⟩)
  (by kernel_rfl)
#print axioms card_holds
end Go.Proofs.YtmdoobnlehkmpaaGreatDoor.Law
