import Derived.Test.YtcekmnclmldmmaaGreatDoorN19
import Derived.Test.YtcekmnclmldmmaaGreatDoorN21
set_option linter.unusedVariables false
set_option linter.unusedSimpArgs false
namespace Go.Proofs.YtcekmnclmldmmaaGreatDoor.Q
open Go.RowKit W1 W2 W3
namespace P
def fnd(st:List Item)(u:ByteArray):Nat→Nat→Int
 |0,_=> -1
 |d+1,i=>if(rdI st i).f0.toList=u.toList then i else fnd st u d (i+1)
theorem fnd_at(st:List Item)(u:ByteArray):∀d i:Nat,st.length=i+d→fnd st u d i<0∨∃j:Nat,fnd st u d i=j∧j<st.length∧(rdI st j).f0.toList=u.toList
 |0,i,h=> .inl (show(-1:Int)<0 by decide)
 |d+1,i,h=>by
  unfold fnd
  split
  ·rename_i e
   exact .inr ⟨i,rfl,by omega,e⟩
  ·exact fnd_at st u d (i+1) (by omega)
theorem eFndI(st:List Item)(u:ByteArray)(hs:st.length≤1048576):∀d i:Nat,st.length=i+d→Ev (fun k=>impl_itemOf.l0 k u st (st.length:Int) (i:Int)) (fnd st u d i)
 |0,i,h=>by
  refine Ev.step (fun k=>by rw[impl_itemOf.l0]) ?_
  simp only[if_neg (show¬(i:Int)<st.length by omega)]
  exact Ev.now _
 |d+1,i,h=>by
  refine Ev.step (fun k=>by rw[impl_itemOf.l0]) ?_
  simp only[if_pos (show(i:Int)<st.length by omega),if_pos (show(0:Int)≤i by omega),fnd]
  by_cases he:(rdI st i).f0.toList=u.toList
  ·simp only[if_pos he];exact Ev.now _
  ·simp only[if_neg he]
   rw[w64n (by omega)]
   exact eFndI st u hs d (i+1) (by omega)
theorem eFndS(st:List Item)(u:ByteArray)(hs:st.length≤1048576):∀d i:Nat,st.length=i+d→Ev (fun k=>spec_l12Find.l0 k st u (i:Int)) (fnd st u d i)
 |0,i,h=>by
  refine Ev.step (fun k=>by rw[spec_l12Find.l0]) ?_
  simp only[if_neg (show¬(i:Int)<st.length by omega)]
  exact Ev.now _
 |d+1,i,h=>by
  refine Ev.step (fun k=>by rw[spec_l12Find.l0]) ?_
  simp only[if_pos (show(i:Int)<st.length by omega),if_pos (show(0:Int)≤i by omega),fnd]
  by_cases he:(rdI st i).f0.toList=u.toList
  ·simp only[if_pos he];exact Ev.now _
  ·simp only[if_neg he]
   rw[w64n (by omega)]
   exact eFndS st u hs d (i+1) (by omega)
def fndP(st:List Prof)(u:ByteArray):Nat→Nat→Int
 |0,_=> -1
 |d+1,i=>if(rdP st i).f0.toList=u.toList then i else fndP st u d (i+1)
theorem fndP_at(st:List Prof)(u:ByteArray):∀d i:Nat,st.length=i+d→fndP st u d i<0∨∃j:Nat,fndP st u d i=j∧j<st.length
 |0,i,h=> .inl (show(-1:Int)<0 by decide)
 |d+1,i,h=>by
  unfold fndP
  split
  ·exact .inr ⟨i,rfl,by omega⟩
  ·exact fndP_at st u d (i+1) (by omega)
theorem eFndPI(st:List Prof)(u:ByteArray)(hs:st.length≤1048576):∀d i:Nat,st.length=i+d→Ev (fun k=>impl_profileOf.l0 k u st (st.length:Int) (i:Int)) (fndP st u d i)
 |0,i,h=>by
  refine Ev.step (fun k=>by rw[impl_profileOf.l0]) ?_
  simp only[if_neg (show¬(i:Int)<st.length by omega)]
  exact Ev.now _
 |d+1,i,h=>by
  refine Ev.step (fun k=>by rw[impl_profileOf.l0]) ?_
  simp only[if_pos (show(i:Int)<st.length by omega),if_pos (show(0:Int)≤i by omega),fndP]
  by_cases he:(rdP st i).f0.toList=u.toList
  ·simp only[if_pos he];exact Ev.now _
  ·simp only[if_neg he]
   rw[w64n (by omega)]
   exact eFndPI st u hs d (i+1) (by omega)
theorem eFndPS(st:List Prof)(u:ByteArray)(hs:st.length≤1048576):∀d i:Nat,st.length=i+d→Ev (fun k=>spec_l13Find.l0 k st u (i:Int)) (fndP st u d i)
 |0,i,h=>by
  refine Ev.step (fun k=>by rw[spec_l13Find.l0]) ?_
  simp only[if_neg (show¬(i:Int)<st.length by omega)]
  exact Ev.now _
 |d+1,i,h=>by
  refine Ev.step (fun k=>by rw[spec_l13Find.l0]) ?_
  simp only[if_pos (show(i:Int)<st.length by omega),if_pos (show(0:Int)≤i by omega),fndP]
  by_cases he:(rdP st i).f0.toList=u.toList
  ·simp only[if_pos he];exact Ev.now _
  ·simp only[if_neg he]
   rw[w64n (by omega)]
   exact eFndPS st u hs d (i+1) (by omega)
def cur(gs:List Gen)(n:Int):Nat→Nat→ByteArray
 |0,_=>⟨#[]⟩
 |d+1,i=>if(rdG gs i).f0=n then(rdG gs i).f1 else cur gs n d (i+1)
theorem eCurI(a:ByteArray)(n:Int)(gs:List Gen)(hg:gs.length≤1048576):∀d i:Nat,gs.length=i+d→Ev (fun k=>impl_current.l0 k gs (gs.length:Int) (i:Int) a n gs) (cur gs n d i)
 |0,i,h=>by
  refine Ev.step (fun k=>by rw[impl_current.l0]) ?_
  simp only[if_neg (show¬(i:Int)<gs.length by omega)]
  exact Ev.now _
 |d+1,i,h=>by
  refine Ev.step (fun k=>by rw[impl_current.l0]) ?_
  simp only[if_pos (show(i:Int)<gs.length by omega),if_pos (show(0:Int)≤i by omega),cur]
  by_cases he:(rdG gs i).f0=n
  ·simp only[if_pos he];exact Ev.now _
  ·simp only[if_neg he]
   rw[w64n (by omega)]
   exact eCurI a n gs hg d (i+1) (by omega)
theorem eGenS(a:ByteArray)(m n:Int)(gs:List Gen)(hg:gs.length≤1048576):∀d j:Nat,gs.length=j+d→∃r:Int,Ev (fun k=>spec_l13Gen.l0 k n (j:Int) a m gs) r∧(r<0∧cur gs n d j=⟨#[]⟩∨0≤r∧r<gs.length∧cur gs n d j=(rdG gs r).f1)
 |0,j,h=>by
  refine⟨-1,Ev.step (fun k=>by rw[spec_l13Gen.l0]) ?_,.inl ⟨by decide,rfl⟩⟩
  simp only[if_neg (show¬(j:Int)<gs.length by omega)]
  exact Ev.now _
 |d+1,j,h=>by
  by_cases he:(rdG gs j).f0=n
  ·refine⟨j,Ev.step (fun k=>by rw[spec_l13Gen.l0]) ?_,.inr ⟨by omega,by omega,by simp[cur,he]⟩⟩
   simp only[if_pos (show(j:Int)<gs.length by omega),if_pos (show(0:Int)≤j by omega),if_pos he]
   exact Ev.now _
  ·obtain⟨r,h1,h2⟩:=eGenS a m n gs hg d (j+1) (by omega)
   refine⟨r,Ev.step (fun k=>by rw[spec_l13Gen.l0]) ?_,by rw[cur,if_neg he];exact h2⟩
   simp only[if_pos (show(j:Int)<gs.length by omega),if_pos (show(0:Int)≤j by omega),if_neg he]
   rw[w64n (by omega)]
   exact h1
theorem eCurS(a:ByteArray)(n:Int)(gs:List Gen)(hg:gs.length≤1048576):Ev (fun k=>spec_l13Current.f k a n gs) (cur gs n gs.length 0):=by
 unfold spec_l13Current.f
 obtain⟨r,e,h⟩:=eGenS a n n gs hg gs.length 0 (by omega)
 refine Ev.bind e ?_
 rcases h with⟨h1,h2⟩|⟨h1,h2,h3⟩
 ·simp only[if_pos h1,h2];exact Ev.now _
 ·simp only[if_neg (show¬r<0 by omega),if_pos h1,if_pos h2]
  rw[h3]
  exact Ev.now _
theorem cur0(gs:List Gen):∀d i:Nat,gensR gs d i=true→cur gs 0 d i=⟨#[]⟩
 |0,_,_=>rfl
 |d+1,i,h=>by
  simp only[gensR,Bool.and_eq_true,genOk,decide_eq_true_eq] at h
  rw[cur,if_neg (by omega)]
  exact cur0 gs d (i+1) h.2
theorem gens_of(ps:List Prof):∀d i:Nat,profsR ps d i=true→∀j,i≤j→j<i+d→gensR (rdP ps j).f2 (rdP ps j).f2.length 0=true
 |0,i,h,j,h1,h2=>by omega
 |d+1,i,h,j,h1,h2=>by
  simp only[profsR,Bool.and_eq_true,profOk] at h
  by_cases e:j=i
  ·subst e;exact h.1.2.2
  ·exact gens_of ps d (i+1) h.2 j (by omega) (by omega)
theorem items_of(st:List Item)(l:List ByteArray):∀d i:Nat,itR st l d i=true→∀j,i≤j→j<i+d→addrOk (rdI st j).f0=true
 |0,i,h,j,h1,h2=>by omega
 |d+1,i,h,j,h1,h2=>by
  simp only[itR,Bool.and_eq_true,itemOk] at h
  by_cases e:j=i
  ·subst e;exact h.1.1.1.1.1
  ·exact items_of st l d (i+1) h.2 j (by omega) (by omega)
theorem eHas(l:List ByteArray)(u:ByteArray)(hl:l.length≤1048576):∀d i:Nat,l.length=i+d→Ev (fun k=>spec_l3Has.l0 k l u (i:Int)) (MapSet.has u (l.drop i))
 |0,i,h=>by
  refine Ev.step (fun k=>by rw[spec_l3Has.l0]) ?_
  rw[List.drop_of_length_le (by omega)]
  simp only[if_neg (show¬(i:Int)<l.length by omega)]
  exact Ev.now _
 |d+1,i,h=>by
  have hi:i<l.length:=by omega
  have hr:=rdT_at l i hi
  refine Ev.step (fun k=>by rw[spec_l3Has.l0]) ?_
  simp only[if_pos (show(i:Int)<l.length by omega),if_pos (show(0:Int)≤i by omega)]
  rw[List.drop_eq_getElem_cons hi]
  by_cases he:(rdT l i).toList=u.toList
  ·have e:u=l[i]:=by
    rw[←hr]
    exact MapSet.inj (by rw[←ByteArray.toList_eq,←ByteArray.toList_eq,he])
   refine Ev.congr (fun k=>if_pos he) ?_
   rw[(has_iff u (l[i]::l.drop (i+1))).2 (by rw[e];exact List.mem_cons_self ..)]
   exact Ev.now _
  ·refine Ev.congr (fun k=>if_neg he) ?_
   rw[w64n (by omega)]
   have e:u≠l[i]:=fun e=>he (by rw[hr,e])
   have e2:MapSet.has u (l[i]::l.drop (i+1))=MapSet.has u (l.drop (i+1)):=by
    rw[Bool.eq_iff_iff,has_iff,has_iff,List.mem_cons]
    exact⟨fun h=>h.resolve_left e,.inr⟩
   rw[e2]
   exact eHas l u hl d (i+1) (by omega)
def rem(g:Item→Nat)(S:List ByteArray):List Item→Nat
 |[]=>0
 |x::st=>(if MapSet.has x.f0 S=true then 0 else g x)+rem g S st
theorem rem_mono(g:Item→Nat)(S:List ByteArray)(u:ByteArray):∀st,rem g (u::S) st≤rem g S st
 |[]=>Nat.le_refl _
 |x::st=>by
  have:=rem_mono g S u st
  unfold rem
  by_cases h:MapSet.has x.f0 S=true
  ·rw[if_pos h,if_pos ((has_iff _ _).2 (List.mem_cons_of_mem _ ((has_iff _ _).1 h)))];omega
  ·rw[if_neg h]
   split<;>omega
theorem rem_add(g:Item→Nat)(S:List ByteArray)(u:ByteArray)(hu:u ∉ S):∀st x,x ∈ st→x.f0=u→rem g (u::S) st+g x≤rem g S st
 |y::st,x,hx,e=>by
  have h1:=rem_mono g S u st
  unfold rem
  rcases List.mem_cons.1 hx with rfl|hx
  ·rw[if_neg (fun h=>hu (e ▸ (has_iff _ _).1 h)),if_pos ((has_iff _ _).2 (by rw[e];exact List.mem_cons_self ..))]
   omega
  ·have:=rem_add g S u hu st x hx e
   by_cases h:MapSet.has y.f0 S=true
   ·rw[if_pos h,if_pos ((has_iff _ _).2 (List.mem_cons_of_mem _ ((has_iff _ _).1 h)))];omega
   ·rw[if_neg h]
    split<;>omega
theorem rem_le(g:Item→Nat)(B:Nat)(S:List ByteArray):∀st,(∀x ∈ st,g x≤B)→rem g S st≤st.length*B
 |[],_=>Nat.zero_le _
 |x::st,h=>by
  have h1:=rem_le g B S st (fun y hy=>h y (List.mem_cons_of_mem _ hy))
  have h2:=h x (List.mem_cons_self ..)
  unfold rem
  rw[List.length_cons,Nat.succ_mul]
  split<;>omega
abbrev gr(x:Item):Nat:=x.f2.length+1
theorem eClos(st:List Item)(hs:st.length≤300)(hr:∀x ∈ st,x.f2.length≤1048576)(hz:∀x ∈ st,x.f0.size≤1048576):∀(m:Nat) (S t:List ByteArray),rem gr S st+t.length≤m→m≤1000000000→S.Nodup→S.length+rem (fun _=>1) S st≤st.length→(∀x ∈ S,x.size≤1048576)→
 ∃S':List ByteArray,Ev (fun k=>impl_closure.l0 k st S t) S'∧Ev (fun k=>spec_l12Closure.l0 k st ((sortL S).map mk) t) (impl_sorted.out S')∧S'.length≤300∧∀x ∈ S',x.size≤1048576:=by
 intro m
 induction m with
 |zero=>
  intro S t hm hM hn hc hS
  obtain rfl:t=[]:=List.length_eq_zero_iff.1 (by omega)
  refine⟨S,Ev.step (fun k=>by rw[impl_closure.l0]) ?_,Ev.step (fun k=>by rw[spec_l12Closure.l0]) ?_,by omega,hS⟩
  ·exact Ev.now _
  ·rw[out_eq S S hn (fun _=>Iff.rfl)]
   exact Ev.now _
 |succ m ih=>
  intro S t hm hM hn hc hS
  rcases Nat.eq_zero_or_pos t.length with h0|h0
  ·obtain rfl:t=[]:=List.length_eq_zero_iff.1 h0
   refine⟨S,Ev.step (fun k=>by rw[impl_closure.l0]) ?_,Ev.step (fun k=>by rw[spec_l12Closure.l0]) ?_,by omega,hS⟩
   ·exact Ev.now _
   ·rw[out_eq S S hn (fun _=>Iff.rfl)]
    exact Ev.now _
  obtain⟨n,hn1⟩:∃n,t.length=n+1:=⟨t.length - 1,by omega⟩
  have ew:wrap64 ((t.length:Int) - 1)=(n:Int):=by rw[wrap64_small (by omega) (by omega)];omega
  have hpos:(t.length:Int)>0:=by omega
  have hk:=eFndI st (rdT t n) (by omega) st.length 0 (by omega)
  have hk':=eFndS st (rdT t n) (by omega) st.length 0 (by omega)
  have hlt:(t.take n).length=n:=by rw[List.length_take];omega
  suffices H:∃S':List ByteArray,Ev (fun k=>(impl_itemOf.f k st (rdT t n)).bind fun i=>if i<0 then impl_closure.l0 k st S (t.take n) else((MapB.get S (rdT t n)).bind fun c=>if c=true then impl_closure.l0 k st S (t.take n) else((MapB.put S (rdT t n)).bind fun s'=>if i<(st.length:Int)∧t.length+((rdI st i).f2).length<8796093022208 then impl_closure.l0 k st s' (t.take n++(rdI st i).f2) else none))) S'∧
   Ev (fun k=>(spec_l12Find.f k st (rdT t n)).bind fun t496=>(if t496<0 then(spec_l12Closure.l0 k st ((sortL S).map mk) (t.take n)) else((spec_l3Has.f k ((sortL S).map mk) (rdT t n)).bind fun t497=>(if t497=true then(spec_l12Closure.l0 k st ((sortL S).map mk) (t.take n)) else((spec_l3Add.f k ((sortL S).map mk) (rdT t n)).bind fun t498=>(if 0≤t496 then(if t496<(st.length:Int) then(if(t.take n).length+((rdI st t496).f2).length<8796093022208 then(spec_l12Closure.l0 k st t498 (t.take n++((rdI st t496).f2))) else(none)) else(none)) else(none))))))) (impl_sorted.out S')∧S'.length≤300∧∀x ∈ S',x.size≤1048576 by
   obtain⟨S',e1,e2,e3⟩:=H
   refine⟨S',Ev.step (fun k=>by rw[impl_closure.l0]) ?_,Ev.step (fun k=>by rw[spec_l12Closure.l0]) ?_,e3⟩
   ·simp only[if_pos hpos,ew,if_pos (show t.length<8796093022208 by omega),Int.toNat_natCast]
    exact e1
   ·simp only[if_pos hpos,ew,if_pos (show(0:Int)≤n by omega),if_pos (show(n:Int)<(t.length:Int) by omega),if_pos (show(n:Int)≤(t.length:Int) by omega),Option.bind_some,Int.toNat_natCast]
    exact e2
  rcases fnd_at st (rdT t n) st.length 0 (by omega) with hf|⟨j,hj,hjl,hje⟩
  ·obtain⟨S',e1,e2,e3⟩:=ih S (t.take n) (by omega) (by omega) hn hc hS
   refine⟨S',Ev.bind hk ?_,Ev.bind hk' ?_,e3⟩
   ·simp only[if_pos hf];exact e1
   ·simp only[if_pos hf];exact e2
  rw[hj] at hk hk'
  have hmem:rdI st (j:Int) ∈ st:=by rw[rdI_at st j hjl];exact List.getElem_mem hjl
  have hp:rdT t n=(rdI st (j:Int)).f0:=MapSet.inj (by rw[←ByteArray.toList_eq,←ByteArray.toList_eq,hje])
  have hps:(rdT t n).size≤1048576:=by rw[hp];exact hz _ hmem
  have hSl:S.length≤300:=by omega
  have hh:=eHas ((sortL S).map mk) (rdT t n) (by rw[List.length_map,sortL_len];omega) _ 0 (Nat.zero_add _).symm
  have hiff:rdT t n ∈ (sortL S).map mk↔rdT t n ∈ S:=by
   rw[List.mem_map]
   constructor
   ·rintro⟨x,hx,e⟩
    obtain⟨s,hs,e2⟩:=(sortL_mem S x).1 hx
    have:s=rdT t n:=MapSet.inj (by rw[←e,mk_data,e2])
    exact this ▸ hs
   ·intro hx
    exact⟨(rdT t n).data.toList,(sortL_mem S _).2 ⟨_,hx,rfl⟩,MapSet.inj (mk_data _)⟩
  rw[List.drop_zero] at hh
  have hg:MapB.get S (rdT t n)=some (MapSet.has (rdT t n) S):=if_pos (by omega)
  by_cases hin:rdT t n ∈ S
  ·obtain⟨S',e1,e2,e3⟩:=ih S (t.take n) (by omega) (by omega) hn hc hS
   rw[(has_iff _ _).2 (hiff.2 hin)] at hh
   refine⟨S',Ev.bind hk ?_,Ev.bind hk' ?_,e3⟩
   ·simp only[if_neg (show¬(j:Int)<0 by omega),hg,Option.bind_some,if_pos ((has_iff _ _).2 hin)]
    exact e1
   ·simp only[if_neg (show¬(j:Int)<0 by omega)]
    refine Ev.bind hh ?_
    simp only[if_true]
    exact e2
  ·have r1:=rem_add gr S (rdT t n) hin st _ hmem hp.symm
   replace r1:rem gr (rdT t n::S) st+((rdI st (j:Int)).f2.length+1)≤rem gr S st:=r1
   have r2:=rem_add (fun _=>1) S (rdT t n) hin st _ hmem hp.symm
   have hr1:=hr _ hmem
   have hfalse:MapSet.has (rdT t n) S=false:=by rw[Bool.eq_false_iff];exact fun h=>hin ((has_iff _ _).1 h)
   obtain⟨S',e1,e2,e3⟩:=ih (rdT t n::S) (t.take n++(rdI st (j:Int)).f2) (by rw[List.length_append,hlt];omega) (by omega) (List.nodup_cons.2 ⟨hin,hn⟩) (by rw[List.length_cons];omega) (fun x hx=>by
    rcases List.mem_cons.1 hx with rfl|hx
    ·exact hps
    ·exact hS x hx)
   rw[show MapSet.has (rdT t n) ((sortL S).map mk)=false from Bool.eq_false_iff.2 (fun h=>hin (hiff.1 ((has_iff _ _).1 h)))] at hh
   refine⟨S',Ev.bind hk ?_,Ev.bind hk' ?_,e3⟩
   ·simp only[if_neg (show¬(j:Int)<0 by omega),hg,Option.bind_some,hfalse,Bool.false_eq_true,if_false,show MapB.put S (rdT t n)=some (rdT t n::S) from if_pos ⟨by omega,by omega⟩,if_pos (show(j:Int)<(st.length:Int)∧t.length+(rdI st (j:Int)).f2.length<8796093022208 from⟨by omega,by omega⟩)]
    exact e1
   ·simp only[if_neg (show¬(j:Int)<0 by omega)]
    refine Ev.bind hh ?_
    simp only[Bool.false_eq_true,if_false]
    have ha:=eAddS (sortL S) (rdT t n) (by rw[sortL_len];omega) _ 0 (Nat.zero_add _).symm
    rw[List.take_zero,List.drop_zero,List.nil_append,ins_sort S _ hn hin] at ha
    refine Ev.bind ha ?_
    simp only[if_pos (show(0:Int)≤(j:Int) by omega),if_pos (show(j:Int)<(st.length:Int) by omega),hlt,if_pos (show n+(rdI st (j:Int)).f2.length<8796093022208 by omega)]
    exact e2
theorem clos_nil(st:List Item)(S:List ByteArray):Ev (fun k=>spec_l12Closure.l0 k st S []) S:=by
 refine Ev.step (fun k=>by rw[spec_l12Closure.l0]) ?_
 exact Ev.now _
theorem out_len(S:List ByteArray):(impl_sorted.out S).length≤S.length:=by
 unfold impl_sorted.out
 rw[List.length_map,List.length_mergeSort]
 induction S with
 |nil=>exact Nat.le_refl _
 |cons s S ih=>
  unfold impl_sorted.dd
  split
  ·exact Nat.le_succ_of_le ih
  ·exact Nat.succ_le_succ ih
section
variable {st : List Item} {ps : List Prof} {qs : List Pend} {ns : List Next}
theorem eNeed(H:Sized st ps qs ns)(u:ByteArray):∃r:List ByteArray,Ev (fun k=>impl_Needed.f k st ps qs ns u) r∧Ev (fun k=>spec_Needed.f k st ps qs ns u) r∧r.length≤300:=by
 unfold impl_Needed.f spec_Needed.f
 have hI:=eWorldI H
 have hS:=eWorldS H
 cases hw:worldOk st ps qs ns with
 |false=>
  rw[hw] at hI hS
  refine⟨[],Ev.bind hI ?_,Ev.bind hS ?_,by decide⟩
  ·simp only[Bool.false_eq_true,if_false];exact Ev.now _
  ·simp only[Bool.false_eq_true,if_false];exact Ev.now _
 |true=>
  rw[hw] at hI hS
  simp only[worldOk,Bool.and_eq_true,storeOk,profilesOk,decide_eq_true_eq] at hw
  obtain⟨⟨⟨⟨⟨⟨⟨⟨hl,_⟩,hit⟩,hpl,hpr⟩,_⟩,_⟩,_⟩,_⟩,_⟩:=hw
  have hfi:=eFndPI ps u H.psl ps.length 0 (by omega)
  have hfs:=eFndPS ps u H.psl ps.length 0 (by omega)
  rcases fndP_at ps u ps.length 0 (by omega) with hf|⟨j,hj,hjl⟩
  ·refine⟨[],Ev.bind hI ?_,Ev.bind hS ?_,by decide⟩
   ·simp only[if_true]
    refine Ev.bind hfi ?_
    simp only[if_pos hf]
    exact Ev.step (fun k=>by rw[impl_Needed.j0]) (by simp only[if_true];exact Ev.now _)
   ·simp only[if_true]
    refine Ev.bind hfs ?_
    simp only[if_pos hf];exact Ev.now _
  rw[hj] at hfi hfs
  have hz:∀x ∈ st,addrOk x.f0=true:=fun x hx=>by
   obtain⟨i,hi,e⟩:=List.mem_iff_getElem.1 hx
   have:=items_of st (pathsOf st) st.length 0 hit i (by omega) (by omega)
   rw[rdI_at st i hi,e] at this
   exact this
  have hg:=gens_of ps ps.length 0 hpr j (by omega) (by omega)
  have hgl:=H.gat hjl
  have hcl:∀c:ByteArray,∃S':List ByteArray,Ev (fun k=>impl_closure.f k st [c]) S'∧Ev (fun k=>spec_l12Closure.f k st [c]) (impl_sorted.out S')∧S'.length≤300∧∀x ∈ S',x.size≤1048576:=fun c=>by
   have hb:=rem_le gr 1048577 [] st (fun x hx=>by have:=(H.sts x hx).2;show x.f2.length+1≤_;omega)
   obtain⟨S',e1,e2,e3⟩:=eClos st hl (fun x hx=>(H.sts x hx).2) (fun x hx=>addr_size2 (hz x hx)) (rem gr [] st+1) [] [c] (Nat.le_refl _) (by omega) List.nodup_nil (by have:=rem_le (fun _=>1) 1 [] st (fun _ _=>Nat.le_refl _);rw[List.length_nil];omega) (fun x hx=>by cases hx)
   refine⟨S',?_,?_,e3⟩
   ·unfold impl_closure.f
    simp only[List.length_singleton,if_pos (show 1<8796093022208 by decide)]
    exact e1
   ·unfold spec_l12Closure.f
    simp only[Option.bind_some,List.length_nil,List.length_singleton,if_pos (show 0+1<8796093022208 by decide),List.nil_append]
    rw[show(sortL ([]:List ByteArray)).map mk=[] by simp[sortL]] at e2
    exact e2
  by_cases h0:(rdP ps (j:Int)).f1=0
  ·have hc:=cur0 _ _ _ hg
   have hcs:=eCurS (rdP ps (j:Int)).f0 (rdP ps (j:Int)).f1 _ hgl
   rw[h0,hc] at hcs
   refine⟨[],Ev.bind hI ?_,Ev.bind hS ?_,by decide⟩
   ·simp only[if_true]
    refine Ev.bind hfi ?_
    simp only[if_neg (show¬(j:Int)<0 by omega),if_pos (show(0:Int)≤j by omega),if_pos (show(j:Int)<ps.length by omega)]
    refine Ev.step (fun k=>by rw[impl_Needed.j0]) ?_
    refine Ev.congr (fun k=>if_pos (by show((rdP ps (j:Int)).f1==0)=true;rw[h0];rfl)) (Ev.now _)
   ·simp only[if_true]
    refine Ev.bind hfs ?_
    simp only[if_neg (show¬(j:Int)<0 by omega),if_pos (show(0:Int)≤j by omega),if_pos (show(j:Int)<ps.length by omega)]
    refine Ev.bind (by show Ev (fun k=>spec_l13Current.f k (rdP ps (j:Int)).f0 (rdP ps (j:Int)).f1 (rdP ps (j:Int)).f2) _;rw[h0];exact hcs) ?_
    refine Ev.bind (?_:Ev _ ([]:List ByteArray)) (Ev.now _)
    have hno:=fnd_at st ⟨#[]⟩ st.length 0 (by omega)
    have hf:fnd st ⟨#[]⟩ st.length 0<0:=by
     rcases hno with h|⟨i,_,hi,he⟩
     ·exact h
     ·have h1:=addr_size (hz _ (by rw[rdI_at st i hi];exact List.getElem_mem hi:rdI st (i:Int) ∈ st))
      have h2:(rdI st (i:Int)).f0=⟨#[]⟩:=MapSet.inj (by rw[←ByteArray.toList_eq,←ByteArray.toList_eq,he])
      rw[h2] at h1
      exact absurd h1 (by decide)
    have hk':=eFndS st ⟨#[]⟩ (by omega) st.length 0 (by omega)
    unfold spec_l12Closure.f
    simp only[Option.bind_some,List.length_nil,List.length_singleton,if_pos (show 0+1<8796093022208 by decide),List.nil_append]
    refine Ev.step (fun k=>by rw[spec_l12Closure.l0]) ?_
    simp only[List.length_singleton,show wrap64 (((1:Nat):Int) - 1)=0 by simp[wrap64,IntKind.wrap],if_pos (show((1:Nat):Int)>0 by decide),if_pos (show(0:Int)≤0 by decide),if_pos (show(0:Int)<((1:Nat):Int) by decide),if_pos (show(0:Int)≤((1:Nat):Int) by decide),Option.bind_some]
    refine Ev.bind hk' ?_
    simp only[if_pos hf]
    exact(clos_nil st []:Ev (fun k=>spec_l12Closure.l0 k st [] ([]:List ByteArray)) [])
  ·obtain⟨S',e1,e2,e3,e4⟩:=hcl (cur (rdP ps (j:Int)).f2 (rdP ps (j:Int)).f1 (rdP ps (j:Int)).f2.length 0)
   have hci:=eCurI (rdP ps (j:Int)).f0 (rdP ps (j:Int)).f1 _ hgl _ 0 (Nat.zero_add _).symm
   have hcs:=eCurS (rdP ps (j:Int)).f0 (rdP ps (j:Int)).f1 _ hgl
   have hko:impl_keysOf.f S'=some (impl_sorted.out S'):=if_pos ⟨by omega,List.all_eq_true.2 fun x hx=>decide_eq_true (by have:=e4 x hx;omega)⟩
   refine⟨impl_sorted.out S',Ev.bind hI ?_,Ev.bind hS ?_,Nat.le_trans (out_len S') e3⟩
   ·simp only[if_true]
    refine Ev.bind hfi ?_
    simp only[if_neg (show¬(j:Int)<0 by omega),if_pos (show(0:Int)≤j by omega),if_pos (show(j:Int)<ps.length by omega)]
    refine Ev.step (fun k=>by rw[impl_Needed.j0]) ?_
    refine Ev.congr (fun k=>if_neg (by show¬((rdP ps (j:Int)).f1==0)=true;simpa using h0)) ?_
    simp only[if_pos (show(0:Int)≤j by omega),if_pos (show(j:Int)<ps.length by omega)]
    refine Ev.bind hci ?_
    refine Ev.bind e1 ?_
    simp only[hko,Option.bind_some]
    exact Ev.now _
   ·simp only[if_true]
    refine Ev.bind hfs ?_
    simp only[if_neg (show¬(j:Int)<0 by omega),if_pos (show(0:Int)≤j by omega),if_pos (show(j:Int)<ps.length by omega)]
    refine Ev.bind hcs ?_
    exact Ev.bind e2 (Ev.now _)
end
end P
end Go.Proofs.YtcekmnclmldmmaaGreatDoor.Q
