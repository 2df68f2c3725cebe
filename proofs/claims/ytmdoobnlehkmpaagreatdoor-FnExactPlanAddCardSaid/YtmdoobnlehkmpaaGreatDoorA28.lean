/- Proved: at every run the law FnExactPlanAdd returns true (impl.PlanAdd answers as spec.PlanAdd does, leaves its arguments as they were, and its answer owns its memory), under no condition but the card's own: the variables that the row lists read as the program's text lays them. -/
import Derived.Test.YtmdoobnlehkmpaaGreatDoorA23
import Derived.Test.YtmdoobnlehkmpaaGreatDoorA25
import Derived.Test.YtmdoobnlehkmpaaGreatDoorA27
import Derived.Lib.SmallJoins
import Derived.SizedLaws
import Derived.Test.YtmdoobnlehkmpaaGreatDoorCards
import Derived.Test.YtmdoobnlehkmpaaGreatDoorTie
import Derived.ProofKit
import Derived.OpenShut
import Derived.Lay
import Derived.LaidOnce
import Derived.SevenTiedAt
import Derived.Handed
import Derived.Shelf.Vars
import Derived.Carry
set_option linter.unusedVariables false
set_option linter.unusedSimpArgs false
namespace Go.Proofs.YtmdoobnlehkmpaaGreatDoor.Q
open Go.RowKit W1 W2 W3
namespace P
theorem ev_n{α:Type}{c:Prop}[Decidable c]{f:Nat→Option α}{a b:α}(h:¬c)(e:Ev f b):Ev f (if c then a else b):=by rw[if_neg h];exact e
theorem ev_p{α:Type}{c:Prop}[Decidable c]{f:Nat→Option α}{a b:α}(h:c)(e:Ev f a):Ev f (if c then a else b):=by rw[if_pos h];exact e
theorem itR_all{st:List Item}{l:List ByteArray}:∀d i:Nat,itR st l d i=true→∀j:Nat,i≤j→j<i+d→itemOk (rdI st (j:Int)) l=true
 |0,i,h,j,h1,h2=>by omega
 |d+1,i,h,j,h1,h2=>by
  simp only[itR,Bool.and_eq_true] at h
  rcases Nat.lt_or_eq_of_le h1 with q|rfl
  ·exact itR_all d (i+1) h.2 j q (by omega)
  ·exact h.1
theorem storeOk_len{st:List Item}(h:storeOk st=true):st.length≤300:=by
 simp only[storeOk,Bool.and_eq_true,decide_eq_true_eq] at h
 exact h.1.1
theorem storeOk_tree{st:List Item}(h:storeOk st=true){i:Nat}(hi:i<st.length):treeOk (rdI st (i:Int)).f4=true:=by
 simp only[storeOk,Bool.and_eq_true] at h
 have q:=itR_all st.length 0 h.2 i (Nat.zero_le _) (by omega)
 simp only[itemOk,Bool.and_eq_true] at q
 exact q.1.1.1.2
def fnd(st:List Item)(u:ByteArray):Nat→Nat→Int
 |0,_=> -1
 |d+1,i=>if(rdI st i).f0.toList=u.toList then(i:Int) else fnd st u d (i+1)
theorem fnd_lt(st:List Item)(u:ByteArray):∀d i:Nat,fnd st u d i<((i+d:Nat):Int)
 |0,i=>by simp only[fnd];omega
 |d+1,i=>by
  simp only[fnd]
  split
  ·omega
  ·have:=fnd_lt st u d (i+1);omega
theorem eFndI(st:List Item)(u:ByteArray)(hs:st.length≤1048576):∀d i:Nat,st.length=i+d→Ev (fun k=>impl_itemOf.l0 k u st (st.length:Int) (i:Int)) (fnd st u d i)
 |0,i,h=>by
  refine Ev.step (fun k=>by rw[impl_itemOf.l0]) ?_
  simp only[if_neg (show¬(i:Int)<st.length by omega),fnd]
  exact Ev.now _
 |d+1,i,h=>by
  have ih:=eFndI st u hs d (i+1) (by omega)
  refine Ev.step (fun k=>by rw[impl_itemOf.l0]) ?_
  simp only[if_pos (show(i:Int)<st.length by omega),if_pos (show(0:Int)≤i by omega),fnd]
  rw[w64n (by omega)]
  by_cases he:(rdI st i).f0.toList=u.toList
  ·rw[if_pos he];exact Ev.congr (fun k=>if_pos he) (Ev.now _)
  ·rw[if_neg he];exact Ev.congr (fun k=>if_neg he) ih
theorem eFndS(st:List Item)(u:ByteArray)(hs:st.length≤1048576):∀d i:Nat,st.length=i+d→Ev (fun k=>spec_l12Find.l0 k st u (i:Int)) (fnd st u d i)
 |0,i,h=>by
  refine Ev.step (fun k=>by rw[spec_l12Find.l0]) ?_
  simp only[if_neg (show¬(i:Int)<st.length by omega),fnd]
  exact Ev.now _
 |d+1,i,h=>by
  have ih:=eFndS st u hs d (i+1) (by omega)
  refine Ev.step (fun k=>by rw[spec_l12Find.l0]) ?_
  simp only[if_pos (show(i:Int)<st.length by omega),if_pos (show(0:Int)≤i by omega),fnd]
  rw[w64n (by omega)]
  by_cases he:(rdI st i).f0.toList=u.toList
  ·rw[if_pos he];exact Ev.congr (fun k=>if_pos he) (Ev.now _)
  ·rw[if_neg he];exact Ev.congr (fun k=>if_neg he) ih
def clR(st:List Item)(u:ByteArray):Nat→Nat→Bool
 |0,_=>false
 |d+1,i=>decide (0<(refs (rdI st i).f4 [u]).length)||clR st u d (i+1)
def endCode(st:List Item)(b:Bool):Int:=if b=true then 3 else if st.length=300 then 4 else 0
theorem eClI(st:List Item)(hs:sSmall st)(h:storeOk st=true)(u:ByteArray):∀d i:Nat,st.length=i+d→Ev (fun k=>impl_addCode.l0 k st u st (st.length:Int) (i:Int)) (endCode st (clR st u d i))
 |0,i,hd=>by
  have hl:=storeOk_len h
  refine Ev.step (fun k=>by rw[impl_addCode.l0]) ?_
  simp only[if_neg (show¬(i:Int)<st.length by omega),clR,endCode,Bool.false_eq_true,if_false]
  by_cases q:st.length=300
  ·rw[if_pos q];exact Ev.congr (fun k=>if_pos (by omega)) (Ev.now _)
  ·rw[if_neg q];exact Ev.congr (fun k=>if_neg (by omega)) (Ev.now _)
 |d+1,i,hd=>by
  have hl:=storeOk_len h
  have ih:=eClI st hs h u d (i+1) (by omega)
  refine Ev.step (fun k=>by rw[impl_addCode.l0]) ?_
  simp only[if_pos (show(i:Int)<st.length by omega),if_pos (show(0:Int)≤i by omega),clR]
  refine Ev.bind (eRefsI _ (sSmall_at hs (show i<st.length by omega)).1 (storeOk_tree h (show i<st.length by omega)) [u] (by simp)) ?_
  rw[w64n (by omega)]
  by_cases q:0<(refs (rdI st i).f4 [u]).length
  ·rw[decide_eq_true q,Bool.true_or]
   refine Ev.congr (fun k=>if_pos (show((refs (rdI st i).f4 [u]).length:Int)>0 by omega)) ?_
   exact Ev.now _
  ·rw[decide_eq_false q,Bool.false_or]
   exact Ev.congr (fun k=>if_neg (show¬((refs (rdI st i).f4 [u]).length:Int)>0 by omega)) ih
theorem eClS(st:List Item)(hs:sSmall st)(h:storeOk st=true)(u:ByteArray):∀d i:Nat,st.length=i+d→Ev (fun k=>spec_l12Add.l0 k st u (i:Int)) (([]:List Item),endCode st (clR st u d i))
 |0,i,hd=>by
  have hl:=storeOk_len h
  refine Ev.step (fun k=>by rw[spec_l12Add.l0]) ?_
  simp only[if_neg (show¬(i:Int)<st.length by omega),clR,endCode,Bool.false_eq_true,if_false]
  by_cases q:st.length=300
  ·rw[if_pos q];exact Ev.congr (fun k=>if_pos (by omega)) (Ev.now _)
  ·rw[if_neg q];exact Ev.congr (fun k=>if_neg (by omega)) (Ev.now _)
 |d+1,i,hd=>by
  have hl:=storeOk_len h
  have ih:=eClS st hs h u d (i+1) (by omega)
  refine Ev.step (fun k=>by rw[spec_l12Add.l0]) ?_
  simp only[if_pos (show(i:Int)<st.length by omega),if_pos (show(0:Int)≤i by omega),clR]
  refine Ev.bind (eRefsS _ (sSmall_at hs (show i<st.length by omega)).1 (storeOk_tree h (show i<st.length by omega)) [u] (by simp)) ?_
  rw[w64n (by omega)]
  by_cases q:0<(refs (rdI st i).f4 [u]).length
  ·rw[decide_eq_true q,Bool.true_or]
   refine Ev.congr (fun k=>if_pos (show((refs (rdI st i).f4 [u]).length:Int)>0 by omega)) ?_
   exact Ev.now _
  ·rw[decide_eq_false q,Bool.false_or]
   exact Ev.congr (fun k=>if_neg (show¬((refs (rdI st i).f4 [u]).length:Int)>0 by omega)) ih
def code(st:List Item)(u:ByteArray)(t:List Entry):Int:=
 if fnd st u st.length 0≥0 then(if(rdI st (fnd st u st.length 0)).f1.toList=(treeSum t).toList then 1 else 2) else endCode st (clR st u st.length 0)
theorem eJ(st:List Item)(hs:sSmall st)(h:storeOk st=true)(u:ByteArray)(t:List Entry)(ht:tSmall t)(b:Bool):Ev (fun k=>impl_addCode.j0 k st u t b) (if b=true then 5 else code st u t):=by
 have hl:=storeOk_len h
 refine Ev.step (fun k=>by rw[impl_addCode.j0]) ?_
 cases b with
 |true=>simp only[if_true];exact Ev.now _
 |false=>
  simp only[Bool.false_eq_true,if_false,code]
  refine Ev.bind (eFndI st u (by omega) st.length 0 (by omega)) ?_
  have hb:=fnd_lt st u st.length 0
  by_cases q:fnd st u st.length 0≥0
  ·simp only[if_pos q,if_pos (show 0≤fnd st u st.length 0 from q),if_pos (show fnd st u st.length 0<(st.length:Int) by omega)]
   refine Ev.bind (eSumTreeI t ht) ?_
   by_cases p:(rdI st (fnd st u st.length 0)).f1.toList=(treeSum t).toList
   ·simp only[if_pos p];exact Ev.now _
   ·simp only[if_neg p];exact Ev.now _
  ·simp only[if_neg q]
   exact eClI st hs h u st.length 0 (by omega)
theorem eCode(st:List Item)(hs:sSmall st)(h:storeOk st=true)(u:ByteArray)(t:List Entry)(ht:tSmall t)(c:ByteArray):Ev (fun k=>impl_addCode.f k st u t c) (if pendOk u t c=true then code st u t else 5):=by
 unfold impl_addCode.f pendOk
 refine Ev.bind (eStoreI st hs) ?_
 simp only[h,if_true]
 refine Ev.bind (eAddrI u) ?_
 cases addrOk u with
 |false=>
  simp only[Bool.false_eq_true,if_false,Bool.false_and]
  exact eJ st hs h u t ht true
 |true=>
  simp only[if_true,Bool.true_and,fromOk]
  by_cases h0:c.size=0
  ·simp only[if_pos (tl_nil.2 h0),decide_eq_true h0,Bool.true_or,Bool.and_true]
   refine Ev.bind (eTreeI t ht) ?_
   have:=eJ st hs h u t ht (!treeOk t)
   revert this
   cases treeOk t<;>intro h<;>simpa using h
  ·simp only[if_neg (fun h=>h0 (tl_nil.1 h)),decide_eq_false h0,Bool.false_or]
   refine Ev.bind (eAddrI c) ?_
   cases addrOk c with
   |false=>
    simp only[Bool.false_eq_true,if_false,Bool.and_false]
    exact eJ st hs h u t ht true
   |true=>
    simp only[if_true,Bool.and_true]
    refine Ev.bind (eTreeI t ht) ?_
    have:=eJ st hs h u t ht (!treeOk t)
    revert this
    cases treeOk t<;>intro h<;>simpa using h
theorem eAdd(st:List Item)(hs:sSmall st)(h:storeOk st=true)(u:ByteArray)(t:List Entry)(ht:tSmall t)(hT:treeOk t=true)(c:ByteArray):Ev (fun k=>spec_l12Add.f k st u t c) (([]:List Item),code st u t):=by
 have hl:=storeOk_len h
 have hp:(pathsOf st).length=st.length:=by simp[pathsOf]
 unfold spec_l12Add.f
 refine Ev.bind (ePathsOfS st (by omega)) ?_
 simp only[if_pos (show(pathsOf st).length<4398046511104 by omega)]
 refine Ev.bind (eRefsS t ht hT (pathsOf st++[u]) (by simp;omega)) ?_
 simp only[if_pos (show st.length<1000000000000 by omega)]
 unfold spec_l12Add.f0
 refine Ev.bind (eSumTreeS t ht) (Ev.bind (eFndS st u (by omega) st.length 0 (by omega)) ?_)
 have hb:=fnd_lt st u st.length 0
 have e:∀b:Bool,Ev (fun k=>spec_l12Add.j0 k st u (fnd st u st.length 0) b) (([]:List Item),if b=true then 1 else if fnd st u st.length 0≥0 then 2 else endCode st (clR st u st.length 0)):=fun b=>by
  refine Ev.step (fun k=>by rw[spec_l12Add.j0]) ?_
  cases b with
  |true=>simp only[if_true];exact Ev.now _
  |false=>
   simp only[Bool.false_eq_true,if_false]
   by_cases q:fnd st u st.length 0≥0
   ·simp only[if_pos q];exact Ev.now _
   ·simp only[if_neg q];exact eClS st hs h u st.length 0 (by omega)
 unfold code
 by_cases q:fnd st u st.length 0≥0
 ·simp only[if_pos q,if_pos (show 0≤fnd st u st.length 0 from q),if_pos (show fnd st u st.length 0<(st.length:Int) by omega)]
  have e1:=e ((rdI st (fnd st u st.length 0)).f1.toList==(treeSum t).toList)
  simp only[if_pos q,beq_iff_eq] at e1
  exact e1
 ·simp only[if_neg q]
  have e1:=e false
  simp only[if_neg q,Bool.false_eq_true,if_false] at e1
  exact e1
abbrev Wr:=S54
def planR(st:List Item)(qs:List Pend)(u:ByteArray)(t:List Entry)(c:ByteArray):List Wr:=
 if pendOk u t c=true∧¬code st u t>1∧qs.length≠20 then[⟨1,⟨#[]⟩,u,t,c,0⟩,⟨2,⟨#[]⟩,u,[],⟨#[]⟩,0⟩] else[]
section
variable {st : List Item} {ps : List Prof} {qs : List Pend} {ns : List Next}
theorem ePlanI(H:Sized st ps qs ns)(u:ByteArray)(t:List Entry)(ht:tSmall t)(hl:t.length≤1048576)(c:ByteArray):Ev (fun k=>impl_PlanAdd.f k st ps qs ns u t c) (if worldOk st ps qs ns=true then planR st qs u t c else[]):=by
 unfold impl_PlanAdd.f
 refine Ev.bind (eWorldI H) ?_
 cases hw:worldOk st ps qs ns with
 |false=>simp only[Bool.false_eq_true,if_false];exact Ev.now _
 |true=>
  simp only[if_true]
  simp only[worldOk,Bool.and_eq_true,decide_eq_true_eq] at hw
  refine Ev.bind (a:=planR st qs u t c) ?_ (Ev.now _)
  unfold impl_planAdd.f planR
  by_cases h2:(qs.length:Int)≥20
  ·simp only[if_pos h2]
   exact ev_n (fun q=>q.2.2 (by omega)) (Ev.now _)
  ·simp only[if_neg h2]
   refine Ev.bind (eCode st H.sts hw.1.1.1.1.1.1 u t ht c) ?_
   cases hp:pendOk u t c with
   |false=>
    simp only[Bool.false_eq_true,if_false,false_and]
    exact Ev.now _
   |true=>
    simp only[if_true,true_and]
    by_cases h3:code st u t>1
    ·refine ev_n (fun q=>q.1 h3) ?_
     exact Ev.congr (fun k=>if_pos (show code st u t≥2 by omega)) (Ev.now _)
    ·refine ev_p ⟨h3,by omega⟩ ?_
     refine Ev.congr (fun k=>if_neg (show¬code st u t≥2 by omega)) ?_
     unfold impl_copyTree.f
     simp only[Option.bind_some,List.length_nil,List.nil_append,if_pos (show 0+t.length<2932031007402 by omega)]
     exact Ev.now _
theorem ePlanS(H:Sized st ps qs ns)(u:ByteArray)(t:List Entry)(ht:tSmall t)(hl:t.length≤1048576)(c:ByteArray):Ev (fun k=>spec_PlanAdd.f k st ps qs ns u t c) (if worldOk st ps qs ns=true then planR st qs u t c else[]):=by
 unfold spec_PlanAdd.f
 refine Ev.bind (eWorldS H) ?_
 cases hw:worldOk st ps qs ns with
 |false=>simp only[Bool.false_eq_true,if_false];exact Ev.now _
 |true=>
  simp only[if_true]
  simp only[worldOk,Bool.and_eq_true,decide_eq_true_eq] at hw
  refine Ev.bind (ePendS u t ht c) ?_
  unfold planR
  cases hp:pendOk u t c with
  |false=>
   simp only[Bool.false_eq_true,if_false,false_and]
   exact Ev.now _
  |true=>
   simp only[if_true,true_and]
   have hT:treeOk t=true:=by
    simp only[pendOk,Bool.and_eq_true] at hp
    exact hp.1.2
   refine Ev.bind (a:=if¬code st u t>1∧qs.length≠20 then[⟨1,⟨#[]⟩,u,t,c,0⟩,⟨2,⟨#[]⟩,u,[],⟨#[]⟩,0⟩] else[]) ?_ (Ev.now _)
   unfold spec_l19PlanAdd.f
   simp only[Option.bind_some]
   refine Ev.bind (eAdd st H.sts hw.1.1.1.1.1.1 u t ht hT c) ?_
   by_cases h3:code st u t>1
   ·refine ev_n (fun q=>q.1 h3) ?_
    exact Ev.congr (fun k=>if_pos h3) (Ev.now _)
   ·refine Ev.congr (fun k=>if_neg h3) ?_
    by_cases h2:(qs.length:Int)=20
    ·refine ev_n (fun q=>q.2 (by omega)) ?_
     exact Ev.congr (fun k=>if_pos h2) (Ev.now _)
    ·refine ev_p ⟨h3,by omega⟩ ?_
     refine Ev.congr (fun k=>if_neg h2) ?_
     unfold spec_l10Copy.f
     simp only[Option.bind_some,List.length_nil,List.nil_append,if_pos (show 0+t.length<2932031007402 by omega)]
     exact Ev.now _
end
abbrev rdW(xs:List Wr)(i:Int):Wr:=rd_T54 xs i
theorem rdW_at(xs:List Wr)(i:Nat)(h:i<xs.length):rdW xs (i:Int)=xs[i]:=by
 show xs.getD i z54=_
 simp[List.getD_eq_getElem?_getD,List.getElem?_eq_getElem h]
theorem eqW_l(t:List Wr)(hl:t.length≤1048576)(ha:∀x ∈ t,Ev (fun k=>laws_eqEntryS.f k x.f3 x.f3) true):∀d i:Nat,t.length=i+d→Ev (fun k=>laws_eqWriteS.l0 k t t (i:Int)) true
 |0,i,h=>by
  refine Ev.step (fun k=>by rw[laws_eqWriteS.l0]) ?_
  simp only[if_neg (show¬(i:Int)<t.length by omega)]
  exact Ev.now _
 |d+1,i,h=>by
  have hw:wrap64 ((i:Int)+1)=((i+1:Nat):Int):=w64n (by omega)
  have hx:Ev (fun k=>laws_eqEntryS.f k (rdW t i).f3 (rdW t i).f3) true:=by rw[rdW_at t i (by omega)];exact ha _ (List.getElem_mem _)
  refine Ev.step (fun k=>by rw[laws_eqWriteS.l0]) ?_
  simp only[if_pos (show(i:Int)<t.length by omega),if_pos (show(0:Int)≤i by omega),hw]
  refine Ev.bind (a:=true) ?_ ?_
  ·unfold laws_eqWrite.f
   simp only[if_true]
   refine Ev.bind hx ?_
   simp only[if_true]
   exact Ev.now _
  ·simp only[if_true]
   exact eqW_l t hl ha d (i+1) (by omega)
theorem eqW(t:List Wr)(hl:t.length≤1048576)(ha:∀x ∈ t,Ev (fun k=>laws_eqEntryS.f k x.f3 x.f3) true):Ev (fun k=>laws_eqWriteS.f k t t) true:=by
 unfold laws_eqWriteS.f
 simp only[if_true]
 exact eqW_l t hl ha t.length 0 (by omega)
theorem mhWrite:∀(d i k:Nat) (X:List Wr),X.length=i+d→X.length≤1048576→(∀x ∈ X,x.f3.length≤1048576)→k+d*10000000≤4611686018427387904→∃(n:Nat) (M:List Wr),Ev (fun r=>laws_markWriteS.l0 r X (k:Int) (i:Int)) ((n:Int),M)∧
 Ev (fun r=>laws_heldWriteS.l0 r M (k:Int) (i:Int)) (n:Int)∧M.length=X.length∧M.take i=X.take i∧n≤k+d*10000000
 |0,i,k,X,h,hl,hx,hk=>by
  refine⟨k,X,Ev.step (fun r=>by rw[laws_markWriteS.l0]) ?_,Ev.step (fun r=>by rw[laws_heldWriteS.l0]) ?_,rfl,rfl,Nat.le_refl _⟩
  ·simp only[if_neg (show¬(i:Int)<X.length by omega)];exact Ev.now _
  ·simp only[if_neg (show¬(i:Int)<X.length by omega)];exact Ev.now _
 |d+1,i,k,X,h,hl,hx,hk=>by
  have hX:(rdW X i).f3.length≤1048576:=by rw[rdW_at X i (by omega)];exact hx _ (List.getElem_mem _)
  obtain⟨s1,hs1⟩:=mText (k+1) (by omega)
  obtain⟨s2,hs2⟩:=mText (k+1+1) (by omega)
  obtain⟨n3,M3,b1,b2,b3,_,b5⟩:=mhEntry (rdW X i).f3.length 0 (k+1+1+1) (rdW X i).f3 (by omega) hX (by omega)
  obtain⟨s4,hs4⟩:=mText n3 (by omega)
  obtain⟨v,hv⟩:∃v:Wr,v=⟨(k:Int),s1,s2,M3,s4,((n3+1:Nat):Int)⟩:=⟨_,rfl⟩
  obtain⟨n,M,h1,h2,h3,h4,h5⟩:=mhWrite d (i+1) (n3+1+1) (X.set i v) (by rw[List.length_set];omega) (by rw[List.length_set];omega) (fun x h=>by
   rcases List.mem_or_eq_of_mem_set h with h|rfl
   ·exact hx x h
   ·rw[hv];show M3.length≤_;omega) (by omega)
  rw[List.length_set] at h3
  obtain⟨hM,hT⟩:=set_get z54 h4 (by omega) h3
  replace hM:rdW M i=v:=hM
  refine⟨n,M,Ev.step (fun r=>by rw[laws_markWriteS.l0]) ?_,Ev.step (fun r=>by rw[laws_heldWriteS.l0]) ?_,h3,hT,by omega⟩
  ·simp only[if_pos (show(i:Int)<X.length by omega),Int.toNat_natCast,w1 (show k<4611686018427387905 by omega),w1 (show k+1<4611686018427387905 by omega),w1 (show k+1+1<4611686018427387905 by omega),w1 (show i<4611686018427387905 by omega)]
   refine Ev.bind hs1 (Ev.bind hs2 (Ev.bind b1 (Ev.bind hs4 ?_)))
   simp only[w1 (show n3<4611686018427387905 by omega),w1 (show n3+1<4611686018427387905 by omega),←hv]
   exact h1
  ·simp only[if_pos (show(i:Int)<M.length by omega),if_pos (show(0:Int)≤i by omega),hM,hv,if_true,w1 (show k<4611686018427387905 by omega),w1 (show k+1<4611686018427387905 by omega),w1 (show k+1+1<4611686018427387905 by omega),w1 (show i<4611686018427387905 by omega)]
   refine Ev.bind hs1 ?_
   simp only[if_true]
   refine Ev.bind hs2 ?_
   simp only[if_true]
   refine Ev.bind b2 ?_
   simp only[if_neg (show¬(n3:Int)<0 by omega)]
   refine Ev.bind hs4 ?_
   simp only[if_true,w1 (show n3<4611686018427387905 by omega),w1 (show n3+1<4611686018427387905 by omega)]
   exact h2
theorem planR_len{st:List Item}{qs:List Pend}{u:ByteArray}{t:List Entry}{c:ByteArray}:(planR st qs u t c).length≤2:=by
 unfold planR
 split<;>simp
theorem planR_mem{st:List Item}{qs:List Pend}{u:ByteArray}{t:List Entry}{c:ByteArray}{x:Wr}(h:x ∈ planR st qs u t c):x.f3=t∨x.f3=[]:=by
 unfold planR at h
 split at h
 ·rcases List.mem_cons.1 h with rfl|h
  ·exact Or.inl rfl
  ·rcases List.mem_cons.1 h with rfl|h
   ·exact Or.inr rfl
   ·cases h
 ·cases h
theorem addLaw(a:List LItem)(b:List LProfile)(c:List LPending)(d:List LNext)(ha:BItemS a)(hb:BProfileS b)(hc:BPendingS c)(hd:BNextS d)(t:List LEntry)(hT:BEntryS t){A0 A1 A2 A3 At:Option Addr}{c0 c1 c2 c3 ct:Nat}{w:World}(u v:ByteArray)
 (hL:Nd.L4 w A0 c0 A1 c1 A2 c2 A3 c3 a b c d) (hLt:Kd.C k80 w At t.length t∧t.length≤ct) (hG:GOK w):Calls Tryz.prog 3 #[.agg #[.slice A0 a.length c0,.slice A1 b.length c1,.slice A2 c.length c2,.slice A3 d.length c3],.string u,.slice At t.length ct,.string v] w fun e w'=>e= .returned (.bool true)∧Below w.heap.size w w':=by
 by_cases hn1:(u.size:Int)>1048576
 ·exact laws_FnExactPlanAdd.long1 hn1
 by_cases hn3:(v.size:Int)>1048576
 ·exact laws_FnExactPlanAdd.long3 hn1 hn3
 obtain⟨r,e,hr⟩:=szWorld_ok a b c d ha hb hc hd
 obtain⟨kz,hz⟩:=e.rounds
 by_cases h0:r<0
 ·exact laws_FnExactPlanAdd.much (ky:=0) (lg:=0) hL hn1 hn3 hz h0
 obtain⟨r0,r1,H⟩:=hr.resolve_left h0
 obtain⟨s,e',hs'⟩:=szEntryS_ok t hT r r0 r1
 obtain⟨ky,hy⟩:=e'.rounds
 by_cases h1:s<0
 ·exact laws_FnExactPlanAdd.much2 hL hn1 hn3 hLt hz h0 hy h1
 obtain⟨_,_,HT⟩:=hs'.resolve_left h1
 obtain⟨kt,ht⟩:=(toWorld_ok H).rounds
 obtain⟨ku,hu⟩:=(toEntryS_ok t HT).rounds
 obtain⟨kw,hw⟩:=(eqWorld_ok H).rounds
 have hlen:(t.map cpEntry).length≤1048576:=by simpa using HT.len
 have eT:Ev (fun k=>laws_eqEntryS.f k (t.map cpEntry) (t.map cpEntry)) true:=eqEntryS_ok _ hlen (fun x hx=>by obtain⟨y,hy,rfl⟩:=List.mem_map.1 hx;exact fitEntry y (HT.all y hy))
 have eN:Ev (fun k=>laws_eqEntryS.f k ([]:List CEntry) []) true:=eqEntryS_ok [] (by decide) (fun x hx=>by cases hx)
 obtain⟨kv,hv⟩:=eT.rounds
 have tS:tSmall (t.map cpEntry):=tree_small t HT
 obtain⟨R,hR⟩:∃R:List Wr,R=if worldOk (a.map cpItem) (b.map cpProfile) (c.map cpPending) (d.map cpNext)=true then planR (a.map cpItem) (c.map cpPending) u (t.map cpEntry) v else[]:=⟨_,rfl⟩
 have e1:=ePlanI (sized H) u (t.map cpEntry) tS hlen v
 have e2:=ePlanS (sized H) u (t.map cpEntry) tS hlen v
 rw[←hR] at e1 e2
 have l2:R.length≤2:=by rw[hR];split;exact planR_len;exact Nat.zero_le _
 have l3:∀x ∈ R,x.f3=t.map cpEntry∨x.f3=[]:=fun x hx=>by
  rw[hR] at hx
  split at hx
  ·exact planR_mem hx
  ·cases hx
 obtain⟨ki,hi⟩:=e1.rounds
 obtain⟨ks,hs⟩:=e2.rounds
 obtain⟨ke,he⟩:=(eqW R (by omega) (fun x hx=>by rcases l3 x hx with q|q<;>rw[q];exact eT;exact eN)).rounds
 obtain⟨m,M,m1,m2,_,_,m5⟩:=mhWrite R.length 0 1 R (by omega) (by omega) (fun x hx=>by rcases l3 x hx with q|q<;>rw[q];exact hlen;exact Nat.zero_le _) (by omega)
 obtain⟨km,hm⟩:=m1.rounds
 obtain⟨kh,hh⟩:=m2.rounds
 have f4:=Mk.tot_mul (f:=Mk.sEntryS) (B:=4) (fun i=>by unfold Mk.sEntryS;omega) (t.map cpEntry).length
 have fw:=few15 H
 exact laws_FnExactPlanAdd.calls hL hLt hG hn1 hn3 hz h0 hy h1 ht hu hs hi he hw hv (show laws_markWriteS.f km R 1=_ from hm) (show laws_heldWriteS.f kh M 1=_ from hh) (by omega) (by omega) (by omega)
end P
end Go.Proofs.YtmdoobnlehkmpaaGreatDoor.Q
namespace Go.Proofs.YtmdoobnlehkmpaaGreatDoor.Q
open Go.RowKit W1 W2 W3
open Go.Deep
namespace P
def vD{H:Type}(enc:TypeId×Value→H)(W:World)(t:TypeId){α:Type}(k:Kd α)(B:α→Prop):Prop:=
 ∀fuel cs x,DataW.trod enc Tryz.prog W 0 (fun _=>true) true fuel t cs=some x→(∀n ∈ x.1.weights Tryz.prog t,n≤reachBytes)→∃a,k.K W a cs∧B a
def OpensF{H:Type}(enc:TypeId×Value→H)(W:World)(N:Nat)(fs:List Field)(off:Nat){α:Type}(k:Kd α)(B:α→Prop):Prop:=
 ∀(n:Nat) (cs:List Value) (xs:List (DataW H×List MemPlace)),cs.length=N→xs.length=fs.length→
  (∀(i:Nat) (f:Field),fs[i]?=some f→DataW.trod enc Tryz.prog W 0 (fun _=>true) true n f.type ((cs.drop f.offset).take (Tryz.prog.cellsOf f.type))=xs[i]?)→
  (∀m ∈ DataW.weightsEach Tryz.prog (fs.map (·.type)) (xs.map (·.1)),m≤reachBytes)→∃a,k.K W a (cs.drop off)∧B a
section
variable {H : Type} {enc : TypeId × Value → H} {W : World}
theorem reach_big{n:Nat}(h:n≤reachBytes):n≤big:=by have:=reachBytes_lt;unfold big;omega
theorem vD.str{t:TypeId}(ht:Tryz.prog.underlying t=some .string):vD enc W t Kd.string (fun s=>s.size≤big):=by
 intro fuel cs x h hw
 obtain⟨s,rfl,rfl,_⟩:=DataW.trod_string ht h
 refine⟨s,rfl,reach_big ?_⟩
 have:=hw s.data.toList.length (by simp[DataW.weights])
 rwa [Array.length_toList] at this
theorem vD.num{t:TypeId}{k:IntKind}(ht:Tryz.prog.underlying t=some (.int k)):vD enc W t (Kd.int k) (fun _=>True):=by
 intro fuel cs x h hw
 obtain⟨n,rfl,rfl,_⟩:=DataW.trod_int ht h
 exact⟨n,rfl,trivial⟩
theorem vD.bool{t:TypeId}(ht:Tryz.prog.underlying t=some .bool):vD enc W t Kd.bool (fun _=>True):=by
 intro fuel cs x h hw
 obtain⟨n,rfl,rfl⟩:=DataW.trod_bool ht h
 exact⟨n,rfl,trivial⟩
theorem list_lt{α:Type}{p:Nat→α→Prop}:∀n:Nat,(∀i,i<n→∃x,p i x)→∃l:List α,l.length=n∧∀i x,l[i]?=some x→p i x
 |0,_=>⟨[],rfl,fun i x h=>by simp at h⟩
 |n+1,h=>by
  obtain⟨l,hl,hp⟩:=list_lt n (fun i hi=>h i (by omega))
  obtain⟨x,hx⟩:=h n (by omega)
  refine⟨l++[x],by simp[hl],fun i y hy=>?_⟩
  by_cases hi:i<l.length
  ·rw[List.getElem?_append_left hi] at hy;exact hp i y hy
  ·rw[List.getElem?_append_right (by omega)] at hy
   have h0:i - l.length=0:=by
    rcases Nat.eq_zero_or_pos (i - l.length) with h0|h0
    ·exact h0
    ·rw[List.getElem?_eq_none (by simp;omega)] at hy;cases hy
   rw[h0] at hy
   obtain rfl:x=y:=by simpa using hy
   rw[show i=n by omega];exact hx
theorem all_mem{P:Program}{e:TypeId}{b:Nat}:∀(l:List (DataW H)),(∀n ∈ DataW.weightsAll P e l,n≤b)→∀d ∈ l,∀n ∈ d.weights P e,n≤b
 |[],_,d,hd=>by cases hd
 |x::l,h,d,hd=>by
  intro n hn
  rcases List.mem_cons.1 hd with rfl|hd
  ·exact h n (by simp[DataW.weightsAll,hn])
  ·exact all_mem l (fun m hm=>h m (by simp[DataW.weightsAll,hm])) d hd n hn
theorem vD.slice{t e:TypeId}{α:Type}{k:Kd α}{B:α→Prop}(ht:Tryz.prog.underlying t=some (.slice e))(hc:Tryz.prog.cellsOf e=k.sz)(hb:1≤Tryz.prog.bytesOf e)(h:vD enc W e k B):
 vD enc W t (Kd.slice e k) (fun l=>l.length≤big∧∀x ∈ l,B x):=by
 intro fuel cs x hx hw
 rcases open_slice ht hx with⟨rfl,_⟩|⟨a,len,cap,m,n,D,Pl,rfl,_,hl,hm,hmm,rfl,hD⟩
 ·exact⟨[],⟨none,0,rfl,Nat.le_refl _,rfl,Nat.zero_le _,fun hp=>absurd hp (Nat.lt_irrefl _)⟩,Nat.zero_le _,fun x hx=>by cases hx⟩
 ·obtain rfl:m=cap:=by simpa using hmm
  simp only[DataW.weights,ht] at hw
  have hlen:len≤big:=by
   have h1:=hw _ (List.mem_cons_self ..)
   simp only[List.length_map,List.length_range] at h1
   refine reach_big (Nat.le_trans ?_ h1)
   calc len≤len+(m - len):=by omega
    _=(len+(m - len))*1:=by omega
    _≤_:=Nat.mul_le_mul_left _ hb
  have hall:∀i,i<len→∀n ∈ (D i).weights Tryz.prog e,n≤reachBytes:=fun i hi=>
   all_mem ((List.range len).map D) (fun n hn=>hw n (List.mem_cons_of_mem _ (List.mem_append_left _ hn))) (D i) (List.mem_map.2 ⟨i,List.mem_range.2 hi,rfl⟩)
  obtain⟨l,hll,hp⟩:=list_lt (p:=fun i (x:α)=>∃cs',W.cells? 0 (a.add (i*Tryz.prog.cellsOf e)) (Tryz.prog.cellsOf e)=some cs'∧k.K W x cs'∧B x) len (fun i hi=>by
   obtain⟨cs',h1,h2⟩:=hD i (by omega)
   obtain⟨y,h3,h4⟩:=h _ _ _ h2 (hall i hi)
   exact⟨y,cs',h1,h3,h4⟩)
  refine⟨l,⟨some a,m,by rw[hll],by omega,rfl,by unfold big at hlen;omega,fun hpos=>⟨a,rfl,fun j p hj=>?_⟩⟩,by omega,fun x hxm=>?_⟩
  ·obtain⟨cs',h1,h2,_⟩:=hp j p hj
   obtain⟨_,h3,h4⟩:=World.cells?_some h1
   refine⟨cs',h3.trans hc,h2,fun i u hu=>?_⟩
   have hi:i<cs'.length:=(List.getElem?_eq_some_iff.1 hu).1
   rw[←hu,←h4 i (by omega),Deep.add_add,hc]
  ·obtain⟨j,hj⟩:=List.getElem?_of_mem hxm
   obtain⟨_,_,_,h3⟩:=hp j x hj
   exact h3
theorem vD.last{N:Nat}{f:Field}{off:Nat}{α:Type}{k:Kd α}{B:α→Prop}(ho:f.offset=off)(hn:off+Tryz.prog.cellsOf f.type=N)(h:vD enc W f.type k B):OpensF enc W N [f] off k B:=by
 intro n cs xs hl hx hf hw
 match xs,hx with
 |[x],_=>
  have h0:=hf 0 f rfl
  rw[ho,List.take_of_length_le (by rw[List.length_drop];omega)] at h0
  exact h n _ x h0 (fun m hm=>hw m (by simp[DataW.weightsEach,hm]))
theorem vD.cons{N:Nat}{f:Field}{fs:List Field}{off:Nat}{α β:Type}{k:Kd α}{k':Kd β}{B:α→Prop}{B':β→Prop}(ho:f.offset=off)(h:vD enc W f.type k B)(hs:OpensF enc W N fs (off+Tryz.prog.cellsOf f.type) k' B'):
 OpensF enc W N (f::fs) off (Kd.pair k k') (fun p=>B p.1∧B' p.2):=by
 intro n cs xs hl hx hf hw
 match xs,hx with
 |x::xs,hx=>
  have h0:=hf 0 f rfl
  rw[ho] at h0
  obtain⟨a,h1,h2⟩:=h n _ x h0 (fun m hm=>hw m (by simp only[List.map_cons,DataW.weightsEach];exact List.mem_append_left _ hm))
  obtain⟨b,h3,h4⟩:=hs n cs xs hl (by simpa using hx) (fun i g hg=>hf (i+1) g hg) (fun m hm=>hw m (by simp only[List.map_cons,DataW.weightsEach];exact List.mem_append_right _ hm))
  refine⟨(a,b),⟨_,_,?_,h1,h3⟩,h2,h4⟩
  rw[←List.drop_drop,List.take_append_drop]
theorem vD.struct{t:TypeId}{fs:Array Field}{α β:Type}{k:Kd α}{B:α→Prop}{f:β→α}(ht:Tryz.prog.underlying t=some (.struct fs))(h:OpensF enc W (Tryz.prog.cellsOf t) fs.toList 0 k B)(g:α→β)(hg:∀a,f (g a)=a):
 vD enc W t (Kd.iso k f) (fun x=>B (f x)):=by
 intro fuel cs x hx hw
 obtain⟨xs,n,_,rfl,hl,hlen,hf⟩:=DataW.trod_struct ht hx
 simp only[DataW.weights,ht] at hw
 obtain⟨a,h1,h2⟩:=h n cs xs hl (by simpa using hlen) (fun i f hf'=>hf i f (by simpa using hf')) hw
 refine⟨g a,?_,?_⟩
 ·show k.K W (f (g a)) cs
  rw[hg];simpa using h1
 ·show B (f (g a))
  rw[hg];exact h2
theorem vD.imp{t:TypeId}{α:Type}{k:Kd α}{B B':α→Prop}(h:vD enc W t k B)(hi:∀a,B a→B' a):vD enc W t k B':=fun n cs x hx hw=>by
 obtain⟨a,h1,h2⟩:=h n cs x hx hw
 exact⟨a,h1,hi a h2⟩
end
end P
end Go.Proofs.YtmdoobnlehkmpaaGreatDoor.Q
namespace Go.Proofs.YtmdoobnlehkmpaaGreatDoor.Law
open Go.ChangeShapes Go.WideShapes Go.ChangeAt Go.RowKit Go.Deep
open Q Q.P W1 W2 W3
section
variable {H : Type} {enc : TypeId × Value → H} {W : World}
theorem oStr:vD enc W 9 Kd.string (fun s=>s.size≤big):=vD.str Tryz.underlying9
theorem oEntry:vD enc W 80 k80 BEntry:=
 (vD.struct Tryz.underlying80 (vD.cons rfl oStr (vD.cons (by kernel_rfl) (vD.num Tryz.underlying2) (vD.cons (by kernel_rfl) oStr (vD.last (by kernel_rfl) (by kernel_rfl) (vD.bool Tryz.underlying4)))))
  (fun p=>⟨p.1,p.2.1,p.2.2.1,p.2.2.2⟩) (fun _=>rfl)).imp fun a h=>⟨h.1,h.2.2.1⟩
theorem oEntryS:vD enc W 28 (Kd.slice 80 k80) BEntryS:=
 (vD.slice Tryz.underlying28 (by kernel_rfl) (of_decide_eq_true (by kernel_rfl)) oEntry).imp fun a h=>⟨h.1,h.2⟩
theorem oStringS:vD enc W 101 (Kd.slice 9 Kd.string) BStringS:=
 (vD.slice Tryz.underlying101 (by kernel_rfl) (of_decide_eq_true (by kernel_rfl)) oStr).imp fun a h=>⟨h.1,h.2⟩
theorem oItem:vD enc W 119 k119 BItem:=
 (vD.struct Tryz.underlying119 (vD.cons rfl oStr (vD.cons (by kernel_rfl) oStr (vD.cons (by kernel_rfl) oStringS (vD.cons (by kernel_rfl) oStr (vD.last (by kernel_rfl) (by kernel_rfl) oEntryS)))))
  (fun p=>⟨p.1,p.2.1,p.2.2.1,p.2.2.2.1,p.2.2.2.2⟩) (fun _=>rfl)).imp fun a h=>⟨h.1,h.2.1,h.2.2.1,h.2.2.2.1,h.2.2.2.2⟩
theorem oGen:vD enc W 206 k206 BGen:=
 (vD.struct Tryz.underlying206 (vD.cons rfl (vD.num Tryz.underlying2) (vD.last (by kernel_rfl) (by kernel_rfl) oStr)) (fun p=>⟨p.1,p.2⟩) (fun _=>rfl)).imp fun a h=>⟨h.2⟩
theorem oGenS:vD enc W 121 (Kd.slice 206 k206) BGenS:=
 (vD.slice Tryz.underlying121 (by kernel_rfl) (of_decide_eq_true (by kernel_rfl)) oGen).imp fun a h=>⟨h.1,h.2⟩
theorem oProfile:vD enc W 123 k123 BProfile:=
 (vD.struct Tryz.underlying123 (vD.cons rfl oStr (vD.cons (by kernel_rfl) (vD.num Tryz.underlying2) (vD.last (by kernel_rfl) (by kernel_rfl) oGenS))) (fun p=>⟨p.1,p.2.1,p.2.2⟩) (fun _=>rfl)).imp fun a h=>⟨h.1,h.2.2⟩
theorem oPending:vD enc W 126 k126 BPending:=
 (vD.struct Tryz.underlying126 (vD.cons rfl oStr (vD.cons (by kernel_rfl) oEntryS (vD.last (by kernel_rfl) (by kernel_rfl) oStr))) (fun p=>⟨p.1,p.2.1,p.2.2⟩) (fun _=>rfl)).imp fun a h=>⟨h.1,h.2.1,h.2.2⟩
theorem oNext:vD enc W 129 k129 BNext:=
 (vD.struct Tryz.underlying129 (vD.cons rfl oStr (vD.last (by kernel_rfl) (by kernel_rfl) oStr)) (fun p=>⟨p.1,p.2⟩) (fun _=>rfl)).imp fun a h=>⟨h.1,h.2⟩
theorem oItemS:vD enc W 22 (Kd.slice 119 k119) BItemS:=
 (vD.slice Tryz.underlying22 (by kernel_rfl) (of_decide_eq_true (by kernel_rfl)) oItem).imp fun a h=>⟨h.1,h.2⟩
theorem oProfileS:vD enc W 23 (Kd.slice 123 k123) BProfileS:=
 (vD.slice Tryz.underlying23 (by kernel_rfl) (of_decide_eq_true (by kernel_rfl)) oProfile).imp fun a h=>⟨h.1,h.2⟩
theorem oPendingS:vD enc W 24 (Kd.slice 126 k126) BPendingS:=
 (vD.slice Tryz.underlying24 (by kernel_rfl) (of_decide_eq_true (by kernel_rfl)) oPending).imp fun a h=>⟨h.1,h.2⟩
theorem oNextS:vD enc W 25 (Kd.slice 129 k129) BNextS:=
 (vD.slice Tryz.underlying25 (by kernel_rfl) (of_decide_eq_true (by kernel_rfl)) oNext).imp fun a h=>⟨h.1,h.2⟩
end
theorem own:ownKnob Tryz.prog.godebug=none:=by kernel_rfl
theorem laidOut:laidOutB Tryz.prog=true:=by kernel_rfl
def laid:List (String×DataW Unit):=Rows.fnExactPlanAddRow.laid
theorem wrap{H:Type}{enc:TypeId×Value→H}{a:Assume}{C:Checked}{os:Os}{f:FuncId}{fn:Func}{s:ChangeSpec}{apart fresh handsOn again:Bool}{X:World→Array Value→Prop}
 (own:ownKnob C.prog.godebug=none) (started:os.Started) (noInit:C.prog.inits.idxOf? f=none) (hfn:C.prog.funcs[f]?=some fn)
 (witness:∃(w:World) (tape:Tape) (i:Input),w.os=os∧(w.forCall tape i).Shaped C.prog∧i.vars=[]∧Input.okWide C.prog (w.forCall tape i) .any w.heap.size f i∧
  ((s.pre enc C.prog fn [] apart (w.forCall tape i).memory i.args∧X (w.forCall tape i).memory i.args)∧sizedMet enc C.prog fn (OpenSpec.ofChange s) apart (w.forCall tape i).memory i.args)∧a.holds C.prog (lone (Frame.enter C.prog f i.args .normal) [] (w.forCall tape i)))
 (contract:∀(W:World) (base:Nat) (args:Array Value) (ds gs:List (DataW H)) (before:List MemPlace),
  (∀(j:Nat) t v,fn.params[j]?=some t→args[j]?=some v→Value.okWide C.prog W .any base t v)→
  DataW.Whole enc C.prog fn.params.toList s.vars apart W args.toList ds gs before→
  (DataW.weightsEach C.prog (fn.params.toList++s.plain.varTypes C.prog) (ds++gs)).all (· ≤reachBytes)=true→
  W.ShapedOpen C.prog→
  Calls C.prog f args W fun e W'=>∃v,e= .returned v∧s.post enc C.prog fn apart fresh handsOn again W args v W'):
 ReturnsInHanded a C os f .any (fun w args=>(s.pre enc C.prog fn [] apart w args∧X w args)∧sizedMet enc C.prog fn (OpenSpec.ofChange s) apart w args) (s.post enc C.prog fn apart fresh handsOn again):=by
 refine returnsInHanded_of_calls own started noInit witness ?_
 intro w tape i _ hsh _ hok hpre _
 obtain⟨_,_,_,fn',hfn',_,_,_,_,hval⟩:=hok
 have e:fn'=fn:=Option.some.inj (hfn'.symm.trans hfn)
 subst e
 obtain⟨⟨⟨ds,gs,before,hw,_⟩,_⟩,hz⟩:=hpre
 have hw':=DataW.Whole.of_heap (w':=w.forCall tape i) (by rfl) hw
 refine(contract (w.forCall tape i) w.heap.size i.args ds gs before hval hw' (hz.weights hw) hsh).mono fun e W' ⟨v,he,hp⟩=>?_
 subst he
 exact ChangeSpec.post_blind hp
set_option maxRecDepth 100000 in
set_option maxHeartbeats 1000000 in
theorem lifted(os:Os)(started:os.Started)(H:Type)(enc:TypeId×Value→H):
 ReturnsInHanded {} Tryz.checked os 3 .any (fun w args=>(Rows.fnExactPlanAddSpec.pre enc Tryz.prog Tryz.f3 [] false w args∧laidMetH Tryz.prog laid w)∧sizedMet enc Tryz.prog Tryz.f3 (OpenSpec.ofChange Rows.fnExactPlanAddSpec) false w args)
  (Rows.fnExactPlanAddSpec.post enc Tryz.prog Tryz.f3 false true false false):=by
 refine wrap (C:=Tryz.checked) (X:=fun w _=>laidMetH Tryz.prog laid w) own started (by kernel_rfl) Tryz.func3
  (ChangeSpec.witness_shaped (enc:=enc) (C:=Tryz.checked) (os:=os) (X:=fun w _=>laidMetH Tryz.prog laid w) false (World.laidAll Tryz.prog os laid) #[.agg #[.slice none 0 0,.slice none 0 0,.slice none 0 0,.slice none 0 0],.string ⟨#[]⟩,.slice none 0 0,.string ⟨#[]⟩] 8 (World.laidAll_os _ _ _)
   (World.shaped_of_ZipB (by kernel_rfl) (by kernel_rfl)) (by kernel_rfl) (by kernel_rfl) (by kernel_rfl)
   (by rw[MakeChecks.laidMetH_plain _ _ _ (by kernel_rfl)];exact laidMet_laidAll _ (by kernel_rfl) (by kernel_rfl))) ?_
 intro W base args ds gs before hval0 hW hsz0 hsh
 have hsz:(DataW.weightsEach Tryz.prog (Tryz.f3.params.toList++Rows.fnExactPlanAddSpec.plain.varTypes Tryz.prog) (ds++gs)).all (· ≤reachBytes)=true:=hsz0
 have hval:∀(j:Nat) t v,Tryz.f3.params[j]?=some t→args[j]?=some v→Value.okWide Tryz.prog W .any base t v:=hval0
 have hW':=hW
 obtain⟨p,q,hA0,hV,rfl,_,_⟩:=hW
 have hA:DataW.TrodAll enc Tryz.prog W 0 (fun _=>true) true Tryz.f3.params.toList args.toList ds p:=hA0
 rw[Tryz.params3] at hA hval hsz
 obtain⟨v0,v1,v2,v3,d0,d1,d2,d3,p0,p1,p2,p3,rfl,rfl,rfl,h0,h1,h2,h3⟩:=trodAll_four hA
 obtain⟨rfl,rfl⟩:=trodVars_none hV
 have h0k:=h0
 have h1k:=h1
 have h2k:=h2
 have h3k:=h3
 have lt0:∀x ∈ p0,x.block<W.heap.size:=by obtain⟨m,hm⟩:=h0k;exact DataW.trod_lt m _ _ _ hm
 have lt1:∀x ∈ p1,x.block<W.heap.size:=by obtain⟨m,hm⟩:=h1k;exact DataW.trod_lt m _ _ _ hm
 have lt2:∀x ∈ p2,x.block<W.heap.size:=by obtain⟨m,hm⟩:=h2k;exact DataW.trod_lt m _ _ _ hm
 have lt3:∀x ∈ p3,x.block<W.heap.size:=by obtain⟨m,hm⟩:=h3k;exact DataW.trod_lt m _ _ _ hm
 obtain⟨u,rfl⟩:=okWide_string Tryz.underlying9 (hval 1 9 v1 rfl rfl)
 obtain⟨s_,l_,c_,rfl⟩:=okWide_slice Tryz.underlying28 (hval 2 28 v2 rfl rfl)
 obtain⟨u3,rfl⟩:=okWide_string Tryz.underlying9 (hval 3 9 v3 rfl rfl)
 obtain⟨w0,w1,w2,w3,y0,y1,y2,y3,n,rfl,rfl,rfl,h0a,h0b,h0c,h0d⟩:=Joins.open_agg4 Tryz.underlying27 (by kernel_rfl) (by kernel_rfl) (hval 0 27 v0 rfl rfl) h0
 have hz:∀m ∈ DataW.weightsEach Tryz.prog [22,23,24,25] [y0.1,y1.1,y2.1,y3.1],m≤reachBytes:=fun m hm=>by
  have:=List.all_eq_true.1 hsz m (DataW.weights_mem_each (j:=0) (t:=27) (d:= .agg [y0.1,y1.1,y2.1,y3.1]) rfl rfl m (by simp only[DataW.weights,Tryz.underlying27];exact hm))
  simpa using this
 simp only[DataW.weightsEach,List.mem_append] at hz
 obtain⟨l0,⟨A0,c0,e0,hc0,hr0⟩,b0⟩:=oItemS (enc:=enc) (W:=W) n [w0] y0 h0a (fun m hm=>hz m (.inl hm))
 obtain⟨l1,⟨A1,c1,e1,hc1,hr1⟩,b1⟩:=oProfileS (enc:=enc) (W:=W) n [w1] y1 h0b (fun m hm=>hz m (.inr (.inl hm)))
 obtain⟨l2,⟨A2,c2,e2,hc2,hr2⟩,b2⟩:=oPendingS (enc:=enc) (W:=W) n [w2] y2 h0c (fun m hm=>hz m (.inr (.inr (.inl hm))))
 obtain⟨l3,⟨A3,c3,e3,hc3,hr3⟩,b3⟩:=oNextS (enc:=enc) (W:=W) n [w3] y3 h0d (fun m hm=>hz m (.inr (.inr (.inr (.inl hm)))))
 simp only[List.cons.injEq,and_true] at e0 e1 e2 e3
 subst e0 e1 e2 e3
 obtain⟨m,hm⟩:=cell_of_shapedOpen_int (P:=Tryz.prog) (g:=0) (t:=3) (zero:= #[.int .i64 0]) hsh (of_decide_eq_true (by kernel_rfl)) (by kernel_rfl) rfl (by kernel_rfl) (by kernel_rfl) Tryz.underlying3
 obtain⟨n2,hn2⟩:=h2
 have hz2:∀m ∈ d2.weights Tryz.prog 28,m≤reachBytes:=fun m hm=>by
  have:=List.all_eq_true.1 hsz m (DataW.weights_mem_each (j:=2) (t:=28) (d:=d2) rfl rfl m hm)
  simpa using this
 obtain⟨lt,⟨At,ct,et,hct,hrt⟩,bt⟩:=oEntryS (enc:=enc) (W:=W) n2 [.slice s_ l_ c_] (d2,p2) hn2 hz2
 simp only[List.cons.injEq,and_true,Value.slice.injEq] at et
 obtain⟨rfl,rfl,rfl⟩:=et
 refine(addLaw l0 l1 l2 l3 b0 b1 b2 b3 lt bt u u3 ⟨hr0,hc0,hr1,hc1,hr2,hc2,hr3,hc3⟩ ⟨hrt,hct⟩ ⟨m,hm⟩).mono fun e W' ⟨he,bel⟩=>?_
 subst he
 refine⟨_,rfl,_,_,_,[],_,[],hW',trodAll_mk1 (shut_bool Tryz.underlying4 _),trodAll_mk4 (Below.trod laidOut (by kernel_rfl) (of_decide_eq_true (by kernel_rfl)) h0k bel lt0) (Below.trod laidOut (by kernel_rfl) (of_decide_eq_true (by kernel_rfl)) h1k bel lt1) (Below.trod laidOut (by kernel_rfl) (of_decide_eq_true (by kernel_rfl)) h2k bel lt2) (Below.trod laidOut (by kernel_rfl) (of_decide_eq_true (by kernel_rfl)) h3k bel lt3),rfl,bel.frame _,fun h=>by cases h⟩
theorem holds:Rows.fnExactPlanAddRow.holds Tryz.pinned (OpenSpec.ofChange Rows.fnExactPlanAddSpec):=
 OpenClaim.holds_of_wide 3 Tryz.f3 rfl rfl rfl rfl rfl rfl rfl ⟨rfl,rfl,rfl,rfl,rfl⟩ rfl rfl rfl rfl rfl (by kernel_rfl) Tryz.func3 (by kernel_rfl)
  (of_decide_eq_true (by kernel_rfl)) (by unfold Func.isWrapper;first|(rw[if_pos (by decide+kernel)];kernel_rfl)|(rw[if_neg (by decide+kernel)];exact⟨rfl,rfl⟩))
  (fun os started H enc _=>lifted os started H enc)
theorem card_holds:Rows.FnExactPlanAddCardSaid:=
 Claim7.holds_tied_plain_at .later [] [.data,.pinned] true _ false holds (fun _ h=>by cases h) (by kernel_rfl) (fun _ h=>by cases h) fnExactPlanAdd_row_tie rfl ⟨rfl,rfl⟩ (by kernel_rfl) rfl
  (fun f fn hf hfn=>by
   obtain rfl:f=3:=Option.some.inj ((show Tryz.prog.funcNamed "loop.example/g00023/laws.FnExactPlanAdd"=some 3 by kernel_rfl).symm.trans hf)|>.symm
   obtain rfl:fn=Tryz.f3:=(Option.some.inj (Tryz.func3.symm.trans hfn)).symm
   exact⟨by kernel_rfl,fun j t ht=>by
    rw[Tryz.params3] at ht
    have hm:t ∈ [27,9,28,9]:=by simpa using Array.mem_of_getElem? ht
    have hall:([27,9,28,9].all fun u=> !Tryz.prog.wantsStandIn u)=true:=by kernel_rfl
    exact(show Tryz.prog.wantsStandIn t=false by simpa using List.all_eq_true.1 hall t hm)⟩)
  (by kernel_rfl)
#print axioms card_holds
end Go.Proofs.YtmdoobnlehkmpaaGreatDoor.Law
