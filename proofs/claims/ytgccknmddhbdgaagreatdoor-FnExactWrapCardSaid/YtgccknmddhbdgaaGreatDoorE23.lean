import Derived.Test.YtgccknmddhbdgaaGreatDoorE14
import Derived.Test.YtgccknmddhbdgaaGreatDoorE21
import Derived.Test.YtgccknmddhbdgaaGreatDoorE22
namespace Go.Proofs.YtgccknmddhbdgaaGreatDoor.Q
open Go.RowKit W1 W2 W3
namespace P
abbrev Pend:=S94
abbrev rdQ(xs:List Pend)(i:Int):Pend:=rd_T94 xs i
theorem rdQ_at(xs:List Pend)(i:Nat)(h:i<xs.length):rdQ xs (i:Int)=xs[i]:=by
 show xs.getD i z94=_
 simp[List.getD_eq_getElem?_getD,List.getElem?_eq_getElem h]
abbrev Next:=S96
abbrev rdN(xs:List Next)(i:Int):Next:=rd_T96 xs i
def pendOk(a:ByteArray)(t:List Entry)(c:ByteArray):Bool:=addrOk a && treeOk t && fromOk c
theorem ePendI(a:ByteArray)(t:List Entry)(ht:tSmall t)(c:ByteArray):Ev (fun k=>impl_pendingOk.f k a t c) (pendOk a t c):=by
 unfold impl_pendingOk.f pendOk;refine Ev.bind (eAddrI _) ?_;cases hA:addrOk a with
 |false=>simp only[Bool.false_eq_true,if_false,Bool.false_and];exact Ev.now _
 |true=>
  simp only[if_true,Bool.true_and];refine Ev.bind (eTreeI _ ht) ?_;cases hT:treeOk t with
  |false=>simp only[Bool.false_eq_true,if_false,Bool.false_and];exact Ev.now _
  |true=>
   simp only[if_true,Bool.true_and,fromOk];by_cases h0:c.size=0
   ·simp only[if_pos (tl_nil.2 h0),decide_eq_true h0,Bool.true_or];exact Ev.now _
   ·simp only[if_neg (fun h=>h0 (tl_nil.1 h)),decide_eq_false h0,Bool.false_or];exact Ev.bind (eAddrI _) (Ev.now _)
theorem ePendS(a:ByteArray)(t:List Entry)(ht:tSmall t)(c:ByteArray):Ev (fun k=>spec_l19Item.f k a t c) (pendOk a t c):=by
 unfold spec_l19Item.f pendOk;refine Ev.bind (eAddrS _) ?_;cases hA:addrOk a with
 |false=>simp only[Bool.false_eq_true,if_false,Bool.false_and];exact Ev.now _
 |true=>
  simp only[if_true,Bool.true_and];refine Ev.bind (eTreeS _ ht) ?_;cases hT:treeOk t with
  |false=>simp only[Bool.false_eq_true,if_false,Bool.false_and];exact Ev.now _
  |true=>
   simp only[if_true,Bool.true_and,fromOk];by_cases h0:c.size=0
   ·simp only[if_pos (tl_nil.2 h0),decide_eq_true h0,Bool.true_or];exact Ev.now _
   ·simp only[if_neg (fun h=>h0 (tl_nil.1 h)),decide_eq_false h0,Bool.false_or];exact Ev.bind (eAddrS _) (Ev.now _)
def inStore(st:List Item)(u:ByteArray):Nat->Nat->Bool
 |0,_=>false
 |d+1,i=>decide ((rdI st i).f0.toList=u.toList)||inStore st u d (i+1)
theorem eOfI(st:List Item)(u:ByteArray)(hs:st.length<=1048576):∀d i:Nat,st.length=i+d->∃r,Ev (fun k=>impl_itemOf.l0 k u st (st.length:Int) (i:Int)) r/\decide (0<=r)=inStore st u d i
 |0,i,h=>by
  refine⟨-1,Ev.step (fun k=>by rw[impl_itemOf.l0]) ?_,rfl⟩;simp only[if_neg (show¬(i:Int)<st.length by omega)];exact Ev.now _
 |d+1,i,h=>by
  by_cases he:(rdI st i).f0.toList=u.toList
  ·refine⟨i,Ev.step (fun k=>by rw[impl_itemOf.l0]) ?_,by simp[inStore,he]⟩;simp only[if_pos (show(i:Int)<st.length by omega),if_pos (show(0:Int)<=i by omega),if_pos he];exact Ev.now _
  ·obtain⟨r,h1,h2⟩:=eOfI st u hs d (i+1) yo_;refine⟨r,Ev.step (fun k=>by rw[impl_itemOf.l0]) ?_,by rw[inStore,decide_eq_false he,Bool.false_or];exact h2⟩;simp only[if_pos (show(i:Int)<st.length by omega),if_pos (show(0:Int)<=i by omega),if_neg he];rw[w64n yo_];exact h1
theorem eOfS(st:List Item)(u:ByteArray)(hs:st.length<=1048576):∀d i:Nat,st.length=i+d->∃r,Ev (fun k=>spec_l12Find.l0 k st u (i:Int)) r/\decide (0<=r)=inStore st u d i
 |0,i,h=>by
  refine⟨-1,Ev.step (fun k=>by rw[spec_l12Find.l0]) ?_,rfl⟩;simp only[if_neg (show¬(i:Int)<st.length by omega)];exact Ev.now _
 |d+1,i,h=>by
  by_cases he:(rdI st i).f0.toList=u.toList
  ·refine⟨i,Ev.step (fun k=>by rw[spec_l12Find.l0]) ?_,by simp[inStore,he]⟩;simp only[if_pos (show(i:Int)<st.length by omega),if_pos (show(0:Int)<=i by omega),if_pos he];exact Ev.now _
  ·obtain⟨r,h1,h2⟩:=eOfS st u hs d (i+1) yo_;refine⟨r,Ev.step (fun k=>by rw[spec_l12Find.l0]) ?_,by rw[inStore,decide_eq_false he,Bool.false_or];exact h2⟩;simp only[if_pos (show(i:Int)<st.length by omega),if_pos (show(0:Int)<=i by omega),if_neg he];rw[w64n yo_];exact h1
def pendR(xs:List Pend):Nat->Nat->Bool
 |0,_=>true
 |d+1,i=>pendOk (rdQ xs i).f0 (rdQ xs i).f1 (rdQ xs i).f2 && pendR xs d (i+1)
def nextR(xs:List Next):Nat->Nat->Bool
 |0,_=>true
 |d+1,i=>nameOk (rdN xs i).f0 && addrOk (rdN xs i).f1 && nextR xs d (i+1)
def heldR(st:List Item)(gs:List Gen):Nat->Nat->Bool
 |0,_=>true
 |d+1,j=>inStore st (rdG gs j).f1 st.length 0 && heldR st gs d (j+1)
def rootR(st:List Item)(ps:List Prof):Nat->Nat->Bool
 |0,_=>true
 |d+1,i=>heldR st (rdP ps i).f2 (rdP ps i).f2.length 0 && rootR st ps d (i+1)
def worldOk(st:List Item)(ps:List Prof)(qs:List Pend)(ns:List Next):Bool:=
 storeOk st && profilesOk ps && decide (qs.length<=20) && decide (ns.length<=20) && pendR qs qs.length 0 && nextR ns ns.length 0 && rootR st ps ps.length 0
structure Sized(st:List Item)(ps:List Prof)(qs:List Pend)(ns:List Next):Prop where
 sts:sSmall st
 stl:st.length<=1048576
 psl:ps.length<=1048576
 gs:∀p ∈ ps,p.f2.length<=1048576
 qs:∀q ∈ qs,tSmall q.f1
theorem Sized.gat{st:List Item}{ps:List Prof}{qs:List Pend}{ns:List Next}(h:Sized st ps qs ns){i:Nat}(hi:i<ps.length):(rdP ps (i:Int)).f2.length<=1048576:=by
 rw[rdP_at ps i hi];exact h.gs _ (List.getElem_mem hi)
theorem Sized.qat{st:List Item}{ps:List Prof}{qs:List Pend}{ns:List Next}(h:Sized st ps qs ns){i:Nat}(hi:i<qs.length):tSmall (rdQ qs (i:Int)).f1:=by
 rw[rdQ_at qs i hi];exact h.qs _ (List.getElem_mem hi)
section
variable {st : List Item} {ps : List Prof} {qs : List Pend} {ns : List Next}
theorem eNextI(r:Bool)(hr:Ev (fun k=>impl_WorldOk.l2 k ps (ps.length:Int) 0 st ps qs ns) r)(hl:ns.length<=20):∀d i:Nat,ns.length=i+d->Ev (fun k=>impl_WorldOk.l1 k ns (ns.length:Int) (i:Int) st ps qs ns) (nextR ns d i && r)
 |0,i,h=>by
  refine Ev.step (fun k=>by rw[impl_WorldOk.l1]) ?_;simp only[if_neg (show¬(i:Int)<ns.length by omega),nextR,Bool.true_and];exact hr
 |d+1,i,h=>by
  have ih:=eNextI r hr hl d (i+1) yo_;refine Ev.step (fun k=>by rw[impl_WorldOk.l1]) ?_;simp only[if_pos (show(i:Int)<ns.length by omega),if_pos (show(0:Int)<=i by omega),nextR];refine Ev.bind (eNameI _) ?_;rw[w64n yo_];cases nameOk (rdN ns i).f0 with
  |false=>simp only[Bool.false_eq_true,if_false,Bool.false_and];exact Ev.now _
  |true=>
   simp only[if_true,Bool.true_and];refine Ev.bind (eAddrI _) ?_;cases addrOk (rdN ns i).f1 with
   |false=>simp only[Bool.false_eq_true,if_false,Bool.false_and];exact Ev.now _
   |true=>simp only[if_true,Bool.true_and];exact ih
theorem eNextS(r:Bool)(hr:Ev (fun k=>spec_WorldOk.l2 k 0 st ps qs ns) r)(hl:ns.length<=20):∀d i:Nat,ns.length=i+d->Ev (fun k=>spec_WorldOk.l1 k (i:Int) st ps qs ns) (nextR ns d i && r)
 |0,i,h=>by
  refine Ev.step (fun k=>by rw[spec_WorldOk.l1]) ?_;simp only[if_neg (show¬(i:Int)<ns.length by omega),nextR,Bool.true_and];exact hr
 |d+1,i,h=>by
  have ih:=eNextS r hr hl d (i+1) yo_;refine Ev.step (fun k=>by rw[spec_WorldOk.l1]) ?_;simp only[if_pos (show(i:Int)<ns.length by omega),if_pos (show(0:Int)<=i by omega),nextR];refine Ev.bind (eNameS _) ?_;rw[w64n yo_];cases nameOk (rdN ns i).f0 with
  |false=>simp only[Bool.false_eq_true,if_false,Bool.false_and];exact Ev.now _
  |true=>
   simp only[if_true,Bool.true_and];refine Ev.bind (eAddrS _) ?_;cases addrOk (rdN ns i).f1 with
   |false=>simp only[Bool.false_eq_true,if_false,Bool.false_and];exact Ev.now _
   |true=>simp only[if_true,Bool.true_and];exact ih
end
section
variable {st : List Item} {ps : List Prof} {qs : List Pend} {ns : List Next}
theorem eHeldI(H:Sized st ps qs ns)(i:Nat)(gs:List Gen)(hg:gs.length<=1048576)(r:Bool)(hr:Ev (fun k=>impl_WorldOk.l2 k ps (ps.length:Int) (wrap64 ((i:Int)+1)) st ps qs ns) r):∀d j:Nat,gs.length=j+d->
 Ev (fun k=>impl_WorldOk.l3 k ps (ps.length:Int) (i:Int) gs (gs.length:Int) (j:Int) st ps qs ns) (heldR st gs d j && r)
 |0,j,h=>by
  refine Ev.step (fun k=>by rw[impl_WorldOk.l3]) ?_;simp only[if_neg (show¬(j:Int)<gs.length by omega),heldR,Bool.true_and];exact hr
 |d+1,j,h=>by
  have ih:=eHeldI H i gs hg r hr d (j+1) yo_;obtain⟨x,h1,h2⟩:=eOfI st (rdG gs j).f1 H.stl st.length 0 yo_;refine Ev.step (fun k=>by rw[impl_WorldOk.l3]) ?_;simp only[if_pos (show(j:Int)<gs.length by omega),if_pos (show(0:Int)<=j by omega),heldR,<-h2];refine Ev.bind h1 ?_;rw[w64n yo_];by_cases hx:x<0
  ·simp only[if_pos hx,decide_eq_false (show¬0<=x by omega),Bool.false_and];exact Ev.now _
  ·simp only[if_neg hx,decide_eq_true (show 0<=x by omega),Bool.true_and];exact ih
theorem eRootI(H:Sized st ps qs ns):∀d i:Nat,ps.length=i+d->Ev (fun k=>impl_WorldOk.l2 k ps (ps.length:Int) (i:Int) st ps qs ns) (rootR st ps d i)
 |0,i,h=>by
  refine Ev.step (fun k=>by rw[impl_WorldOk.l2]) ?_;simp only[if_neg (show¬(i:Int)<ps.length by omega),rootR];exact Ev.now _
 |d+1,i,h=>by
  have hl:=H.psl;have ih:=eRootI H d (i+1) yo_;rw[<-w64n yo_] at ih;refine Ev.step (fun k=>by rw[impl_WorldOk.l2]) ?_;simp only[if_pos (show(i:Int)<ps.length by omega),if_pos (show(0:Int)<=i by omega),rootR];exact eHeldI H i _ (H.gat (show i<ps.length by omega)) _ ih _ 0 yo_
theorem ePendsI(H:Sized st ps qs ns)(r:Bool)(hr:Ev (fun k=>impl_WorldOk.l1 k ns (ns.length:Int) 0 st ps qs ns) r)(hl:qs.length<=20):∀d i:Nat,qs.length=i+d->Ev (fun k=>impl_WorldOk.l0 k qs (qs.length:Int) (i:Int) st ps qs ns) (pendR qs d i && r)
 |0,i,h=>by
  refine Ev.step (fun k=>by rw[impl_WorldOk.l0]) ?_;simp only[if_neg (show¬(i:Int)<qs.length by omega),pendR,Bool.true_and];exact hr
 |d+1,i,h=>by
  have ih:=ePendsI H r hr hl d (i+1) yo_;refine Ev.step (fun k=>by rw[impl_WorldOk.l0]) ?_;simp only[if_pos (show(i:Int)<qs.length by omega),if_pos (show(0:Int)<=i by omega),pendR];refine Ev.bind (ePendI _ _ (H.qat (show i<qs.length by omega)) _) ?_;rw[w64n yo_];cases pendOk (rdQ qs i).f0 (rdQ qs i).f1 (rdQ qs i).f2 with
  |false=>simp only[Bool.false_eq_true,if_false,Bool.false_and];exact Ev.now _
  |true=>simp only[if_true,Bool.true_and];exact ih
theorem eWorldI(H:Sized st ps qs ns):Ev (fun k=>impl_WorldOk.f k st ps qs ns) (worldOk st ps qs ns):=by
 unfold impl_WorldOk.f worldOk;refine Ev.bind (eStoreI _ H.sts) ?_;cases storeOk st with
 |false=>simp only[Bool.false_eq_true,if_false,Bool.false_and];exact Ev.now _
 |true=>
  simp only[if_true,Bool.true_and];refine Ev.bind (eProfI _) ?_;cases profilesOk ps with
  |false=>simp only[Bool.false_eq_true,if_false,Bool.false_and];exact Ev.now _
  |true=>
   simp only[if_true,Bool.true_and];by_cases h1:(qs.length:Int)>20
   ·simp only[if_pos h1,decide_eq_false (show¬qs.length<=20 by omega),Bool.false_and];exact Ev.now _
   ·by_cases h2:(ns.length:Int)>20
    ·simp only[if_neg h1,if_pos h2,decide_eq_false (show¬ns.length<=20 by omega),Bool.and_false,Bool.false_and];exact Ev.now _
    ·simp only[if_neg h1,if_neg h2,decide_eq_true (show qs.length<=20 by omega),decide_eq_true (show ns.length<=20 by omega),Bool.true_and];have:=ePendsI H _ (eNextI _ (eRootI H ps.length 0 yo_) yo_ ns.length 0 yo_) yo_ qs.length 0 yo_;rw[<-Bool.and_assoc] at this;exact this
theorem eHeldS(H:Sized st ps qs ns)(i:Nat)(hi:i<ps.length)(r:Bool)(hr:Ev (fun k=>spec_WorldOk.l2 k (wrap64 ((i:Int)+1)) st ps qs ns) r):∀d j:Nat,(rdP ps i).f2.length=j+d->
 Ev (fun k=>spec_WorldOk.l3 k (i:Int) (j:Int) st ps qs ns) (heldR st (rdP ps i).f2 d j && r)
 |0,j,h=>by
  refine Ev.step (fun k=>by rw[spec_WorldOk.l3]) ?_;simp only[if_pos (show(i:Int)<ps.length by omega),if_pos (show(0:Int)<=i by omega),if_neg (show¬(j:Int)<(rdP ps i).f2.length by omega),heldR,Bool.true_and];exact hr
 |d+1,j,h=>by
  have hg:=H.gat hi;have ih:=eHeldS H i hi r hr d (j+1) yo_;obtain⟨x,h1,h2⟩:=eOfS st (rdG (rdP ps i).f2 j).f1 H.stl st.length 0 yo_;refine Ev.step (fun k=>by rw[spec_WorldOk.l3]) ?_;simp only[if_pos (show(i:Int)<ps.length by omega),if_pos (show(0:Int)<=i by omega),if_pos (show(j:Int)<(rdP ps i).f2.length by omega),if_pos (show(0:Int)<=j by omega),heldR,<-h2];refine Ev.bind h1 ?_;rw[w64n yo_];by_cases hx:x<0
  ·simp only[if_pos hx,decide_eq_false (show¬0<=x by omega),Bool.false_and];exact Ev.now _
  ·simp only[if_neg hx,decide_eq_true (show 0<=x by omega),Bool.true_and];exact ih
theorem eRootS(H:Sized st ps qs ns):∀d i:Nat,ps.length=i+d->Ev (fun k=>spec_WorldOk.l2 k (i:Int) st ps qs ns) (rootR st ps d i)
 |0,i,h=>by
  refine Ev.step (fun k=>by rw[spec_WorldOk.l2]) ?_;simp only[if_neg (show¬(i:Int)<ps.length by omega),rootR];exact Ev.now _
 |d+1,i,h=>by
  have hl:=H.psl;have ih:=eRootS H d (i+1) yo_;rw[<-w64n yo_] at ih;refine Ev.step (fun k=>by rw[spec_WorldOk.l2]) ?_;simp only[if_pos (show(i:Int)<ps.length by omega),rootR];exact eHeldS H i yo_ _ ih _ 0 yo_
theorem ePendsS(H:Sized st ps qs ns)(r:Bool)(hr:Ev (fun k=>spec_WorldOk.l1 k 0 st ps qs ns) r)(hl:qs.length<=20):∀d i:Nat,qs.length=i+d->Ev (fun k=>spec_WorldOk.l0 k (i:Int) st ps qs ns) (pendR qs d i && r)
 |0,i,h=>by
  refine Ev.step (fun k=>by rw[spec_WorldOk.l0]) ?_;simp only[if_neg (show¬(i:Int)<qs.length by omega),pendR,Bool.true_and];exact hr
 |d+1,i,h=>by
  have ih:=ePendsS H r hr hl d (i+1) yo_;refine Ev.step (fun k=>by rw[spec_WorldOk.l0]) ?_;simp only[if_pos (show(i:Int)<qs.length by omega),if_pos (show(0:Int)<=i by omega),pendR];refine Ev.bind (ePendS _ _ (H.qat (show i<qs.length by omega)) _) ?_;rw[w64n yo_];cases pendOk (rdQ qs i).f0 (rdQ qs i).f1 (rdQ qs i).f2 with
  |false=>simp only[Bool.false_eq_true,if_false,Bool.false_and];exact Ev.now _
  |true=>simp only[if_true,Bool.true_and];exact ih
theorem eWorldS(H:Sized st ps qs ns):Ev (fun k=>spec_WorldOk.f k st ps qs ns) (worldOk st ps qs ns):=by
 unfold spec_WorldOk.f worldOk;refine Ev.bind (eStoreS _ H.sts) ?_;cases storeOk st with
 |false=>simp only[Bool.false_eq_true,if_false,Bool.false_and];exact Ev.now _
 |true=>
  simp only[if_true,Bool.true_and];refine Ev.bind (eProfS _) ?_;cases profilesOk ps with
  |false=>simp only[Bool.false_eq_true,if_false,Bool.false_and];exact Ev.now _
  |true=>
   simp only[if_true,Bool.true_and];by_cases h1:(qs.length:Int)>20
   ·simp only[if_pos h1,decide_eq_false (show¬qs.length<=20 by omega),Bool.false_and];exact Ev.now _
   ·by_cases h2:(ns.length:Int)>20
    ·simp only[if_neg h1,if_pos h2,decide_eq_false (show¬ns.length<=20 by omega),Bool.and_false,Bool.false_and];exact Ev.now _
    ·simp only[if_neg h1,if_neg h2,decide_eq_true (show qs.length<=20 by omega),decide_eq_true (show ns.length<=20 by omega),Bool.true_and];have:=ePendsS H _ (eNextS _ (eRootS H ps.length 0 yo_) yo_ ns.length 0 yo_) yo_ qs.length 0 yo_;rw[<-Bool.and_assoc] at this;exact this
end
end P
end Go.Proofs.YtgccknmddhbdgaaGreatDoor.Q
