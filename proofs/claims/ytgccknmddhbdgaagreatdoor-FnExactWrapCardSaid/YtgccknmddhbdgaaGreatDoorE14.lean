import Derived.Test.YtgccknmddhbdgaaGreatDoorE12
import Derived.Test.YtgccknmddhbdgaaGreatDoorE13
namespace Go.Proofs.YtgccknmddhbdgaaGreatDoor.Q
open Go.RowKit W1 W2 W3
namespace P
abbrev Item:=S61
abbrev rdI(xs:List Item)(i:Int):Item:=qC xs i
theorem rdI_at(xs:List Item)(i:Nat)(h:i<xs.length):rdI xs (i:Int)=xs[i]:=by
 show xs.getD i z61=_
 simp[List.getD_eq_getElem?_getD,List.getElem?_eq_getElem h]
def sameR(a b:List ByteArray):Nat->Nat->Bool
 |0,_=>true
 |d+1,i=>decide ((rdT a i).toList=(rdT b i).toList) && sameR a b d (i+1)
def sameT(a b:List ByteArray):Bool:=decide (a.length=b.length) && sameR a b a.length 0
theorem eSameI1(a b:List ByteArray)(hl:a.length=b.length)(hs:a.length<=1048576):∀d i:Nat,a.length=i+d->Ev (fun k=>impl_sameTexts.l0 k a b (a.length:Int) (i:Int)) (sameR a b d i)
 |0,i,h=>by
  refine Ev.step (fun k=>by rw[impl_sameTexts.l0]) ?_;simp only[if_neg (show¬(i:Int)<a.length by omega),sameR];exact Ev.now _
 |d+1,i,h=>by
  refine Ev.step (fun k=>by rw[impl_sameTexts.l0]) ?_;simp only[if_pos (show(i:Int)<a.length by omega),if_pos (show(0:Int)<=i by omega),if_pos (show(i:Int)<b.length by omega),sameR];rw[w64n yo_];by_cases he:(rdT a i).toList=(rdT b i).toList
  ·refine Ev.congr (fun k=>if_pos he) ?_;rw[decide_eq_true he,Bool.true_and];exact eSameI1 a b hl hs d (i+1) yo_
  ·refine Ev.congr (fun k=>if_neg he) ?_;rw[decide_eq_false he,Bool.false_and];exact Ev.now _
theorem eSameI(a b:List ByteArray)(hs:a.length<=1048576):Ev (fun k=>impl_sameTexts.f k a b) (sameT a b):=by
 unfold impl_sameTexts.f sameT;by_cases hl:a.length=b.length
 ·simp only[if_pos (show(a.length:Int)=b.length by omega),decide_eq_true hl,Bool.true_and];exact eSameI1 a b hl hs a.length 0 yo_
 ·simp only[if_neg (show¬(a.length:Int)=b.length by omega),decide_eq_false hl,Bool.false_and];exact Ev.now _
theorem eSameS1(a b:List ByteArray)(hl:a.length=b.length)(hs:a.length<=1048576):∀d i:Nat,a.length=i+d->Ev (fun k=>spec_l12SameTexts.l0 k a b (i:Int)) (sameR a b d i)
 |0,i,h=>by
  refine Ev.step (fun k=>by rw[spec_l12SameTexts.l0]) ?_;simp only[if_neg (show¬(i:Int)<a.length by omega),sameR];exact Ev.now _
 |d+1,i,h=>by
  refine Ev.step (fun k=>by rw[spec_l12SameTexts.l0]) ?_;simp only[if_pos (show(i:Int)<a.length by omega),if_pos (show(0:Int)<=i by omega),if_pos (show(i:Int)<b.length by omega),sameR];rw[w64n yo_];by_cases he:(rdT a i).toList=(rdT b i).toList
  ·refine Ev.congr (fun k=>if_pos he) ?_;rw[decide_eq_true he,Bool.true_and];exact eSameS1 a b hl hs d (i+1) yo_
  ·refine Ev.congr (fun k=>if_neg he) ?_;rw[decide_eq_false he,Bool.false_and];exact Ev.now _
theorem eSameS(a b:List ByteArray)(hs:a.length<=1048576):Ev (fun k=>spec_l12SameTexts.f k a b) (sameT a b):=by
 unfold spec_l12SameTexts.f sameT;by_cases hl:a.length=b.length
 ·simp only[if_pos (show(a.length:Int)=b.length by omega),decide_eq_true hl,Bool.true_and];exact eSameS1 a b hl hs a.length 0 yo_
 ·simp only[if_neg (show¬(a.length:Int)=b.length by omega),decide_eq_false hl,Bool.false_and];exact Ev.now _
def fromOk(s:ByteArray):Bool:=decide (s.size=0)||addrOk s
def itemOk(x:Item)(l:List ByteArray):Bool:=addrOk x.f0 && treeOk x.f4 && decide (x.f1.toList=(treeSum x.f4).toList) && sameT x.f2 (refs x.f4 l) && fromOk x.f3
def iSmall(x:Item):Prop:=tSmall x.f4/\x.f2.length<=1048576
theorem eItemI(x:Item)(hx:iSmall x)(l:List ByteArray)(hl:l.length<=2000):Ev (fun k=>impl_itemOk.f k x.f0 x.f1 x.f2 x.f3 x.f4 l) (itemOk x l):=by
 unfold impl_itemOk.f itemOk;refine Ev.bind (eAddrI _) ?_;cases hA:addrOk x.f0 with
 |false=>simp only[Bool.false_eq_true,if_false,Bool.false_and];exact Ev.now _
 |true=>
  simp only[if_true,Bool.true_and];refine Ev.bind (eTreeI _ hx.1) ?_;cases hT:treeOk x.f4 with
  |false=>simp only[Bool.false_eq_true,if_false,Bool.false_and];exact Ev.now _
  |true=>
   simp only[if_true,Bool.true_and];refine Ev.bind (eSumTreeI _ hx.1) ?_;by_cases hS:x.f1.toList=(treeSum x.f4).toList
   ·simp only[if_pos hS,decide_eq_true hS,Bool.true_and];refine Ev.bind (eRefsI _ hx.1 hT _ hl) (Ev.bind (eSameI _ _ hx.2) ?_);cases hR:sameT x.f2 (refs x.f4 l) with
    |false=>simp only[Bool.false_eq_true,if_false,Bool.false_and];exact Ev.now _
    |true=>
     simp only[if_true,Bool.true_and,fromOk];by_cases h0:x.f3.size=0
     ·simp only[if_pos (tl_nil.2 h0),decide_eq_true h0,Bool.true_or];exact Ev.now _
     ·simp only[if_neg (fun h=>h0 (tl_nil.1 h)),decide_eq_false h0,Bool.false_or];exact Ev.bind (eAddrI _) (Ev.now _)
   ·simp only[if_neg hS,decide_eq_false hS,Bool.false_and];exact Ev.now _
theorem eItemS(x:Item)(hx:iSmall x)(l:List ByteArray)(hl:l.length<=2000):Ev (fun k=>spec_l12ItemOk.f k x.f0 x.f1 x.f2 x.f3 x.f4 l) (itemOk x l):=by
 unfold spec_l12ItemOk.f itemOk;refine Ev.bind (eAddrS _) ?_;cases hA:addrOk x.f0 with
 |false=>simp only[Bool.false_eq_true,if_false,Bool.false_and];exact Ev.now _
 |true=>
  simp only[if_true,Bool.true_and];refine Ev.bind (eTreeS _ hx.1) ?_;cases hT:treeOk x.f4 with
  |false=>simp only[Bool.false_eq_true,if_false,Bool.false_and];exact Ev.now _
  |true=>
   simp only[if_true,Bool.true_and];refine Ev.bind (eSumTreeS _ hx.1) ?_;by_cases hS:x.f1.toList=(treeSum x.f4).toList
   ·simp only[if_pos hS,decide_eq_true hS,Bool.true_and,fromOk];by_cases h0:x.f3.size=0
    ·simp only[if_pos (tl_nil.2 h0),decide_eq_true h0,Bool.true_or,Bool.and_true];exact Ev.bind (eRefsS _ hx.1 hT _ hl) (Ev.bind (eSameS _ _ hx.2) (Ev.now _))
    ·simp only[if_neg (fun h=>h0 (tl_nil.1 h)),decide_eq_false h0,Bool.false_or];refine Ev.bind (eAddrS _) ?_;cases hF:addrOk x.f3 with
     |false=>simp only[Bool.false_eq_true,if_false,Bool.and_false];exact Ev.now _
     |true=>
      simp only[if_true,Bool.and_true];exact Ev.bind (eRefsS _ hx.1 hT _ hl) (Ev.bind (eSameS _ _ hx.2) (Ev.now _))
   ·simp only[if_neg hS,decide_eq_false hS,Bool.false_and];exact Ev.now _
def pathsOf(st:List Item):List ByteArray:=st.map (·.f0)
theorem ePathsI(st:List Item)(hs:st.length<=1048576):∀(d i:Nat) (acc:List ByteArray),st.length=i+d->acc.length=i->Ev (fun k=>impl_storePaths.l0 k acc st (st.length:Int) (i:Int)) (acc++(st.drop i).map (·.f0))
 |0,i,acc,h,ha=>by
  refine Ev.step (fun k=>by rw[impl_storePaths.l0]) ?_;simp only[if_neg (show¬(i:Int)<st.length by omega),List.drop_of_length_le (show st.length<=i by omega),List.map_nil,List.append_nil];exact Ev.now _
 |d+1,i,acc,h,ha=>by
  have hi:i<st.length:=by omega
  refine Ev.step (fun k=>by rw[impl_storePaths.l0]) ?_;simp only[if_pos (show(i:Int)<st.length by omega),if_pos (show(0:Int)<=i by omega),if_pos (show acc.length<8796093022208 by omega)];rw[w64n yo_,List.drop_eq_getElem_cons hi,List.map_cons,<-rdI_at st i hi];have:=ePathsI st hs d (i+1) (acc++[(rdI st i).f0]) yo_ (by simp;omega);rw[List.append_assoc] at this;exact this
theorem ePathsS(st:List Item)(hs:st.length<=1048576):∀(d i:Nat) (acc:List ByteArray),st.length=i+d->acc.length=i->Ev (fun k=>spec_l12Paths.l0 k st acc (i:Int)) (acc++(st.drop i).map (·.f0))
 |0,i,acc,h,ha=>by
  refine Ev.step (fun k=>by rw[spec_l12Paths.l0]) ?_;simp only[if_neg (show¬(i:Int)<st.length by omega),List.drop_of_length_le (show st.length<=i by omega),List.map_nil,List.append_nil];exact Ev.now _
 |d+1,i,acc,h,ha=>by
  have hi:i<st.length:=by omega
  refine Ev.step (fun k=>by rw[spec_l12Paths.l0]) ?_;simp only[if_pos (show(i:Int)<st.length by omega),if_pos (show(0:Int)<=i by omega),if_pos (show acc.length<8796093022208 by omega)];rw[w64n yo_,List.drop_eq_getElem_cons hi,List.map_cons,<-rdI_at st i hi];have:=ePathsS st hs d (i+1) (acc++[(rdI st i).f0]) yo_ (by simp;omega);rw[List.append_assoc] at this;exact this
theorem ePathsOfI(st:List Item)(hs:st.length<=1048576):Ev (fun k=>impl_storePaths.f k st) (pathsOf st):=by
 have:=ePathsI st hs st.length 0 [] yo_ rfl;rw[List.nil_append,List.drop_zero] at this;exact this
theorem ePathsOfS(st:List Item)(hs:st.length<=1048576):Ev (fun k=>spec_l12Paths.f k st) (pathsOf st):=by
 have:=ePathsS st hs st.length 0 [] yo_ rfl;rw[List.nil_append,List.drop_zero] at this;exact this
def ascT(l:List ByteArray)(i:Nat):Bool:=decide (i=0)||Op.bytesLess (rdT l ((i - 1:Nat):Int)).toList (rdT l i).toList
def ascR(l:List ByteArray):Nat->Nat->Bool
 |0,_=>true
 |d+1,i=>ascT l i && ascR l d (i+1)
theorem eRise(l:List ByteArray)(hs:l.length<=1048576):∀d i:Nat,l.length=i+1+d->Ev (fun k=>impl_rising_hs.l0 k l ((i+1:Nat):Int)) (ascR l d (i+1))
 |0,i,h=>by
  refine Ev.step (fun k=>by rw[impl_rising_hs.l0]) ?_;simp only[if_neg (show¬((i+1:Nat):Int)<l.length by omega),ascR];exact Ev.now _
 |d+1,i,h=>by
  refine Ev.step (fun k=>by rw[impl_rising_hs.l0]) ?_;simp only[w64p (show i<4611686018427387904 by omega),if_pos (show((i+1:Nat):Int)<l.length by omega),if_pos (show(0:Int)<=i by omega),if_pos (show(i:Int)<l.length by omega),if_pos (show(0:Int)<=((i+1:Nat):Int) by omega),ascR,ascT,decide_eq_false (show¬i+1=0 by omega),Bool.false_or,Nat.add_sub_cancel];rw[w64n (i:=i+1) yo_];have ih:=eRise l hs d (i+1) yo_;show Ev (fun k=>if Op.bytesLess (rdT l (i:Int)).toList (rdT l ((i+1:Nat):Int)).toList=true then _ else _) _
  cases Op.bytesLess (rdT l (i:Int)).toList (rdT l ((i+1:Nat):Int)).toList with
  |false=>simp only[Bool.false_eq_true,if_false,Bool.false_and];exact Ev.now _
  |true=>simp only[if_true,Bool.true_and];exact ih
theorem eRising(l:List ByteArray)(hs:l.length<=1048576):Ev (fun k=>impl_rising_hs.f k l) (ascR l l.length 0):=by
 unfold impl_rising_hs.f;cases hl:l.length with
 |zero=>
  refine Ev.step (fun k=>by rw[impl_rising_hs.l0]) ?_;simp only[if_neg (show¬(1:Int)<l.length by omega),ascR];exact Ev.now _
 |succ n=>
  have:=eRise l hs n 0 yo_;simp only[ascR,ascT,decide_true,Bool.true_or,Bool.true_and];exact this
def itR(st:List Item)(l:List ByteArray):Nat->Nat->Bool
 |0,_=>true
 |d+1,i=>itemOk (rdI st i) l && itR st l d (i+1)
def storeOk(st:List Item):Bool:=decide (st.length<=300) && ascR (pathsOf st) st.length 0 && itR st (pathsOf st) st.length 0
def sSmall(st:List Item):Prop:=∀x ∈ st,iSmall x
theorem sSmall_at{st:List Item}(h:sSmall st){i:Nat}(hi:i<st.length):iSmall (rdI st (i:Int)):=by
 rw[rdI_at st i hi];exact h _ (List.getElem_mem hi)
theorem eItemsI(st:List Item)(hs:sSmall st)(hl:st.length<=300)(l:List ByteArray)(hl2:l.length<=2000):∀d i:Nat,st.length=i+d->Ev (fun k=>impl_StoreOk.l0 k l st (st.length:Int) (i:Int)) (itR st l d i)
 |0,i,h=>by
  refine Ev.step (fun k=>by rw[impl_StoreOk.l0]) ?_;simp only[if_neg (show¬(i:Int)<st.length by omega),itR];exact Ev.now _
 |d+1,i,h=>by
  have hi:i<st.length:=by omega
  refine Ev.step (fun k=>by rw[impl_StoreOk.l0]) ?_;simp only[if_pos (show(i:Int)<st.length by omega),if_pos (show(0:Int)<=i by omega),itR];refine Ev.bind (eItemI _ (sSmall_at hs hi) l hl2) ?_;rw[w64n yo_];cases itemOk (rdI st i) l with
  |false=>simp only[Bool.false_eq_true,if_false,Bool.false_and];exact Ev.now _
  |true=>simp only[if_true,Bool.true_and];exact eItemsI st hs hl l hl2 d (i+1) yo_
theorem eStoreI(st:List Item)(hs:sSmall st):Ev (fun k=>impl_StoreOk.f k st) (storeOk st):=by
 unfold impl_StoreOk.f storeOk;by_cases hl:(st.length:Int)>300
 ·simp only[if_pos hl,decide_eq_false (show¬st.length<=300 by omega),Bool.false_and];exact Ev.now _
 ·have hp:(pathsOf st).length=st.length:=by simp[pathsOf]
  simp only[if_neg hl,decide_eq_true (show st.length<=300 by omega),Bool.true_and];refine Ev.bind (ePathsOfI st yo_) ?_;have hr:=eRising (pathsOf st) yo_;rw[hp] at hr;refine Ev.bind hr ?_;cases ascR (pathsOf st) st.length 0 with
  |false=>simp only[Bool.false_eq_true,if_false,Bool.false_and];exact Ev.now _
  |true=>simp only[if_true,Bool.true_and];exact eItemsI st hs yo_ _ yo_ st.length 0 yo_
theorem eItemsS(st:List Item)(hs:sSmall st)(hl:st.length<=300)(l:List ByteArray)(hl2:l.length=st.length):∀d i:Nat,st.length=i+d->Ev (fun k=>spec_StoreOk.l0 k st l (i:Int)) (ascR l d i && itR st l d i)
 |0,i,h=>by
  refine Ev.step (fun k=>by rw[spec_StoreOk.l0]) ?_;simp only[if_neg (show¬(i:Int)<st.length by omega),itR,ascR,Bool.true_and];exact Ev.now _
 |d+1,0,h=>by
  have hi:0<st.length:=by omega
  have ih:=eItemsS st hs hl l hl2 d 1 yo_;refine Ev.step (fun k=>by rw[spec_StoreOk.l0]) ?_;have hI:=eItemS _ (sSmall_at hs hi) l yo_;simp only[if_pos (show((0:Nat):Int)<st.length by omega),if_neg (show¬((0:Nat):Int)>0 by decide),if_pos (show(0:Int)<=((0:Nat):Int) by decide),itR,ascR,ascT,decide_true,Bool.true_or,Bool.true_and];refine Ev.bind hI ?_;rw[w64n yo_];cases itemOk (rdI st ((0:Nat):Int)) l with
  |false=>simp only[Bool.false_eq_true,if_false,Bool.false_and,Bool.and_false];exact Ev.now _
  |true=>simp only[if_true,Bool.true_and];exact ih
 |d+1,i+1,h=>by
  have hi:i+1<st.length:=by omega
  have ih:=eItemsS st hs hl l hl2 d (i+2) yo_;have hI:=eItemS _ (sSmall_at hs hi) l yo_;refine Ev.step (fun k=>by rw[spec_StoreOk.l0]) ?_;simp only[w64p (show i<4611686018427387904 by omega),if_pos (show((i+1:Nat):Int)<st.length by omega),if_pos (show((i+1:Nat):Int)>0 by omega),if_pos (show(0:Int)<=((i+1:Nat):Int) by omega),if_pos (show(0:Int)<=(i:Int) by omega),if_pos (show(i:Int)<l.length by omega),if_pos (show((i+1:Nat):Int)<l.length by omega),itR,ascR,ascT,decide_eq_false (show¬i+1=0 by omega),Bool.false_or,Nat.add_sub_cancel];rw[w64n (i:=i+1) yo_];show Ev (fun k=>if Op.bytesLess (rdT l (i:Int)).toList (rdT l ((i+1:Nat):Int)).toList=true then _ else _) _
  cases Op.bytesLess (rdT l (i:Int)).toList (rdT l ((i+1:Nat):Int)).toList with
  |false=>simp only[Bool.false_eq_true,if_false,Bool.false_and];exact Ev.now _
  |true=>
   simp only[if_true,Bool.true_and];refine Ev.bind hI ?_;cases itemOk (rdI st ((i+1:Nat):Int)) l with
   |false=>simp only[Bool.false_eq_true,if_false,Bool.false_and,Bool.and_false];exact Ev.now _
   |true=>simp only[if_true,Bool.true_and];exact ih
theorem eStoreS(st:List Item)(hs:sSmall st):Ev (fun k=>spec_StoreOk.f k st) (storeOk st):=by
 unfold spec_StoreOk.f storeOk;by_cases hl:(st.length:Int)>300
 ·simp only[if_pos hl,decide_eq_false (show¬st.length<=300 by omega),Bool.false_and];exact Ev.now _
 ·have hp:(pathsOf st).length=st.length:=by simp[pathsOf]
  simp only[if_neg hl,decide_eq_true (show st.length<=300 by omega),Bool.true_and];refine Ev.bind (ePathsOfS st yo_) ?_;exact eItemsS st hs yo_ _ hp st.length 0 yo_
end P
end Go.Proofs.YtgccknmddhbdgaaGreatDoor.Q
