import Derived.Test.YtgccknmddhbdgaaGreatDoorE05
import Derived.Test.YtgccknmddhbdgaaGreatDoorE15
import Derived.Test.YtgccknmddhbdgaaGreatDoorE20
namespace Go.Proofs.YtgccknmddhbdgaaGreatDoor.Q
open Go.RowKit W1 W2 W3
namespace P
abbrev Gen:=S101
abbrev rdG(xs:List Gen)(i:Int):Gen:=qN xs i
abbrev Prof:=S99
abbrev rdP(xs:List Prof)(i:Int):Prof:=qF xs i
theorem rdP_at(xs:List Prof)(i:Nat)(h:i<xs.length):rdP xs (i:Int)=xs[i]:=by
 show xs.getD i z99=_
 simp[List.getD_eq_getElem?_getD,List.getElem?_eq_getElem h]
def genOk(gs:List Gen)(j:Nat):Bool:=decide (1<=(rdG gs j).f0) && decide ((rdG gs j).f0<=9007199254740992) && (decide (j=0)||decide ((rdG gs ((j - 1:Nat):Int)).f0<(rdG gs j).f0)) && addrOk (rdG gs j).f1
def gensR(gs:List Gen):Nat->Nat->Bool
 |0,_=>true
 |d+1,j=>genOk gs j && gensR gs d (j+1)
def hasN(gs:List Gen)(n:Int):Nat->Nat->Bool
 |0,_=>false
 |d+1,j=>((rdG gs j).f0==n)||hasN gs n d (j+1)
def ascP(ps:List Prof)(i:Nat):Bool:=decide (i=0)||Op.bytesLess (rdP ps ((i - 1:Nat):Int)).f0.toList (rdP ps i).f0.toList
def profOk(p:Prof):Bool:=decide (p.f2.length<=50) && ((p.f1==0)||hasN p.f2 p.f1 p.f2.length 0) && gensR p.f2 p.f2.length 0
def profsR(ps:List Prof):Nat->Nat->Bool
 |0,_=>true
 |d+1,i=>nameOk (rdP ps i).f0 && ascP ps i && profOk (rdP ps i) && profsR ps d (i+1)
def profilesOk(ps:List Prof):Bool:=decide (ps.length<=20) && profsR ps ps.length 0
theorem eGensI(ps:List Prof)(i:Nat)(n:Int)(a:ByteArray)(gs:List Gen)(hg:gs.length<=50)(r:Bool)(hr:Ev (fun k=>impl_ProfilesOk.l0 k ps ps (ps.length:Int) (wrap64 ((i:Int)+1))) r):
 ∀(d j:Nat) (now:Bool),gs.length=j+d->Ev (fun k=>impl_ProfilesOk.l1 k ps now ps (ps.length:Int) (i:Int) gs (gs.length:Int) (j:Int) a n gs) (gensR gs d j && (now||hasN gs n d j) && r)
 |0,j,now,h=>by
  refine Ev.step (fun k=>by rw[impl_ProfilesOk.l1]) ?_;simp only[if_neg (show¬(j:Int)<gs.length by omega),gensR,hasN,Bool.true_and,Bool.or_false];cases now with
  |false=>simp only[Bool.false_eq_true,if_false,Bool.false_and];exact Ev.now _
  |true=>simp only[if_true,Bool.true_and];exact hr
 |d+1,j,now,h=>by
  have ih:=eGensI ps i n a gs hg r hr d (j+1) (now||((rdG gs j).f0==n)) yo_;refine Ev.step (fun k=>by rw[impl_ProfilesOk.l1]) ?_;simp only[if_pos (show(j:Int)<gs.length by omega),if_pos (show(0:Int)<=j by omega),gensR,genOk,hasN];by_cases h1:(rdG gs j).f0<1
  ·simp only[if_pos h1,decide_eq_false (show¬1<=(rdG gs j).f0 by omega),Bool.false_and];exact Ev.now _
  ·by_cases h2:(rdG gs j).f0>9007199254740992
   ·simp only[if_neg h1,if_pos h2,decide_eq_false (show¬(rdG gs j).f0<=9007199254740992 by omega),Bool.false_and,Bool.and_false];exact Ev.now _
   ·simp only[if_neg h1,if_neg h2,decide_eq_true (show 1<=(rdG gs j).f0 by omega),decide_eq_true (show(rdG gs j).f0<=9007199254740992 by omega),Bool.true_and];refine Ev.bind (eAddrI _) ?_;cases hA:addrOk (rdG gs j).f1 with
    |false=>simp only[Bool.false_eq_true,if_false,Bool.and_false,Bool.false_and];exact Ev.now _
    |true=>
     simp only[if_true,Bool.and_true];rw[w64n yo_];have hn:∀b,Ev (fun k=>if now=true then impl_ProfilesOk.l1 k ps true ps (ps.length:Int) (i:Int) gs (gs.length:Int) ((j+1:Nat):Int) a n gs else impl_ProfilesOk.l1 k ps ((rdG gs j).f0==n) ps (ps.length:Int) (i:Int) gs (gs.length:Int) ((j+1:Nat):Int) a n gs) b↔Ev (fun k=>impl_ProfilesOk.l1 k ps (now||((rdG gs j).f0==n)) ps (ps.length:Int) (i:Int) gs (gs.length:Int) ((j+1:Nat):Int) a n gs) b:=by
      intro b;cases now<;>simp
     rw[show(now||((rdG gs j).f0==n||hasN gs n d (j+1)))=((now||(rdG gs j).f0==n)||hasN gs n d (j+1)) by rw[Bool.or_assoc]];cases j with
     |zero=>
      simp only[if_neg (show¬((0:Nat):Int)>0 by decide),decide_true,Bool.true_or,Bool.true_and];exact(hn _).2 ih
     |succ j=>
      simp only[w64p (show j<4611686018427387904 by omega),if_pos (show((j+1:Nat):Int)>0 by omega),if_pos (show(0:Int)<=(j:Int) by omega),if_pos (show(j:Int)<gs.length by omega),decide_eq_false (show¬j+1=0 by omega),Bool.false_or,Nat.add_sub_cancel];by_cases h3:(rdG gs (j:Int)).f0>=(rdG gs ((j+1:Nat):Int)).f0
      ·simp only[if_pos h3,decide_eq_false (show¬(rdG gs (j:Int)).f0<(rdG gs ((j+1:Nat):Int)).f0 by omega),Bool.false_and];exact Ev.now _
      ·simp only[if_neg h3,decide_eq_true (show(rdG gs (j:Int)).f0<(rdG gs ((j+1:Nat):Int)).f0 by omega),Bool.true_and];exact(hn _).2 ih
theorem eProfsI(ps:List Prof)(hl:ps.length<=20):∀d i:Nat,ps.length=i+d->Ev (fun k=>impl_ProfilesOk.l0 k ps ps (ps.length:Int) (i:Int)) (profsR ps d i)
 |0,i,h=>by
  refine Ev.step (fun k=>by rw[impl_ProfilesOk.l0]) ?_;simp only[if_neg (show¬(i:Int)<ps.length by omega),profsR];exact Ev.now _
 |d+1,i,h=>by
  have ih:=eProfsI ps hl d (i+1) yo_;rw[<-w64n yo_] at ih;have hG:∀(hg:(rdP ps i).f2.length<=50),Ev (fun k=>impl_ProfilesOk.l1 k ps ((rdP ps i).f1==0) ps (ps.length:Int) (i:Int) (rdP ps i).f2 ((rdP ps i).f2.length:Int) 0 (rdP ps i).f0 (rdP ps i).f1 (rdP ps i).f2) (profOk (rdP ps i) && profsR ps d (i+1)):=by
   intro hg;have:=eGensI ps i (rdP ps i).f1 (rdP ps i).f0 (rdP ps i).f2 hg _ ih (rdP ps i).f2.length 0 ((rdP ps i).f1==0) yo_
   rw[show profOk (rdP ps i)=(gensR (rdP ps i).f2 (rdP ps i).f2.length 0 && ((rdP ps i).f1==0||hasN (rdP ps i).f2 (rdP ps i).f1 (rdP ps i).f2.length 0)) by
    unfold profOk;rw[decide_eq_true hg,Bool.true_and,Bool.and_comm]]
   exact this
  refine Ev.step (fun k=>by rw[impl_ProfilesOk.l0]) ?_;simp only[if_pos (show(i:Int)<ps.length by omega),if_pos (show(0:Int)<=i by omega),profsR];refine Ev.bind (eNameI _) ?_;cases hN:nameOk (rdP ps i).f0 with
  |false=>simp only[Bool.false_eq_true,if_false,Bool.false_and];exact Ev.now _
  |true=>
   simp only[if_true,Bool.true_and];cases i with
   |zero=>
    have e:ascP ps 0=true:=by simp[ascP]
    simp only[if_neg (show¬((0:Nat):Int)>0 by decide),e,Bool.true_and];by_cases hg:((rdP ps ((0:Nat):Int)).f2.length:Int)>50
    ·have:profOk (rdP ps ((0:Nat):Int))=false:=by unfold profOk;rw[decide_eq_false yo_];rfl
     simp only[if_pos hg,this,Bool.false_and];exact Ev.now _
    ·simp only[if_neg hg];exact hG yo_
   |succ i=>
    have e:ascP ps (i+1)=Op.bytesLess (rdP ps (i:Int)).f0.toList (rdP ps ((i+1:Nat):Int)).f0.toList:=by simp[ascP]
    simp only[w64p (show i<4611686018427387904 by omega),if_pos (show((i+1:Nat):Int)>0 by omega),if_pos (show(0:Int)<=(i:Int) by omega),if_pos (show(i:Int)<ps.length by omega),e];cases Op.bytesLess (rdP ps (i:Int)).f0.toList (rdP ps ((i+1:Nat):Int)).f0.toList with
    |false=>simp only[Bool.false_eq_true,if_false,Bool.false_and];exact Ev.now _
    |true=>
     simp only[if_true,Bool.true_and];by_cases hg:((rdP ps ((i+1:Nat):Int)).f2.length:Int)>50
     ·have:profOk (rdP ps ((i+1:Nat):Int))=false:=by unfold profOk;rw[decide_eq_false yo_];rfl
      simp only[if_pos hg,this,Bool.false_and];exact Ev.now _
     ·simp only[if_neg hg];exact hG yo_
theorem eProfI(ps:List Prof):Ev (fun k=>impl_ProfilesOk.f k ps) (profilesOk ps):=by
 unfold impl_ProfilesOk.f profilesOk;by_cases hl:(ps.length:Int)>20
 ·simp only[if_pos hl,decide_eq_false (show¬ps.length<=20 by omega),Bool.false_and];exact Ev.now _
 ·simp only[if_neg hl,decide_eq_true (show ps.length<=20 by omega),Bool.true_and];exact eProfsI ps yo_ ps.length 0 yo_
theorem eGenFind(a:ByteArray)(m n:Int)(gs:List Gen)(hg:gs.length<=1048576):∀d j:Nat,gs.length=j+d->∃r,Ev (fun k=>spec_l13Gen.l0 k n (j:Int) a m gs) r/\decide (0<=r)=hasN gs n d j
 |0,j,h=>by
  refine⟨-1,Ev.step (fun k=>by rw[spec_l13Gen.l0]) ?_,rfl⟩;simp only[if_neg (show¬(j:Int)<gs.length by omega)];exact Ev.now _
 |d+1,j,h=>by
  by_cases he:(rdG gs j).f0=n
  ·refine⟨j,Ev.step (fun k=>by rw[spec_l13Gen.l0]) ?_,by simp[hasN,he]⟩;simp only[if_pos (show(j:Int)<gs.length by omega),if_pos (show(0:Int)<=j by omega),if_pos he];exact Ev.now _
  ·obtain⟨r,h1,h2⟩:=eGenFind a m n gs hg d (j+1) yo_;refine⟨r,Ev.step (fun k=>by rw[spec_l13Gen.l0]) ?_,by rw[hasN,show((rdG gs j).f0==n)=false by simpa using he,Bool.false_or];exact h2⟩;simp only[if_pos (show(j:Int)<gs.length by omega),if_pos (show(0:Int)<=j by omega),if_neg he];rw[w64n yo_];exact h1
theorem eGensS(ps:List Prof)(i:Nat)(n:Int)(a:ByteArray)(gs:List Gen)(hg:gs.length<=50)(r:Bool)(hr:Ev (fun k=>spec_ProfilesOk.l0 k ps (wrap64 ((i:Int)+1))) r):
 ∀(d j:Nat),gs.length=j+d->Ev (fun k=>spec_ProfilesOk.l1 k ps (i:Int) (j:Int) a n gs) (gensR gs d j && r)
 |0,j,h=>by
  refine Ev.step (fun k=>by rw[spec_ProfilesOk.l1]) ?_;simp only[if_neg (show¬(j:Int)<gs.length by omega),gensR,Bool.true_and];exact hr
 |d+1,j,h=>by
  have ih:=eGensS ps i n a gs hg r hr d (j+1) yo_;refine Ev.step (fun k=>by rw[spec_ProfilesOk.l1]) ?_;simp only[if_pos (show(j:Int)<gs.length by omega),if_pos (show(0:Int)<=j by omega),gensR,genOk];by_cases h1:(rdG gs j).f0<1
  ·simp only[if_pos h1,decide_eq_false (show¬1<=(rdG gs j).f0 by omega),Bool.false_and];exact Ev.now _
  ·by_cases h2:(rdG gs j).f0>9007199254740992
   ·simp only[if_neg h1,if_pos h2,decide_eq_false (show¬(rdG gs j).f0<=9007199254740992 by omega),Bool.false_and,Bool.and_false];exact Ev.now _
   ·simp only[if_neg h1,if_neg h2,decide_eq_true (show 1<=(rdG gs j).f0 by omega),decide_eq_true (show(rdG gs j).f0<=9007199254740992 by omega),Bool.true_and];cases j with
    |zero=>
     simp only[if_neg (show¬((0:Nat):Int)>0 by decide),decide_true,Bool.true_or,Bool.true_and];refine Ev.bind (eAddrS _) ?_;rw[w64n yo_];cases hA:addrOk (rdG gs ((0:Nat):Int)).f1 with
     |false=>simp only[Bool.false_eq_true,if_false,Bool.false_and];exact Ev.now _
     |true=>simp only[if_true,Bool.true_and];exact ih
    |succ j=>
     simp only[w64p (show j<4611686018427387904 by omega),if_pos (show((j+1:Nat):Int)>0 by omega),if_pos (show(0:Int)<=(j:Int) by omega),if_pos (show(j:Int)<gs.length by omega),decide_eq_false (show¬j+1=0 by omega),Bool.false_or,Nat.add_sub_cancel];by_cases h3:(rdG gs (j:Int)).f0>=(rdG gs ((j+1:Nat):Int)).f0
     ·simp only[if_pos h3,decide_eq_false (show¬(rdG gs (j:Int)).f0<(rdG gs ((j+1:Nat):Int)).f0 by omega),Bool.false_and];exact Ev.now _
     ·simp only[if_neg h3,decide_eq_true (show(rdG gs (j:Int)).f0<(rdG gs ((j+1:Nat):Int)).f0 by omega),Bool.true_and];refine Ev.bind (eAddrS _) ?_;rw[w64n yo_];cases hA:addrOk (rdG gs ((j+1:Nat):Int)).f1 with
      |false=>simp only[Bool.false_eq_true,if_false,Bool.false_and];exact Ev.now _
      |true=>simp only[if_true,Bool.true_and];exact ih
theorem eProfsS(ps:List Prof)(hl:ps.length<=20):∀d i:Nat,ps.length=i+d->Ev (fun k=>spec_ProfilesOk.l0 k ps (i:Int)) (profsR ps d i)
 |0,i,h=>by
  refine Ev.step (fun k=>by rw[spec_ProfilesOk.l0]) ?_;simp only[if_neg (show¬(i:Int)<ps.length by omega),profsR];exact Ev.now _
 |d+1,i,h=>by
  have ih:=eProfsS ps hl d (i+1) yo_;rw[<-w64n yo_] at ih;have hG:∀b:Bool,b=(profOk (rdP ps i) && profsR ps d (i+1))->Ev (fun k=>if((rdP ps i).f2.length:Int)>50 then some false else(if(rdP ps i).f1=0 then spec_ProfilesOk.l1 k ps (i:Int) 0 (rdP ps i).f0 (rdP ps i).f1 (rdP ps i).f2 else((spec_l13Gen.f k (rdP ps i).f0 (rdP ps i).f1 (rdP ps i).f2 (rdP ps i).f1).bind fun t=>if t<0 then some false else spec_ProfilesOk.l1 k ps (i:Int) 0 (rdP ps i).f0 (rdP ps i).f1 (rdP ps i).f2))) b:=by
   rintro b rfl;by_cases hg:((rdP ps i).f2.length:Int)>50
   ·have:profOk (rdP ps i)=false:=by unfold profOk;rw[decide_eq_false yo_];rfl
    simp only[if_pos hg,this,Bool.false_and];exact Ev.now _
   ·have hS:=eGensS ps i (rdP ps i).f1 (rdP ps i).f0 (rdP ps i).f2 yo_ _ ih (rdP ps i).f2.length 0 yo_;simp only[if_neg hg,profOk,decide_eq_true (show(rdP ps i).f2.length<=50 by omega),Bool.true_and];by_cases h0:(rdP ps i).f1=0
    ·have e:((rdP ps i).f1==0)=true:=by simpa using h0
     simp only[if_pos h0,e,Bool.true_or,Bool.true_and];exact hS
    ·have e:((rdP ps i).f1==0)=false:=by simpa using h0
     simp only[if_neg h0,e,Bool.false_or];obtain⟨r,h1,h2⟩:=eGenFind (rdP ps i).f0 (rdP ps i).f1 (rdP ps i).f1 (rdP ps i).f2 yo_ (rdP ps i).f2.length 0 yo_;refine Ev.bind h1 ?_;by_cases hr:r<0
     ·rw[decide_eq_false yo_] at h2;simp only[if_pos hr,<-h2,Bool.false_and];exact Ev.now _
     ·rw[decide_eq_true yo_] at h2;simp only[if_neg hr,<-h2,Bool.true_and];exact hS
  refine Ev.step (fun k=>by rw[spec_ProfilesOk.l0]) ?_;simp only[if_pos (show(i:Int)<ps.length by omega),if_pos (show(0:Int)<=i by omega),profsR];refine Ev.bind (eNameS _) ?_;cases hN:nameOk (rdP ps i).f0 with
  |false=>simp only[Bool.false_eq_true,if_false,Bool.false_and];exact Ev.now _
  |true=>
   simp only[if_true,Bool.true_and];cases i with
   |zero=>
    have e:ascP ps 0=true:=by simp[ascP]
    simp only[if_neg (show¬((0:Nat):Int)>0 by decide),e,Bool.true_and];exact hG _ rfl
   |succ i=>
    have e:ascP ps (i+1)=Op.bytesLess (rdP ps (i:Int)).f0.toList (rdP ps ((i+1:Nat):Int)).f0.toList:=by simp[ascP]
    simp only[w64p (show i<4611686018427387904 by omega),if_pos (show((i+1:Nat):Int)>0 by omega),if_pos (show(0:Int)<=(i:Int) by omega),if_pos (show(i:Int)<ps.length by omega),e];cases Op.bytesLess (rdP ps (i:Int)).f0.toList (rdP ps ((i+1:Nat):Int)).f0.toList with
    |false=>simp only[Bool.false_eq_true,if_false,Bool.false_and];exact Ev.now _
    |true=>
     simp only[if_true,Bool.true_and];exact hG _ rfl
theorem eProfS(ps:List Prof):Ev (fun k=>spec_ProfilesOk.f k ps) (profilesOk ps):=by
 unfold spec_ProfilesOk.f profilesOk;by_cases hl:(ps.length:Int)>20
 ·simp only[if_pos hl,decide_eq_false (show¬ps.length<=20 by omega),Bool.false_and];exact Ev.now _
 ·simp only[if_neg hl,decide_eq_true (show ps.length<=20 by omega),Bool.true_and];exact eProfsS ps yo_ ps.length 0 yo_
end P
end Go.Proofs.YtgccknmddhbdgaaGreatDoor.Q
