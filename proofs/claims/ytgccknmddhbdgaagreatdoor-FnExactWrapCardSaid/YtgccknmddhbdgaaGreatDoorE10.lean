import Derived.Test.YtgccknmddhbdgaaGreatDoorE07
import Derived.Test.YtgccknmddhbdgaaGreatDoorE09
namespace Go.Proofs.YtgccknmddhbdgaaGreatDoor.Q
open Go.RowKit W1 W2 W3
namespace P
theorem and127(n:Nat)(h:n<9223372036854775808):Go.bits .and .i64 (n:Int) 127=((n % 128:Nat):Int):=by
 have h1:(BitVec.ofInt 64 (n:Int) &&& BitVec.ofInt 64 127).toNat=n % 128:=by
  rw[BitVec.toNat_and];have e1:(BitVec.ofInt 64 (n:Int)).toNat=n:=by rw[BitVec.toNat_ofInt];omega
  have e2:(BitVec.ofInt 64 (127:Int)).toNat=2 ^ 7 - 1:=by decide
  rw[e1,e2,Nat.and_two_pow_sub_one_eq_mod]
 show IntKind.i64.wrap ((BitVec.ofInt 64 (n:Int) &&& BitVec.ofInt 64 127).toNat)=_
 rw[h1];exact(i64_w _).trans (wrap64_small yo_ yo_)
theorem or128:∀m:Fin 128,Go.bits .or .i64 ((m.val:Nat):Int) 128=((m.val:Nat):Int)+128:=by decide+kernel
def vi(n:Nat):List Int:=if n<128 then[(n:Int)] else((n % 128+128:Nat):Int)::vi (n / 128)
 termination_by n
theorem vi_len:∀n:Nat,(vi n).length<=n+1:=by
 intro n;induction n using Nat.strongRecOn with
 |ind n ih=>
  unfold vi;split
  ·simp
  ·have:=ih (n / 128) yo_;simp only[List.length_cons];omega
theorem eVarI:∀(n:Nat) (b:List Int),b.length+n<1000000000000->Ev (fun k=>impl_varint.l0 k b (n:Int)) (b++vi n):=by
 intro n;induction n using Nat.strongRecOn with
 |ind n ih=>
  intro b hb;refine Ev.step (fun k=>by rw[impl_varint.l0]) ?_;unfold vi;by_cases h:n<128
  ·simp only[if_neg (show¬(n:Int)>127 by omega),if_pos (show b.length<140737488355328 by omega),if_pos h,show(n:Int) % 256=n by omega];exact Ev.now _
  ·have e:(Go.bits .or .i64 (Go.bits .and .i64 (n:Int) 127) 128) % 256=((n % 128+128:Nat):Int):=by
    rw[and127 n yo_,or128 ⟨n % 128,by omega⟩];simp only;omega
   simp only[if_pos (show(n:Int)>127 by omega),if_pos (show b.length<140737488355328 by omega),if_neg h,e,show(n:Int) / 128=((n / 128:Nat):Int) by omega];have:=ih (n / 128) yo_ (b++[((n % 128+128:Nat):Int)]) (by simp;omega);simpa using this
theorem eVarS:∀(n:Nat) (b:List Int),b.length+n<1000000000000->Ev (fun k=>spec_l10Num.l0 k b (n:Int)) (b++vi n):=by
 intro n;induction n using Nat.strongRecOn with
 |ind n ih=>
  intro b hb;refine Ev.step (fun k=>by rw[spec_l10Num.l0]) ?_;unfold vi;by_cases h:n<128
  ·simp only[if_neg (show¬(n:Int)>=128 by omega),if_pos (show b.length<140737488355328 by omega),if_pos h,show(n:Int) % 256=n by omega];exact Ev.now _
  ·have e:(wrap64 (Int.tmod (n:Int) 128+128)) % 256=((n % 128+128:Nat):Int):=by
    rw[Int.tmod_eq_emod_of_nonneg yo_,wrap64_small yo_ yo_];omega
   have e2:wrap64 (Int.tdiv (n:Int) 128)=((n / 128:Nat):Int):=by
    rw[Int.tdiv_eq_ediv_of_nonneg yo_,wrap64_small yo_ yo_];omega
   simp only[if_pos (show(n:Int)>=128 by omega),if_pos (show b.length<140737488355328 by omega),if_neg h,e,e2];have:=ih (n / 128) yo_ (b++[((n % 128+128:Nat):Int)]) (by simp;omega);simpa using this
def kB(e:Entry):Int:=if e.f3=true then(e.f1+16) % 256 else e.f1 % 256
def entB(e:Entry):List Int:=kB e::(vi e.f0.size++(bytesI e.f0++(vi e.f2.size++bytesI e.f2)))
theorem entB_len(e:Entry)(h:eSmall e):(entB e).length<=5000000:=by
 have h1:=vi_len e.f0.size;have h2:=vi_len e.f2.size;have:=h.1;have:=h.2;simp only[entB,List.length_cons,List.length_append,bytesI_len];omega
def packB(t:List Entry):Nat->Nat->List Int
 |0,_=>[]
 |d+1,i=>entB (rdE t i)++packB t d (i+1)
theorem bytesOf_eq(s:ByteArray):bytesOf s=bytesI s:=rfl
theorem ePackI(t:List Entry)(ht:tSmall t)(hl:t.length<=500):∀(d i:Nat) (b:List Int),t.length=i+d->b.length<=1000+5000000*i->Ev (fun k=>impl_PackTree.l0 k b t (t.length:Int) (i:Int)) (b++packB t d i)
 |0,i,b,h,hb=>by
  refine Ev.step (fun k=>by rw[impl_PackTree.l0]) ?_;simp only[if_neg (show¬(i:Int)<t.length by omega),packB,List.append_nil];exact Ev.now _
 |d+1,i,b,h,hb=>by
  have hi:i<t.length:=by omega
  have hs:=tSmall_at ht hi;have h1:=vi_len (rdE t i).f0.size;have h2:=vi_len (rdE t i).f2.size;have hs1:=hs.1;have hs2:=hs.2;have e1:=eVarI (rdE t i).f0.size (b++[kB (rdE t i)]) (by simp;omega);have l1:(b++[kB (rdE t i)]++vi (rdE t i).f0.size).length+(rdE t i).f0.size<140737488355328:=by simp;omega
  have e2:=eVarI (rdE t i).f2.size (b++[kB (rdE t i)]++vi (rdE t i).f0.size++bytesI (rdE t i).f0) (by simp[bytesI_len];omega);have l2:(b++[kB (rdE t i)]++vi (rdE t i).f0.size++bytesI (rdE t i).f0++vi (rdE t i).f2.size).length+(rdE t i).f2.size<140737488355328:=by simp[bytesI_len];omega
  have hE:=entB_len (rdE t i) hs;have ih:=ePackI t ht hl d (i+1) (b++entB (rdE t i)) yo_ (by rw[List.length_append];omega);have e3:b++entB (rdE t i)=b++[kB (rdE t i)]++vi (rdE t i).f0.size++bytesI (rdE t i).f0++vi (rdE t i).f2.size++bytesI (rdE t i).f2:=by simp[entB]
  have e4:b++packB t (d+1) i=b++entB (rdE t i)++packB t d (i+1):=by simp[packB]
  rw[e4,e3];rw[e3] at ih;refine Ev.step (fun k=>by rw[impl_PackTree.l0]) ?_;simp only[if_pos (show(i:Int)<t.length by omega),if_pos (show(0:Int)<=i by omega),if_pos (show b.length<140737488355328 by omega),bytesOf_eq];rw[w64n yo_];by_cases hx:(rdE t i).f3=true
  ·have hk:((rdE t i).f1+16) % 256=kB (rdE t i):=by unfold kB;rw[if_pos hx]
   simp only[if_pos hx,hk];refine Ev.bind e1 ?_;simp only[if_pos l1];refine Ev.bind e2 ?_;simp only[if_pos l2];exact ih
  ·have hk:(rdE t i).f1 % 256=kB (rdE t i):=by unfold kB;rw[if_neg hx]
   simp only[if_neg hx,hk];refine Ev.bind e1 ?_;simp only[if_pos l1];refine Ev.bind e2 ?_;simp only[if_pos l2];exact ih
theorem ePackS(t:List Entry)(ht:tSmall t)(hl:t.length<=500):∀(d i:Nat) (b:List Int),t.length=i+d->b.length<=1000+5000000*i->Ev (fun k=>spec_PackTree.l0 k t b (i:Int)) (b++packB t d i)
 |0,i,b,h,hb=>by
  refine Ev.step (fun k=>by rw[spec_PackTree.l0]) ?_;simp only[if_neg (show¬(i:Int)<t.length by omega),packB,List.append_nil];exact Ev.now _
 |d+1,i,b,h,hb=>by
  have hi:i<t.length:=by omega
  have hs:=tSmall_at ht hi;have h1:=vi_len (rdE t i).f0.size;have h2:=vi_len (rdE t i).f2.size;have hs1:=hs.1;have hs2:=hs.2;have e1:=eVarS (rdE t i).f0.size (b++[kB (rdE t i)]) (by simp;omega);have l1:(b++[kB (rdE t i)]++vi (rdE t i).f0.size).length+(rdE t i).f0.size<140737488355328:=by simp;omega
  have t1:Ev (fun k=>spec_l10Text.f k (b++[kB (rdE t i)]) (rdE t i).f0) (b++[kB (rdE t i)]++vi (rdE t i).f0.size++bytesI (rdE t i).f0):=by
   unfold spec_l10Text.f spec_l10Num.f;refine Ev.bind e1 ?_;simp only[if_pos l1];exact Ev.now _
  have e2:=eVarS (rdE t i).f2.size (b++[kB (rdE t i)]++vi (rdE t i).f0.size++bytesI (rdE t i).f0) (by simp[bytesI_len];omega);have l2:(b++[kB (rdE t i)]++vi (rdE t i).f0.size++bytesI (rdE t i).f0++vi (rdE t i).f2.size).length+(rdE t i).f2.size<140737488355328:=by simp[bytesI_len];omega
  have t2:Ev (fun k=>spec_l10Text.f k (b++[kB (rdE t i)]++vi (rdE t i).f0.size++bytesI (rdE t i).f0) (rdE t i).f2) (b++entB (rdE t i)):=by
   unfold spec_l10Text.f spec_l10Num.f;refine Ev.bind e2 ?_;simp only[if_pos l2];refine ev_eq (congrArg some ?_);simp[entB]
  have hE:=entB_len (rdE t i) hs;have ih:=ePackS t ht hl d (i+1) (b++entB (rdE t i)) yo_ (by rw[List.length_append];omega);refine Ev.step (fun k=>by rw[spec_PackTree.l0]) ?_;simp only[if_pos (show(i:Int)<t.length by omega),if_pos (show(0:Int)<=i by omega),if_pos (show b.length<140737488355328 by omega),packB];rw[w64n yo_];by_cases hx:(rdE t i).f3=true
  ·have hk:(wrap64 ((rdE t i).f1+16)) % 256=kB (rdE t i):=by
    unfold kB;rw[if_pos hx];unfold wrap64;omega
   simp only[if_pos hx,hk];refine Ev.bind t1 (Ev.bind t2 ?_);simpa using ih
  ·have hk:(rdE t i).f1 % 256=kB (rdE t i):=by
    unfold kB;rw[if_neg hx]
   simp only[if_neg hx,hk];refine Ev.bind t1 (Ev.bind t2 ?_);simpa using ih
def pack(t:List Entry):List Int:=[76,65,82,49]++vi t.length++packB t t.length 0
theorem treeOk_len{t:List Entry}(h:treeOk t=true):t.length<=500:=by
 unfold treeOk at h;simp only[Bool.and_eq_true,decide_eq_true_eq] at h;exact h.1.1
theorem ePackTreeI(t:List Entry)(ht:tSmall t)(h:treeOk t=true):Ev (fun k=>impl_PackTree.f k t) (pack t):=by
 have hl:=treeOk_len h;have hv:=vi_len t.length;unfold impl_PackTree.f;refine Ev.bind (eTreeI t ht) ?_;simp only[h,if_true];refine Ev.bind (eVarI t.length [76,65,82,49] (by simp;omega)) ?_;exact ePackI t ht hl t.length 0 _ yo_ (by simp;omega)
theorem ePackTreeS(t:List Entry)(ht:tSmall t)(h:treeOk t=true):Ev (fun k=>spec_PackTree.f k t) (pack t):=by
 have hl:=treeOk_len h;have hv:=vi_len t.length;unfold spec_PackTree.f;refine Ev.bind (eTreeS t ht) ?_;simp only[h,if_true];refine Ev.bind (eVarS t.length [76,65,82,49] (by simp;omega)) ?_;exact ePackS t ht hl t.length 0 _ yo_ (by simp;omega)
def mixB(b:List Int):Nat->Nat->Int->Int
 |0,_,h=>h
 |d+1,i,h=>mixB b d (i+1) (IntKind.u64.wrap ((Go.bits .xor .u64 h (IntKind.u64.wrap (rd b i)))*1099511628211))
def endB:Nat->Int->Int
 |0,h=>Go.bits .xor .u64 h (h / 4294967296)
 |d+1,h=>endB d (IntKind.u64.wrap ((Go.bits .xor .u64 h (h / 536870912))*11400714819323198485))
theorem eEndI:∀(d i:Nat) (h:Int),3=i+d->Ev (fun k=>impl_Sum.l1 k h (i:Int)) (endB d h)
 |0,i,h,e=>by
  refine Ev.step (fun k=>by rw[impl_Sum.l1]) ?_;simp only[if_neg (show¬(i:Int)<3 by omega),endB];exact Ev.now _
 |d+1,i,h,e=>by
  refine Ev.step (fun k=>by rw[impl_Sum.l1]) ?_;simp only[if_pos (show(i:Int)<3 by omega),endB];rw[w64n yo_];exact eEndI d (i+1) _ yo_
theorem eEndS:∀(d i:Nat) (h:Int),3=i+d->Ev (fun k=>spec_Sum.l1 k h (i:Int)) (endB d h)
 |0,i,h,e=>by
  refine Ev.step (fun k=>by rw[spec_Sum.l1]) ?_;simp only[if_neg (show¬(i:Int)<3 by omega),endB];exact Ev.now _
 |d+1,i,h,e=>by
  refine Ev.step (fun k=>by rw[spec_Sum.l1]) ?_;simp only[if_pos (show(i:Int)<3 by omega),endB];rw[w64n yo_];exact eEndS d (i+1) _ yo_
theorem eMixI(b:List Int)(hb:b.length<1000000000000):∀(d i:Nat) (h:Int),b.length=i+d->Ev (fun k=>impl_Sum.l0 k h b (b.length:Int) (i:Int)) (endB 3 (mixB b d i h))
 |0,i,h,e=>by
  refine Ev.step (fun k=>by rw[impl_Sum.l0]) ?_;simp only[if_neg (show¬(i:Int)<b.length by omega),mixB];exact eEndI 3 0 h rfl
 |d+1,i,h,e=>by
  refine Ev.step (fun k=>by rw[impl_Sum.l0]) ?_;simp only[if_pos (show(i:Int)<b.length by omega),if_pos (show(0:Int)<=i by omega),mixB];rw[w64n yo_];exact eMixI b hb d (i+1) _ yo_
theorem eMixS(b:List Int)(hb:b.length<1000000000000):∀(d i:Nat) (h:Int),b.length=i+d->Ev (fun k=>spec_Sum.l0 k b h (i:Int)) (endB 3 (mixB b d i h))
 |0,i,h,e=>by
  refine Ev.step (fun k=>by rw[spec_Sum.l0]) ?_;simp only[if_neg (show¬(i:Int)<b.length by omega),mixB];exact eEndS 3 0 h rfl
 |d+1,i,h,e=>by
  refine Ev.step (fun k=>by rw[spec_Sum.l0]) ?_;simp only[if_pos (show(i:Int)<b.length by omega),if_pos (show(0:Int)<=i by omega),mixB];rw[w64n yo_];exact eMixS b hb d (i+1) _ yo_
def sum(b:List Int):Int:=endB 3 (mixB b b.length 0 14695981039346656037)
theorem eSumI(b:List Int)(hb:b.length<1000000000000):Ev (fun k=>impl_Sum.f k b) (sum b):=eMixI b hb b.length 0 _ yo_
theorem eSumS(b:List Int)(hb:b.length<1000000000000):Ev (fun k=>spec_Sum.f k b) (sum b):=eMixS b hb b.length 0 _ yo_
theorem u64_mod(x:Int):IntKind.u64.wrap x=x % 18446744073709551616:=rfl
theorem and31(x:Int):0<=Go.bits .and .u64 x 31/\Go.bits .and .u64 x 31<32:=by
 have h1:(BitVec.ofInt 64 x &&& BitVec.ofInt 64 31).toNat<32:=by
  rw[BitVec.toNat_and];have e2:(BitVec.ofInt 64 (31:Int)).toNat=2 ^ 5 - 1:=by decide
  rw[e2,Nat.and_two_pow_sub_one_eq_mod];omega
 have h2:Go.bits .and .u64 x 31=IntKind.u64.wrap ((BitVec.ofInt 64 x &&& BitVec.ofInt 64 31).toNat:Int):=rfl;rw[h2,u64_mod];omega
def dig(x:Int)(i:Nat):Int:=bt alpha (Go.bits .and .u64 (shr .u64 x ((5*i:Nat):Int)) 31)
def digs(x:Int):Nat->List Int
 |0=>[]
 |i+1=>dig x i::digs x i
theorem set_rep(m:Nat)(v:Int)(L:List Int):(List.replicate (m+1) 0++L).set m v=List.replicate m 0++v::L:=by
 rw[List.replicate_succ'];rw[List.append_assoc,List.set_append_right _ _ (by simp)];simp
theorem eDigI(x:Int):∀d i,13=i+d->Ev (fun k=>impl_Word32.l0 k x (List.replicate d 0++digs x i) 13 (i:Int)) (strOfNums (digs x 13))
 |0,i,h=>by
  obtain rfl:i=13:=by omega
  refine Ev.step (fun k=>by rw[impl_Word32.l0]) ?_;simp only[if_neg (show¬((13:Nat):Int)<13 by decide),List.replicate_zero,List.nil_append];exact Ev.now _
 |d+1,i,h=>by
  have e1:wrap64 (5*(i:Int))=((5*i:Nat):Int):=by rw[wrap64_small yo_ yo_];omega
  have e2:wrap64 (12 - (i:Int))=(d:Int):=by rw[wrap64_small yo_ yo_];omega
  have ha:=and31 (shr .u64 x ((5*i:Nat):Int));refine Ev.step (fun k=>by rw[impl_Word32.l0]) ?_;have hl:(d:Int)<(List.replicate (d+1) (0:Int)++digs x i).length:=by simp;omega
  simp only[if_pos (show(i:Int)<13 by omega),e1,e2,if_pos (show(0:Int)<=((5*i:Nat):Int) by omega),if_pos ha.1,if_pos ha.2,if_pos (show(0:Int)<=(d:Int) by omega),if_pos hl,Int.toNat_natCast,set_rep];rw[w64n yo_];exact eDigI x d (i+1) yo_
theorem eDigS(x:Int):∀(n:Nat) (l:List Int),n<=13->l.length+n<=100->Ev (fun k=>spec_Word32.l0 k x l ((n:Int) - 1)) (strOfNums (l++digs x n))
 |0,l,h,hl=>by
  refine Ev.step (fun k=>by rw[spec_Word32.l0]) ?_;simp only[if_neg (show¬(((0:Nat):Int) - 1>=0) by decide),digs,List.append_nil];exact Ev.now _
 |n+1,l,h,hl=>by
  have e:((n+1:Nat):Int) - 1=(n:Int):=by omega
  rw[e];have e1:IntKind.u64.wrap (wrap64 (5*(n:Int)))=((5*n:Nat):Int):=by
   rw[wrap64_small yo_ yo_,u64_mod];omega
  have ha:=and31 (shr .u64 x ((5*n:Nat):Int));refine Ev.step (fun k=>by rw[spec_Word32.l0]) ?_;simp only[if_pos (show(n:Int)>=0 by omega),e1,if_pos (show(0:Int)<=((5*n:Nat):Int) by omega),if_pos ha.1,if_pos ha.2,if_pos (show l.length<140737488355328 by omega)];rw[w64m (i:=n) yo_];have:=eDigS x n (l++[dig x n]) yo_ (by rw[List.length_append];simp;omega);rw[List.append_assoc] at this;exact this
def word(x:Int):ByteArray:=strOfNums (digs x 13)
theorem eWord32I(x:Int):Ev (fun k=>impl_Word32.f k x) (word x):=by
 unfold impl_Word32.f;simp only[if_pos (show(13:Int)<=281474976710656 by decide),Option.bind_some,List.length_replicate];have:=eDigI x 13 0 rfl;rw[show digs x 0=[] from rfl,List.append_nil] at this;exact this
theorem eWord32S(x:Int):Ev (fun k=>spec_Word32.f k x) (word x):=by
 have:=eDigS x 13 [] yo_ (by simp);rw[List.nil_append] at this;exact this
def treeSum(t:List Entry):ByteArray:=if treeOk t=true then word (sum (pack t)) else⟨#[]⟩
theorem packB_len(t:List Entry)(ht:tSmall t):∀d i,t.length=i+d->(packB t d i).length<=5000000*d
 |0,i,h=>by simp[packB]
 |d+1,i,h=>by
  have:=packB_len t ht d (i+1) yo_;have hE:=entB_len (rdE t i) (tSmall_at ht yo_);simp only[packB,List.length_append];omega
theorem pack_len(t:List Entry)(ht:tSmall t)(hl:t.length<=500):(pack t).length<1000000000000:=by
 have h1:=packB_len t ht t.length 0 yo_;have h2:=vi_len t.length;simp only[pack,List.length_append,List.length_cons,List.length_nil];omega
theorem eSumTreeI(t:List Entry)(ht:tSmall t):Ev (fun k=>impl_TreeSum.f k t) (treeSum t):=by
 unfold impl_TreeSum.f treeSum;refine Ev.bind (eTreeI t ht) ?_;cases h:treeOk t with
 |false=>simp only[Bool.false_eq_true,if_false];exact Ev.now _
 |true=>
  simp only[if_true];exact Ev.bind (ePackTreeI t ht h) (Ev.bind (eSumI _ (pack_len t ht (treeOk_len h))) (Ev.bind (eWord32I _) (Ev.now _)))
theorem eSumTreeS(t:List Entry)(ht:tSmall t):Ev (fun k=>spec_TreeSum.f k t) (treeSum t):=by
 unfold spec_TreeSum.f treeSum;refine Ev.bind (eTreeS t ht) ?_;cases h:treeOk t with
 |false=>simp only[Bool.false_eq_true,if_false];exact Ev.now _
 |true=>
  simp only[if_true];exact Ev.bind (ePackTreeS t ht h) (Ev.bind (eSumS _ (pack_len t ht (treeOk_len h))) (Ev.bind (eWord32S _) (Ev.now _)))
end P
end Go.Proofs.YtgccknmddhbdgaaGreatDoor.Q
