import Derived.Test.YtgccknmddhbdgaaGreatDoorE10
import Derived.Test.YtgccknmddhbdgaaGreatDoorE11
namespace Go.Proofs.YtgccknmddhbdgaaGreatDoor.Q
open Go.RowKit W1 W2 W3
namespace P
abbrev rdT(xs:List ByteArray)(i:Int):ByteArray:=rdOf ByteArray.empty xs i
theorem rdT_at(xs:List ByteArray)(i:Nat)(h:i<xs.length):rdT xs (i:Int)=xs[i]:=by
 simp[rdT,rdOf,List.getD_eq_getElem?_getD,List.getElem?_eq_getElem h]
theorem occ_iff(s p:ByteArray)(i:Nat)(h:i+p.size<=s.size):(s.extract i (i+p.size)).toList=p.toList↔Lib.occAt s.data.toList p.data.toList i=true:=by
 rw[ByteArray.toList_eq,ByteArray.toList_eq,ext_data,Lib.occAt,List.isPrefixOf_iff_prefix,List.prefix_iff_eq_take,<-size_l p,List.drop_take,show i+p.data.toList.length - i=p.data.toList.length by omega];exact eq_comm
theorem eHasS(s p:ByteArray)(hs:s.size<=1048576)(hp:1<=p.size)(hp2:p.size<=1048576):∀d i:Nat,i+d=s.size+1->Lib.NoOcc s.data.toList p.data.toList i->Ev (fun k=>spec_l10Has.l0 k s p (i:Int)) (Lib.contains s.data.toList p.data.toList)
 |d,i,h,hno=>by
  have hw:wrap64 ((i:Int)+(p.size:Int))=((i+p.size:Nat):Int):=by rw[wrap64_small yo_ yo_];omega
  by_cases hc:i+p.size<=s.size
  ·obtain⟨d,rfl⟩:∃e,d=e+1:=⟨d - 1,by omega⟩
   refine Ev.step (fun k=>by rw[spec_l10Has.l0]) ?_;simp only[hw,if_pos (show((i+p.size:Nat):Int)<=s.size by omega),if_pos (show(0:Int)<=i by omega),if_pos (show(i:Int)<=((i+p.size:Nat):Int) by omega),Int.toNat_natCast];by_cases ho:Lib.occAt s.data.toList p.data.toList i=true
   ·have:Lib.contains s.data.toList p.data.toList=true:=by
     unfold Lib.contains;rw[Lib.index_hit hno (by rw[size_l];omega) ho];simp
    rw[this];simp only[if_pos ((occ_iff s p i hc).2 ho)];exact Ev.now _
   ·simp only[if_neg (fun h=>ho ((occ_iff s p i hc).1 h))];rw[w64n yo_];exact eHasS s p hs hp hp2 d (i+1) yo_ (hno.succ (by simpa using ho))
  ·refine Ev.step (fun k=>by rw[spec_l10Has.l0]) ?_;simp only[hw,if_neg (show¬((i+p.size:Nat):Int)<=s.size by omega)];have:Lib.contains s.data.toList p.data.toList=false:=by
    unfold Lib.contains;rw[Lib.index_past (fun e=>by have:=size_l p;rw[e] at this;simp at this;omega) hno (by rw[size_l,size_l];omega)];rfl
   rw[this];exact Ev.now _
def refAny(t:List Entry)(p:ByteArray):Nat->Nat->Bool
 |0,_=>false
 |d+1,i=>Lib.contains (rdE t i).f2.data.toList p.data.toList||refAny t p d (i+1)
theorem eAnyI(t:List Entry)(ht:tSmall t)(hl:t.length<=500)(ds:List ByteArray)(hd:ds.length<=1000000)(p:ByteArray)(hp:13<=p.size)(hp2:p.size<=1048576)(l:List ByteArray)(i:Nat)(hi:i<=1000000)(r:List ByteArray)
 (h1:refAny t (p.extract 0 13) t.length 0=true->Ev (fun k=>impl_RefsIn.l0 k t (p::ds) l (l.length:Int) ((i+1:Nat):Int)) r)
 (h2:refAny t (p.extract 0 13) t.length 0=false->Ev (fun k=>impl_RefsIn.l0 k t ds l (l.length:Int) ((i+1:Nat):Int)) r):
 ∀d j:Nat,t.length=j+d->refAny t (p.extract 0 13) t.length 0=refAny t (p.extract 0 13) d j->Ev (fun k=>impl_RefsIn.l1 k t ds p l (l.length:Int) (i:Int) t (t.length:Int) (j:Int)) r
 |0,j,h,e=>by
  refine Ev.step (fun k=>by rw[impl_RefsIn.l1]) ?_;simp only[if_neg (show¬(j:Int)<t.length by omega)];rw[w64n yo_];exact h2 e
 |d+1,j,h,e=>by
  have hs:=tSmall_at ht (show j<t.length by omega);have hs2:=hs.2;have hp3:(p.extract 0 13).size=13:=by rw[ByteArray.size_extract];omega
  have hc:strings_Contains.f (rdE t j).f2 (p.extract 0 13)=some (Lib.contains (rdE t j).f2.data.toList (p.extract 0 13).data.toList):=by
   unfold strings_Contains.f;rw[if_pos yo_]
  refine Ev.step (fun k=>by rw[impl_RefsIn.l1]) ?_;simp only[if_pos (show(j:Int)<t.length by omega),if_pos (show(0:Int)<=j by omega),if_pos (show(0:Int)<=13 by decide),if_pos (show(13:Int)<=(p.size:Int) by omega)];refine Ev.bind (ev_eq hc) ?_;simp only[refAny] at e;cases hh:Lib.contains (rdE t j).f2.data.toList (p.extract 0 13).data.toList with
  |true=>
   rw[hh,Bool.true_or] at e;simp only[if_true,ePut ds p hp2 hd,Option.bind_some];rw[w64n yo_];exact h1 e
  |false=>
   rw[hh,Bool.false_or] at e;simp only[Bool.false_eq_true,if_false];rw[w64n yo_];exact eAnyI t ht hl ds hd p hp hp2 l i hi r h1 h2 d (j+1) yo_ e
theorem l_tri(a b:List UInt8):a<b\/a=b\/b<a:=by
 by_cases h1:a<b
 ·exact Or.inl h1
 ·by_cases h2:b<a
  ·exact Or.inr (Or.inr h2)
  ·exact Or.inr (Or.inl (List.le_antisymm h2 h1))
def ins(a:List UInt8):List (List UInt8)->List (List UInt8)
 |[]=>[a]
 |y::l=>if y<a then y::ins a l else if y=a then y::l else a::y::l
theorem ins_mem(a:List UInt8):∀l x,x ∈ ins a l↔x=a\/x ∈ l
 |[],x=>by simp[ins]
 |y::l,x=>by
  unfold ins;split
  ·simp[ins_mem a l x];constructor
   ·rintro(h|h|h)<;>simp[h]
   ·rintro(h|h|h)<;>simp[h]
  ·split
   ·rename_i h
    subst h;simp
   ·simp
theorem ins_asc(a:List UInt8):∀l:List (List UInt8),l.Pairwise (· < ·)->(ins a l).Pairwise (· < ·)
 |[],_=>by simp[ins]
 |y::l,h=>by
  rw[List.pairwise_cons] at h;unfold ins;split
  ·rename_i hy
   rw[List.pairwise_cons];refine⟨fun x hx=>?_,ins_asc a l h.2⟩;rcases(ins_mem a l x).1 hx with rfl|hx
   ·exact hy
   ·exact h.1 x hx
  ·split
   ·rw[List.pairwise_cons];exact h
   ·rename_i h1 h2
    have h3:a<y:=by
     rcases l_tri a y with h|h|h
     ·exact h
     ·exact absurd h.symm h2
     ·exact absurd h h1
    rw[List.pairwise_cons,List.pairwise_cons];refine⟨fun x hx=>?_,h⟩;rcases List.mem_cons.1 hx with rfl|hx
    ·exact h3
    ·exact List.lt_trans h3 (h.1 x hx)
theorem ins_in(a:List UInt8):∀l:List (List UInt8),l.Pairwise (· < ·)->a ∈ l->ins a l=l
 |y::l,h,hm=>by
  rw[List.pairwise_cons] at h;unfold ins;rcases List.mem_cons.1 hm with rfl|hm
  ·rw[if_neg (List.lt_irrefl _),if_pos rfl]
  ·rw[if_pos (h.1 a hm),ins_in a l h.2 hm]
theorem asc_unique:∀(l m:List (List UInt8)),l.Pairwise (· < ·)->m.Pairwise (· < ·)->(∀x,x ∈ l↔x ∈ m)->l=m
 |[],[],_,_,_=>rfl
 |[],y::m,_,_,h=>by have:=(h y).2 (List.mem_cons_self ..);simp at this
 |x::l,[],_,_,h=>by have:=(h x).1 (List.mem_cons_self ..);simp at this
 |x::l,y::m,hl,hm,h=>by
  rw[List.pairwise_cons] at hl hm;have e:x=y:=by
   rcases List.mem_cons.1 ((h x).1 (List.mem_cons_self ..)) with h1|h1
   ·exact h1
   ·rcases List.mem_cons.1 ((h y).2 (List.mem_cons_self ..)) with h2|h2
    ·exact h2.symm
    ·exact absurd (List.lt_trans (hm.1 x h1) (hl.1 y h2)) (List.lt_irrefl _)
  subst e
  rw[asc_unique l m hl.2 hm.2 (fun z=>by
   constructor
   ·intro hz;rcases List.mem_cons.1 ((h z).1 (List.mem_cons_of_mem _ hz)) with h1|h1
    ·subst h1;exact absurd (hl.1 z hz) (List.lt_irrefl _)
    ·exact h1
   ·intro hz;rcases List.mem_cons.1 ((h z).2 (List.mem_cons_of_mem _ hz)) with h1|h1
    ·subst h1;exact absurd (hm.1 z hz) (List.lt_irrefl _)
    ·exact h1)]
def sortL(ds:List ByteArray):List (List UInt8):=(ds.map fun s=>s.data.toList).mergeSort fun x y=>decide (x<=y)
theorem sortL_mem(ds:List ByteArray)(x:List UInt8):x ∈ sortL ds↔ ∃s ∈ ds,s.data.toList=x:=by
 unfold sortL;rw[List.mem_mergeSort,List.mem_map]
theorem sortL_asc(ds:List ByteArray)(h:ds.Nodup):(sortL ds).Pairwise (· < ·):=by
 have h1:(sortL ds).Pairwise fun a b=>decide (a<=b)=true:=List.pairwise_mergeSort (le:=fun x y:List UInt8=>decide (x<=y)) (fun a b c h1 h2=>decide_eq_true (List.le_trans (of_decide_eq_true h1) (of_decide_eq_true h2))) (fun a b=>by have:=List.le_total a b;simpa using this) _;have h2:(sortL ds).Nodup:=by
  unfold sortL;rw[(List.mergeSort_perm _ _).nodup_iff];exact List.pairwise_map.2 (h.imp fun{a b} hne e=>hne (MapSet.inj e))
 refine(h1.and h2).imp fun{a b} hab=>?_;have h3:¬b<a:=of_decide_eq_true hab.1;rcases l_tri a b with h|h|h
 ·exact h
 ·exact absurd h hab.2
 ·exact absurd h h3
theorem ins_sort(ds:List ByteArray)(a:ByteArray)(h:ds.Nodup)(ha:a ∉ ds):ins a.data.toList (sortL ds)=sortL (a::ds):=by
 refine asc_unique _ _ (ins_asc _ _ (sortL_asc ds h)) (sortL_asc _ (List.nodup_cons.2 ⟨ha,h⟩)) fun x=>?_;rw[ins_mem,sortL_mem,sortL_mem];simp[eq_comm]
theorem ins_sort_in(ds:List ByteArray)(a:ByteArray)(h:ds.Nodup)(ha:a ∈ ds):ins a.data.toList (sortL ds)=sortL ds:=
 ins_in _ _ (sortL_asc ds h) ((sortL_mem _ _).2 ⟨a,ha,rfl⟩)
theorem sortL_len(ds:List ByteArray):(sortL ds).length=ds.length:=by simp[sortL]
theorem mk_data(l:List UInt8):(mk l).data.toList=l:=by simp[mk]
theorem eAddS(L:List (List UInt8))(x:ByteArray)(hL:L.length<=1048576):∀d i,L.length=i+d->Ev (fun k=>spec_l3Add.l0 k (L.map mk) x (i:Int)) ((L.take i++ins x.data.toList (L.drop i)).map mk)
 |0,i,h=>by
  refine Ev.step (fun k=>by rw[spec_l3Add.l0]) ?_;have e1:(L.map mk).take i=L.map mk:=List.take_of_length_le (by simp;omega);have e2:(L.map mk).drop i=[]:=List.drop_of_length_le (by simp;omega);have e3:L.take i=L:=List.take_of_length_le yo_;have e4:L.drop i=[]:=List.drop_of_length_le yo_;have l1:([]:List ByteArray).length+(L.map mk).length<8796093022208:=by simp;omega
  have l2:([]++L.map mk:List ByteArray).length<8796093022208:=by simp;omega
  have l3:([]++L.map mk++[x]:List ByteArray).length+([]:List ByteArray).length<8796093022208:=by simp;omega
  simp only[if_neg (show¬(i:Int)<(L.map mk).length by simp;omega),if_pos (show(0:Int)<=i by omega),if_pos (show(i:Int)<=(L.map mk).length by simp;omega),Option.bind_some,Int.toNat_natCast,e1,e2,e3,e4,if_pos l1,if_pos l2,if_pos l3];refine ev_eq (congrArg some ?_);simp[ins,mk_toList]
 |d+1,i,h=>by
  have hi:i<L.length:=by omega
  have hr:rdOf ByteArray.empty (L.map mk) (i:Int)=mk L[i]:=by
   have:=rdT_at (L.map mk) i (by simpa using hi);exact this.trans (by simp)
  have hb:Op.bytesLess (mk L[i]).toList x.toList=decide (L[i]<x.data.toList):=by rw[bl_eq,ByteArray.toList_eq,ByteArray.toList_eq,mk_data]
  have he:((mk L[i]).toList=x.toList)↔L[i]=x.data.toList:=by rw[ByteArray.toList_eq,ByteArray.toList_eq,mk_data]
  have hd:L.drop i=L[i]::L.drop (i+1):=List.drop_eq_getElem_cons hi;refine Ev.step (fun k=>by rw[spec_l3Add.l0]) ?_;simp only[if_pos (show(i:Int)<(L.map mk).length by simp;omega),if_pos (show(0:Int)<=i by omega),hr,hb,hd,ins];by_cases h1:L[i]<x.data.toList
  ·simp only[decide_eq_true h1,if_true,if_pos h1];rw[w64n yo_];have ih:=eAddS L x hL d (i+1) yo_;have e:L.take (i+1)=L.take i++[L[i]]:=by rw[List.take_add_one,List.getElem?_eq_getElem hi];rfl
   rw[e,List.append_assoc] at ih;exact ih
  ·by_cases h2:L[i]=x.data.toList
   ·simp only[decide_eq_false h1,Bool.false_eq_true,if_false,if_neg h1,if_pos h2];refine Ev.congr (fun k=>if_pos (he.2 h2)) ?_;rw[<-hd,List.take_append_drop];exact Ev.now _
   ·simp only[decide_eq_false h1,Bool.false_eq_true,if_false,if_neg h1,if_neg h2];refine Ev.congr (fun k=>if_neg (fun h=>h2 (he.1 h))) ?_;have l1:([]:List ByteArray).length+((L.map mk).take i).length<8796093022208:=by simp;omega
    have l2:([]++(L.map mk).take i:List ByteArray).length<8796093022208:=by simp;omega
    have l3:([]++(L.map mk).take i++[x]:List ByteArray).length+((L.map mk).drop i).length<8796093022208:=by simp;omega
    simp only[Option.bind_some,if_pos (show(i:Int)<=(L.map mk).length by simp;omega),Int.toNat_natCast,if_pos l1,if_pos l2,if_pos l3];refine ev_eq (congrArg some ?_);rw[<-hd];simp[List.map_take,List.map_drop,mk_toList]
def coll(t:List Entry)(l:List ByteArray):Nat->Nat->List ByteArray->List ByteArray
 |0,_,ds=>ds
 |d+1,i,ds=>coll t l d (i+1) (if addrOk (rdT l i)=true/\refAny t ((rdT l i).extract 0 13) t.length 0=true/\MapSet.has (rdT l i) ds=false then rdT l i::ds else ds)
def refs(t:List Entry)(l:List ByteArray):List ByteArray:=(sortL (coll t l l.length 0 [])).map mk
theorem has_iff(u:ByteArray)(ds:List ByteArray):MapSet.has u ds=true↔u ∈ ds:=by
 unfold MapSet.has;rw[List.any_eq_true];constructor
 ·rintro⟨s,hs,h⟩;have:u=s:=MapSet.inj (of_decide_eq_true h);subst this;exact hs
 ·intro h;exact⟨u,h,decide_eq_true rfl⟩
theorem addr_size{s:ByteArray}(h:addrOk s=true):15<=s.size:=by
 unfold addrOk at h;simp only[Bool.and_eq_true,decide_eq_true_eq] at h;exact h.1.1.1
theorem addr_size2{s:ByteArray}(h:addrOk s=true):s.size<=1048576:=by
 unfold addrOk nameOk at h;simp only[Bool.and_eq_true,decide_eq_true_eq,ByteArray.size_extract] at h;have:=h.2.1.1.2;omega
theorem out_eq(ds es:List ByteArray)(he:es.Nodup)(h:∀x,x ∈ ds↔x ∈ es):impl_sorted.out ds=(sortL es).map mk:=by
 have h4:(impl_sorted.dd ds).Perm (es.map fun s=>s.data.toList):=by
  refine(List.perm_ext_iff_of_nodup (impl_sorted.dd_nodup ds) (List.pairwise_map.2 (he.imp fun{a b} hne e=>hne (MapSet.inj e)))).2 fun x=>?_;rw[impl_sorted.dd_mem,List.mem_map];constructor
  ·rintro⟨s,hs,e⟩;exact⟨s,(h s).1 hs,e⟩
  ·rintro⟨s,hs,e⟩;exact⟨s,(h s).2 hs,e⟩
 unfold impl_sorted.out;rw[Go.mergeSort_of_perm h4];rfl
theorem eCollI(t:List Entry)(ht:tSmall t)(hl:t.length<=500)(l:List ByteArray)(hl2:l.length<=1000000):∀(d i:Nat) (ds es:List ByteArray),l.length=i+d->es.Nodup->(∀x,x ∈ ds↔x ∈ es)->ds.length<=i->Ev (fun k=>impl_RefsIn.l0 k t ds l (l.length:Int) (i:Int)) ((sortL (coll t l d i es)).map mk)
 |0,i,ds,es,h,hn,hm,hd=>by
  refine Ev.step (fun k=>by rw[impl_RefsIn.l0]) ?_;simp only[if_neg (show¬(i:Int)<l.length by omega),coll];have:impl_sorted.f ds=some ((sortL es).map mk):=by
   unfold impl_sorted.f;rw[if_pos yo_,out_eq ds es hn hm]
  rw[this];exact Ev.now _
 |d+1,i,ds,es,h,hn,hm,hd=>by
  refine Ev.step (fun k=>by rw[impl_RefsIn.l0]) ?_;simp only[if_pos (show(i:Int)<l.length by omega),if_pos (show(0:Int)<=i by omega),coll];refine Ev.bind (eAddrI _) ?_;cases hA:addrOk (rdT l i) with
  |false=>
   simp only[Bool.false_eq_true,if_false,false_and];rw[w64n yo_];exact eCollI t ht hl l hl2 d (i+1) ds es yo_ hn hm yo_
  |true=>
   have hz:=addr_size hA;have hz2:=addr_size2 hA;simp only[if_true,true_and];refine eAnyI t ht hl ds yo_ (rdT l i) yo_ hz2 l i yo_ _ ?_ ?_ t.length 0 yo_ rfl
   ·intro hr;by_cases hx:rdT l i ∈ es
    ·rw[if_neg (fun h=>by rw[(has_iff _ _).2 hx] at h;exact absurd h.2 (by simp))];refine eCollI t ht hl l hl2 d (i+1) _ es yo_ hn (fun x=>?_) (by simp;omega);rw[List.mem_cons,hm];exact⟨fun h=>h.elim (fun e=>e ▸ hx) id,Or.inr⟩
    ·have hf:MapSet.has (rdT l i) es=false:=by
      rw[Bool.eq_false_iff];exact fun h=>hx ((has_iff _ _).1 h)
     rw[if_pos ⟨hr,hf⟩];refine eCollI t ht hl l hl2 d (i+1) _ _ yo_ (List.nodup_cons.2 ⟨hx,hn⟩) (fun x=>?_) (by simp;omega);rw[List.mem_cons,List.mem_cons,hm]
   ·intro hr;rw[if_neg (fun h=>by rw[hr] at h;exact absurd h.1 (by simp))];exact eCollI t ht hl l hl2 d (i+1) ds es yo_ hn hm yo_
theorem eRefsI(t:List Entry)(ht:tSmall t)(h:treeOk t=true)(l:List ByteArray)(hl:l.length<=2000):Ev (fun k=>impl_RefsIn.f k t l) (refs t l):=by
 unfold impl_RefsIn.f refs;refine Ev.bind (eTreeI t ht) ?_;simp only[h,if_true];refine Ev.step (fun k=>by rw[impl_RefsIn.j0]) ?_;refine Ev.congr (fun k=>if_neg (by rw[decide_eq_true_eq];omega)) ?_;exact eCollI t ht (treeOk_len h) l yo_ l.length 0 [] [] yo_ List.nodup_nil (fun x=>Iff.rfl) (Nat.le_refl _)
theorem eRefsS1(t:List Entry)(ht:tSmall t)(hl:t.length<=500)(l:List ByteArray)(hl2:l.length<=1048576)(i:Nat)(hi:i<l.length)(hA:addrOk (rdT l i)=true)(X:List ByteArray)(L:List (List UInt8))(hX:X=L.map mk)(hL:L.length<=1048576)(r:List ByteArray)
 (h1:Ev (fun k=>spec_l10Refs.l0 k t l ((ins (rdT l i).data.toList L).map mk) ((i+1:Nat):Int)) r\/refAny t ((rdT l i).extract 0 13) t.length 0=false)
 (h2:Ev (fun k=>spec_l10Refs.l0 k t l X ((i+1:Nat):Int)) r\/refAny t ((rdT l i).extract 0 13) t.length 0=true):
 ∀d j:Nat,t.length=j+d->refAny t ((rdT l i).extract 0 13) t.length 0=refAny t ((rdT l i).extract 0 13) d j->Ev (fun k=>spec_l10Refs.l1 k t l X (i:Int) (j:Int)) r
 |0,j,h,e=>by
  refine Ev.step (fun k=>by rw[spec_l10Refs.l1]) ?_;simp only[if_neg (show¬(j:Int)<t.length by omega)];rw[w64n yo_];rcases h2 with h2|h2
  ·exact h2
  ·rw[h2] at e;simp[refAny] at e
 |d+1,j,h,e=>by
  have hs:=tSmall_at ht (show j<t.length by omega);have hz:=addr_size hA;have hp:((rdT l i).extract 0 13).size=13:=by rw[ByteArray.size_extract];omega
  refine Ev.step (fun k=>by rw[spec_l10Refs.l1]) ?_;simp only[if_pos (show(j:Int)<t.length by omega),if_pos (show(0:Int)<=j by omega),if_pos (show(0:Int)<=i by omega),if_pos (show(i:Int)<l.length by omega),if_pos (show(0:Int)<=13 by decide)];refine Ev.congr (fun k=>if_pos (show(13:Int)<=((rdOf ByteArray.empty l i).size:Int) by show(13:Int)<=((rdT l i).size:Int);omega)) ?_;have hh:=eHasS (rdE t j).f2 ((rdT l i).extract 0 13) hs.2 yo_ yo_ _ 0 (Nat.zero_add _) (Lib.NoOcc.zero _ _);refine Ev.bind hh ?_;simp only[refAny] at e;cases hc:Lib.contains (rdE t j).f2.data.toList ((rdT l i).extract 0 13).data.toList with
  |true=>
   rw[hc,Bool.true_or] at e;simp only[if_true];have ha:=eAddS L (rdT l i) hL L.length 0 yo_;rw[List.take_zero,List.drop_zero,List.nil_append,<-hX] at ha;refine Ev.bind ha ?_;rw[w64n yo_];rcases h1 with h1|h1
   ·exact h1
   ·rw[h1] at e;exact absurd e (by simp)
  |false=>
   rw[hc,Bool.false_or] at e;simp only[Bool.false_eq_true,if_false];rw[w64n yo_];exact eRefsS1 t ht hl l hl2 i hi hA X L hX hL r h1 h2 d (j+1) yo_ e
theorem eCollS(t:List Entry)(ht:tSmall t)(hl:t.length<=500)(l:List ByteArray)(hl2:l.length<=1000000):∀(d i:Nat) (ds:List ByteArray),l.length=i+d->ds.Nodup->ds.length<=i->Ev (fun k=>spec_l10Refs.l0 k t l ((sortL ds).map mk) (i:Int)) ((sortL (coll t l d i ds)).map mk)
 |0,i,ds,h,hn,hd=>by
  refine Ev.step (fun k=>by rw[spec_l10Refs.l0]) ?_;simp only[if_neg (show¬(i:Int)<l.length by omega),coll];exact Ev.now _
 |d+1,i,ds,h,hn,hd=>by
  refine Ev.step (fun k=>by rw[spec_l10Refs.l0]) ?_;simp only[if_pos (show(i:Int)<l.length by omega),if_pos (show(0:Int)<=i by omega),coll];refine Ev.bind (eAddrS _) ?_;cases hA:addrOk (rdT l i) with
  |false=>
   simp only[Bool.false_eq_true,if_false,false_and];rw[w64n yo_];exact eCollS t ht hl l hl2 d (i+1) ds yo_ hn yo_
  |true=>
   simp only[if_true,true_and];refine eRefsS1 t ht hl l yo_ i yo_ hA _ (sortL ds) rfl (by rw[sortL_len];omega) _ ?_ ?_ t.length 0 yo_ rfl
   ·cases hr:refAny t ((rdT l i).extract 0 13) t.length 0 with
    |false=>exact Or.inr rfl
    |true=>
     refine Or.inl ?_;by_cases hm:rdT l i ∈ ds
     ·rw[ins_sort_in ds _ hn hm,if_neg (fun h=>by rw[(has_iff _ _).2 hm] at h;exact absurd h.2 (by simp))];exact eCollS t ht hl l hl2 d (i+1) ds yo_ hn yo_
     ·have hf:MapSet.has (rdT l i) ds=false:=by
       rw[Bool.eq_false_iff];exact fun h=>hm ((has_iff _ _).1 h)
      rw[ins_sort ds _ hn hm,if_pos ⟨rfl,hf⟩];exact eCollS t ht hl l hl2 d (i+1) _ yo_ (List.nodup_cons.2 ⟨hm,hn⟩) (by simp;omega)
   ·cases hr:refAny t ((rdT l i).extract 0 13) t.length 0 with
    |true=>exact Or.inr rfl
    |false=>
     refine Or.inl ?_;rw[if_neg (fun h=>absurd h.1 (by simp))];exact eCollS t ht hl l hl2 d (i+1) ds yo_ hn yo_
theorem eRefsS(t:List Entry)(ht:tSmall t)(h:treeOk t=true)(l:List ByteArray)(hl:l.length<=2000):Ev (fun k=>spec_l10Refs.f k t l) (refs t l):=by
 have:=eCollS t ht (treeOk_len h) l yo_ l.length 0 [] yo_ List.nodup_nil (Nat.le_refl _);rw[show(sortL []).map mk=[] by simp[sortL]] at this;exact this
end P
end Go.Proofs.YtgccknmddhbdgaaGreatDoor.Q
