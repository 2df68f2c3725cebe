import Derived.Test.YtgccknmddhbdgaaGreatDoorE14
import Derived.Test.YtgccknmddhbdgaaGreatDoorE16
namespace Go.Proofs.YtgccknmddhbdgaaGreatDoor.Q
open Go.RowKit W1 W2 W3
namespace P
def insE(e:Entry):List Entry->List Entry
 |[]=>[e]
 |a::x=>if a.f0.toList<e.f0.toList then a::insE e x else e::a::x
def srt:List Entry->List Entry
 |[]=>[]
 |e::o=>insE e (srt o)
theorem insE_perm(e:Entry):∀x,(insE e x).Perm (e::x)
 |[]=>List.Perm.refl _
 |a::x=>by
  unfold insE;split
  ·exact((insE_perm e x).cons a).trans (List.Perm.swap ..)
  ·exact List.Perm.refl _
theorem srt_perm:∀o,(srt o).Perm o
 |[]=>List.Perm.refl _
 |e::o=>(insE_perm e (srt o)).trans ((srt_perm o).cons e)
def SL(x:List Entry):Prop:=x.Pairwise fun a b=>a.f0.toList<b.f0.toList
theorem insE_SL(e:Entry):∀x,SL x->(∀a ∈ x,a.f0≠e.f0)->SL (insE e x)
 |[],_,_=>List.pairwise_singleton ..
 |a::x,h,hn=>by
  obtain⟨h1,h2⟩:=List.pairwise_cons.1 h;unfold insE;by_cases q:a.f0.toList<e.f0.toList
  ·rw[if_pos q];refine List.pairwise_cons.2 ⟨fun b hb=>?_,insE_SL e x h2 (fun b hb=>hn b (List.mem_cons_of_mem _ hb))⟩;rcases List.mem_cons.1 ((insE_perm e x).mem_iff.1 hb) with rfl|hb
   ·exact q
   ·exact h1 b hb
  ·rw[if_neg q];have lt:e.f0.toList<a.f0.toList:=by
    rcases l_tri a.f0.toList e.f0.toList with h|h|h
    ·exact absurd h q
    ·exact absurd (tl_inj h) (hn a (List.mem_cons_self ..))
    ·exact h
   refine List.pairwise_cons.2 ⟨fun b hb=>?_,h⟩;rcases List.mem_cons.1 hb with rfl|hb
   ·exact lt
   ·exact List.lt_trans lt (h1 b hb)
theorem srt_SL:∀o:List Entry,(o.map (·.f0)).Nodup->SL (srt o)
 |[],_=>List.Pairwise.nil
 |e::o,h=>by
  rw[List.map_cons] at h;obtain⟨h1,h2⟩:=List.nodup_cons.1 h;exact insE_SL e _ (srt_SL o h2) fun a ha he=>h1 (List.mem_map.2 ⟨a,(srt_perm o).mem_iff.1 ha,he⟩)
theorem getE_mem:∀(o:List Entry),(o.map (·.f0)).Nodup->∀e ∈ o,MapE.get e.f0 o=some e
 |[],_,e,he=>by cases he
 |a::o,h,e,he=>by
  rw[List.map_cons] at h;obtain⟨h1,h2⟩:=List.nodup_cons.1 h;unfold MapE.get;rcases List.mem_cons.1 he with rfl|he
  ·rw[if_pos rfl]
  ·rw[if_neg fun q=>h1 (List.mem_map.2 ⟨e,he,MapSet.inj q⟩)];exact getE_mem o h2 e he
theorem getE_none(u:ByteArray):∀(o:List Entry),MapE.get u o=none->∀e ∈ o,e.f0≠u
 |[],_,e,he=>by cases he
 |a::o,h,e,he=>by
  unfold MapE.get at h;split at h
  ·cases h
  ·rename_i q
   rcases List.mem_cons.1 he with rfl|he
   ·intro k;subst k;exact q rfl
   ·exact getE_none u o h e he
theorem getE_some(u:ByteArray){g:Entry}:∀(o:List Entry),MapE.get u o=some g->g ∈ o/\g.f0=u
 |[],h=>by cases h
 |a::o,h=>by
  unfold MapE.get at h;split at h
  ·rename_i q
   obtain rfl:=Option.some.inj h;exact⟨List.mem_cons_self ..,(MapSet.inj q).symm⟩
  ·have:=getE_some u o h;exact⟨List.mem_cons_of_mem _ this.1,this.2⟩
theorem out_srt(o:List Entry)(h:(o.map (·.f0)).Nodup):impl_Wrap.out o=srt o:=by
 have hp:=srt_perm o;have hS:=srt_SL o h;have hn:((srt o).map (·.f0)).Nodup:=(hp.map _).nodup_iff.2 h;have e1:impl_sorted.out (o.map (·.f0))=(srt o).map (·.f0):=by
  rw[out_eq (o.map (·.f0)) ((srt o).map (·.f0)) hn (fun x=>((hp.map _).mem_iff).symm)];have:sortL ((srt o).map (·.f0))=(srt o).map (·.f0.data.toList):=by
   refine asc_unique _ _ (sortL_asc _ hn) ?_ fun x=>?_
   ·exact List.pairwise_map.2 (hS.imp fun{a b} q=>by rwa [ByteArray.toList_eq,ByteArray.toList_eq] at q)
   ·rw[sortL_mem];simp only[List.mem_map];constructor
    ·rintro⟨_,⟨a,ha,rfl⟩,e⟩;exact⟨a,ha,e⟩
    ·rintro⟨a,ha,e⟩;exact⟨_,⟨a,ha,rfl⟩,e⟩
  rw[this,List.map_map];exact List.map_congr_left fun e _=>mk_toList e.f0
 unfold impl_Wrap.out;rw[e1,List.map_map];conv=>rhs;rw[<-List.map_id (srt o)]
 refine List.map_congr_left fun e he=>?_;show(MapE.get e.f0 o).getD MapE.z=e
 rw[getE_mem o h e (hp.mem_iff.1 he)];rfl
theorem nameOk_size{t:ByteArray}(h:nameOk t=true):t.size<=60:=by
 unfold nameOk at h;simp only[Bool.and_eq_true,decide_eq_true_eq] at h;exact h.1.1.2
theorem segOk_size(s:ByteArray):∀d a i n,s.size=i+d->a<=i->segOk s d a i n=true->s.size - a+1<=61*(8 - n)
 |0,a,i,n,h,ha,hs=>by
  simp only[segOk,Bool.and_eq_true,decide_eq_true_eq] at hs;have:=nameOk_size hs.1;rw[ByteArray.size_extract] at this;omega
 |d+1,a,i,n,h,ha,hs=>by
  simp only[segOk] at hs;split at hs
  ·simp only[Bool.and_eq_true,decide_eq_true_eq] at hs;have ih:=segOk_size s d (i+1) (i+1) (n+1) yo_ (Nat.le_refl _) hs.2;have:=nameOk_size hs.1.1;rw[ByteArray.size_extract] at this;omega
  ·exact segOk_size s d a (i+1) n yo_ yo_ hs
theorem pathOk_size{s:ByteArray}(h:pathOk s=true):s.size<=487:=by
 have:=segOk_size s s.size 0 0 0 yo_ (Nat.le_refl _) h;omega
theorem addr_size3{s:ByteArray}(h:addrOk s=true):s.size<=74:=by
 unfold addrOk nameOk at h;simp only[Bool.and_eq_true,decide_eq_true_eq,ByteArray.size_extract] at h;have:=h.2.1.1.2;omega
theorem eOk_path{e:Entry}(h:eOk e=true):pathOk e.f0=true/\e.f2.size<=20000:=by
 unfold eOk at h;simp only[Bool.and_eq_true,decide_eq_true_eq] at h;exact h.1
theorem eOk_small{e:Entry}(h:eOk e=true):eSmall e:=⟨by have:=pathOk_size (eOk_path h).1;omega,by have:=(eOk_path h).2;omega⟩
def entW(p:ByteArray):List Entry×List Entry->List Entry->Option (List Entry×List Entry)
 |s,[]=>some s
 |s,e::T=>match MapE.get e.f0 s.1 with
  |some g=>if impl_Wrap.ne g e=true then none else entW p s T
  |none=>entW p (e::s.1,impl_Wrap.lnk p e::s.2) T
structure WI(f o:List Entry):Prop where
 nd:(f.map (·.f0)).Nodup
 ks:o.map (·.f0)=f.map (·.f0)
 fok:∀e ∈ f,eOk e=true
 ook:∀e ∈ o,eOk e=true
 dir:∀e ∈ f,e.f1=1->e ∈ o
 up:∀e ∈ o,upOk o e=true
 upf:∀e ∈ f,upOk f e=true
theorem WI.len{f o:List Entry}(h:WI f o):o.length=f.length:=by
 have:=congrArg List.length h.ks;simpa using this
theorem ne_eq{a b:Entry}(h:¬impl_Wrap.ne a b=true):a=b:=by
 obtain⟨p,k,d,x⟩:=a;obtain⟨p',k',d',x'⟩:=b;simp only[impl_Wrap.ne,Bool.or_eq_true,Bool.not_eq_true',beq_eq_false_iff_ne,ne_eq,not_or,Decidable.not_not] at h;obtain⟨h0,h1,h2,h3⟩:=h;rw[tl_inj h0,h1,tl_inj h2,h3]
theorem upOk_of{t t':List Entry}{e e':Entry}(h0:e'.f0=e.f0)(hd:∀u,dirIn t u=true->dirIn t' u=true)(h:upOk t e=true):upOk t' e'=true:=by
 unfold upOk at h⊢;rw[h0];cases hl:lastS e.f0 e.f0.size with
 |none=>rfl
 |some j=>rw[hl] at h;exact hd _ h
theorem dirIn_iff{t:List Entry}{u:ByteArray}:dirIn t u=true↔ ∃d ∈ t,d.f1=1/\d.f0=u:=by
 unfold dirIn same;rw[List.any_eq_true];constructor
 ·rintro⟨e,he,h⟩;rw[Bool.and_eq_true,decide_eq_true_eq,decide_eq_true_eq] at h;exact⟨e,he,h.1,(MapSet.inj h.2).symm⟩
 ·rintro⟨e,he,h1,h2⟩;refine⟨e,he,?_⟩;rw[Bool.and_eq_true,decide_eq_true_eq,decide_eq_true_eq];exact⟨h1,by rw[h2]⟩
theorem dirIn_sub{t t':List Entry}(h:∀d ∈ t,d.f1=1->d ∈ t')(u:ByteArray)(hd:dirIn t u=true):dirIn t' u=true:=by
 obtain⟨d,h1,h2,h3⟩:=dirIn_iff.1 hd;exact dirIn_iff.2 ⟨d,h d h1 h2,h2,h3⟩
theorem lnk_f0(p:ByteArray)(e:Entry):(impl_Wrap.lnk p e).f0=e.f0:=by
 unfold impl_Wrap.lnk;split<;>rfl
theorem lnk_ok{p:ByteArray}{e:Entry}(he:eOk e=true)(hp:p.size<=74):eOk (impl_Wrap.lnk p e)=true:=by
 unfold impl_Wrap.lnk;split
 ·exact he
 ·have h1:=eOk_path he;have h2:=pathOk_size h1.1;have hsz:((p++(⟨#[47]⟩:ByteArray))++e.f0).size=p.size+1+e.f0.size:=by rw[ByteArray.size_append,ByteArray.size_append];rfl
  unfold eOk;simp only[hsz,h1.1,Bool.true_and,decide_eq_true (show p.size+1+e.f0.size<=20000 by omega),show¬(3:Int)=1 by decide,show¬(3:Int)=2 by decide,if_false,if_true,decide_eq_false (show¬p.size+1+e.f0.size=0 by omega),Bool.not_false]
theorem WI.step{f o:List Entry}{p:ByteArray}{e:Entry}(h:WI f o)(he:eOk e=true)(hp:p.size<=74)(hu:upOk f e=true)(hg:MapE.get e.f0 f=none):WI (e::f) (impl_Wrap.lnk p e::o) where
 nd:=by
  rw[List.map_cons];refine List.nodup_cons.2 ⟨fun hm=>?_,h.nd⟩;obtain⟨a,ha,q⟩:=List.mem_map.1 hm;exact getE_none _ _ hg a ha q
 ks:=by rw[List.map_cons,List.map_cons,h.ks,lnk_f0]
 fok:=fun x hx=>by
  rcases List.mem_cons.1 hx with rfl|hx
  ·exact he
  ·exact h.fok x hx
 ook:=fun x hx=>by
  rcases List.mem_cons.1 hx with rfl|hx
  ·exact lnk_ok he hp
  ·exact h.ook x hx
 dir:=fun x hx h1=>by
  rcases List.mem_cons.1 hx with rfl|hx
  ·have:impl_Wrap.lnk p x=x:=by unfold impl_Wrap.lnk;rw[if_pos h1]
   rw[this];exact List.mem_cons_self ..
  ·exact List.mem_cons_of_mem _ (h.dir x hx h1)
 up:=fun x hx=>by
  rcases List.mem_cons.1 hx with rfl|hx
  ·exact upOk_of (lnk_f0 p e) (dirIn_sub fun d hd h1=>List.mem_cons_of_mem _ (h.dir d hd h1)) hu
  ·exact upOk_of rfl (dirIn_sub fun d hd _=>List.mem_cons_of_mem _ hd) (h.up x hx)
 upf:=fun x hx=>by
  rcases List.mem_cons.1 hx with rfl|hx
  ·exact upOk_of rfl (dirIn_sub fun d hd _=>List.mem_cons_of_mem _ hd) hu
  ·exact upOk_of rfl (dirIn_sub fun d hd _=>List.mem_cons_of_mem _ hd) (h.upf x hx)
theorem WI.nil:WI [] []:=⟨List.nodup_nil,rfl,fun _ h=>(by cases h),fun _ h=>(by cases h),fun _ h=>(by cases h),fun _ h=>(by cases h),fun _ h=>(by cases h)⟩
theorem scan_of(t:List Entry):∀d i:Nat,(∀j:Nat,i<=j->j<i+d->eOk (rdE t j)=true/\asc t j=true)->scan t d i=true
 |0,i,h=>rfl
 |d+1,i,h=>by
  simp only[scan,(h i (Nat.le_refl _) yo_).1,(h i (Nat.le_refl _) yo_).2,Bool.true_and];exact scan_of t d (i+1) fun j h1 h2=>h j yo_ yo_
theorem ups_of(t:List Entry):∀d i:Nat,(∀j:Nat,i<=j->j<i+d->upOk t (rdE t j)=true)->ups t d i=true
 |0,i,h=>rfl
 |d+1,i,h=>by
  simp only[ups,h i (Nat.le_refl _) yo_,Bool.true_and];exact ups_of t d (i+1) fun j h1 h2=>h j yo_ yo_
theorem SL_asc{t:List Entry}(h:SL t)(j:Nat)(hj:j<t.length):asc t j=true:=by
 unfold asc;cases j with
 |zero=>rfl
 |succ j=>
  rw[decide_eq_false yo_,Bool.false_or,lessB_iff,Nat.add_sub_cancel,rdE_at t j yo_,rdE_at t (j+1) hj];exact List.pairwise_iff_getElem.1 h j (j+1) yo_ hj yo_
theorem SL_Asc{t:List Entry}(h:SL t):Asc t t.length:=asc_chain t t.length fun i hi=>SL_asc h i hi
theorem WI.tree{f o:List Entry}(h:WI f o):treeOk (srt o)=decide (o.length<=500):=by
 have hp:=srt_perm o;have hl:=hp.length_eq;have hS:=srt_SL o (h.ks ▸ h.nd);unfold treeOk;rw[hl];by_cases q:o.length<=500
 ·rw[decide_eq_true q,Bool.true_and,<-hl,scan_of,ups_of]
  ·rfl
  ·intro j _ hj;rw[rdE_at _ j yo_];have hm:=hp.mem_iff.1 (List.getElem_mem (show j<(srt o).length by omega));exact upOk_of rfl (dirIn_sub fun d hd _=>hp.mem_iff.2 hd) (h.up _ hm)
  ·intro j _ hj;rw[rdE_at _ j yo_];exact⟨h.ook _ (hp.mem_iff.1 (List.getElem_mem _)),SL_asc hS j yo_⟩
 ·rw[decide_eq_false q,Bool.false_and,Bool.false_and]
theorem WI.small{f o:List Entry}(h:WI f o):tSmall (srt o):=fun e he=>eOk_small (h.ook e ((srt_perm o).mem_iff.1 he))
theorem tree_ok{T:List Entry}(h:treeOk T=true){n:Nat}(hn:n<T.length):eOk (rdE T n)=true/\upOk (T.take n) (rdE T n)=true:=by
 simp only[treeOk,Bool.and_eq_true,decide_eq_true_eq] at h;have hall:=scan_all T T.length 0 yo_ h.1.2;refine⟨(hall n yo_ hn).1,?_⟩;have hA:Asc T T.length:=asc_chain T _ fun j hj=>(hall j yo_ hj).2;have hu:∀d i:Nat,ups T d i=true->∀j:Nat,i<=j->j<i+d->upOk T (rdE T j)=true:=by
  intro d;induction d with
  |zero=>intro i _ j h1 h2;omega
  |succ d ih=>
   intro i hu j h1 h2;simp only[ups,Bool.and_eq_true] at hu;rcases Nat.lt_or_eq_of_le h1 with h3|rfl
   ·exact ih (i+1) hu.2 j h3 yo_
   ·exact hu.1
 have h1:=hu T.length 0 h.2 n yo_ yo_;unfold upOk at h1⊢;cases hl:lastS (rdE T n).f0 (rdE T n).f0.size with
 |none=>rfl
 |some j=>
  rw[hl] at h1;have h1:dirIn T ((rdE T n).f0.extract 0 j)=true:=h1;show dirIn (T.take n) ((rdE T n).f0.extract 0 j)=true
  rw[dir_take T n _ fun i h2 h3=>?_]
  ·exact h1
  ·have:=up_less (rdE T n).f0 j (lastS_lt _ _ _ hl);rcases Nat.lt_or_eq_of_le h2 with q|rfl
   ·exact List.lt_trans this (hA n i q h3)
   ·exact this
end P
end Go.Proofs.YtgccknmddhbdgaaGreatDoor.Q
