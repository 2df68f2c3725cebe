import Derived.Test.YtgccknmddhbdgaaGreatDoorE17
import Derived.Test.YtgccknmddhbdgaaGreatDoorE18
namespace Go.Proofs.YtgccknmddhbdgaaGreatDoor.Q
open Go.RowKit W1 W2 W3
namespace P
theorem itR_all{st:List Item}{l:List ByteArray}:∀d i:Nat,itR st l d i=true->∀j:Nat,i<=j->j<i+d->itemOk (rdI st (j:Int)) l=true
 |0,i,h,j,h1,h2=>by omega
 |d+1,i,h,j,h1,h2=>by
  simp only[itR,Bool.and_eq_true] at h;rcases Nat.lt_or_eq_of_le h1 with q|rfl
  ·exact itR_all d (i+1) h.2 j q yo_
  ·exact h.1
theorem storeOk_item{st:List Item}(h:storeOk st=true){i:Nat}(hi:i<st.length):treeOk (rdI st (i:Int)).f4=true/\addrOk (rdI st (i:Int)).f0=true:=by
 simp only[storeOk,Bool.and_eq_true] at h;have q:=itR_all st.length 0 h.2 i (Nat.zero_le _) yo_;simp only[itemOk,Bool.and_eq_true] at q;exact⟨q.1.1.1.2,q.1.1.1.1⟩
def fnd(st:List Item)(u:ByteArray):Nat->Nat->Int
 |0,_=> -1
 |d+1,i=>if(rdI st i).f0.toList=u.toList then(i:Int) else fnd st u d (i+1)
theorem fnd_at(st:List Item)(u:ByteArray):∀d i:Nat,¬fnd st u d i<0->∃n:Nat,fnd st u d i=n/\n<i+d/\(rdI st n).f0=u
 |0,i,h=>absurd (show fnd st u 0 i<0 by simp only[fnd];decide) h
 |d+1,i,h=>by
  unfold fnd at h⊢;by_cases q:(rdI st i).f0.toList=u.toList
  ·rw[if_pos q];exact⟨i,rfl,by omega,tl_inj q⟩
  ·rw[if_neg q] at h⊢;obtain⟨n,h1,h2,h3⟩:=fnd_at st u d (i+1) h;exact⟨n,h1,by omega,h3⟩
theorem eFndI(st:List Item)(u:ByteArray)(hs:st.length<=1048576):∀d i:Nat,st.length=i+d->Ev (fun k=>impl_itemOf.l0 k u st (st.length:Int) (i:Int)) (fnd st u d i)
 |0,i,h=>by
  refine Ev.step (fun k=>by rw[impl_itemOf.l0]) ?_;simp only[if_neg (show¬(i:Int)<st.length by omega),fnd];exact Ev.now _
 |d+1,i,h=>by
  have ih:=eFndI st u hs d (i+1) yo_;refine Ev.step (fun k=>by rw[impl_itemOf.l0]) ?_;simp only[if_pos (show(i:Int)<st.length by omega),if_pos (show(0:Int)<=i by omega),fnd];rw[w64n yo_];by_cases he:(rdI st i).f0.toList=u.toList
  ·rw[if_pos he];exact Ev.congr (fun k=>if_pos he) (Ev.now _)
  ·rw[if_neg he];exact Ev.congr (fun k=>if_neg he) ih
theorem eFndS(st:List Item)(u:ByteArray)(hs:st.length<=1048576):∀d i:Nat,st.length=i+d->Ev (fun k=>spec_l12Find.l0 k st u (i:Int)) (fnd st u d i)
 |0,i,h=>by
  refine Ev.step (fun k=>by rw[spec_l12Find.l0]) ?_;simp only[if_neg (show¬(i:Int)<st.length by omega),fnd];exact Ev.now _
 |d+1,i,h=>by
  have ih:=eFndS st u hs d (i+1) yo_;refine Ev.step (fun k=>by rw[spec_l12Find.l0]) ?_;simp only[if_pos (show(i:Int)<st.length by omega),if_pos (show(0:Int)<=i by omega),fnd];rw[w64n yo_];by_cases he:(rdI st i).f0.toList=u.toList
  ·rw[if_pos he];exact Ev.congr (fun k=>if_pos he) (Ev.now _)
  ·rw[if_neg he];exact Ev.congr (fun k=>if_neg he) ih
def pthW(st:List Item):List Entry×List Entry->List ByteArray->Option (List Entry×List Entry)
 |s,[]=>some s
 |s,p::ps=>if fnd st p st.length 0<0 then none else(entW p s (rdI st (fnd st p st.length 0)).f4).bind fun s'=>pthW st s' ps
def resW:Option (List Entry×List Entry)->List Entry×Bool
 |none=>([],false)
 |some s=>if s.2.length<=500 then(srt s.2,true) else([],false)
def thenW(G:List Entry×List Entry->List Entry×Bool):Option (List Entry×List Entry)->List Entry×Bool
 |none=>([],false)
 |some s=>G s
theorem thenW_bind(c:List Entry×List Entry->Option (List Entry×List Entry))(a:Option (List Entry×List Entry)):thenW (fun s=>resW (c s)) a=resW (a.bind c):=by
 cases a<;>rfl
theorem take_in{T f:List Entry}{n:Nat}(hn:n<T.length)(h:∀e ∈ T.take n,e ∈ f)(h2:rdE T n ∈ f):∀e ∈ T.take (n+1),e ∈ f:=by
 intro e he;rw[List.take_add_one,List.getElem?_eq_getElem hn,<-rdE_at T n hn] at he;rcases List.mem_append.1 he with he|he
 ·exact h e he
 ·have:e=rdE T n:=by simpa using he
  rw[this];exact h2
theorem eW1I(st:List Item)(ps:List ByteArray)(i:Int)(T:List Entry)(hT:treeOk T=true)(p:ByteArray)(hp:p.size<=74)(m:Nat)(hm:m<=2000000)(G:List Entry×List Entry->List Entry×Bool)
 (hk:∀f' o',WI f' o'->f'.length<=m+T.length->Ev (fun k=>impl_Wrap.l0 k st ps f' o' (wrap64 (i+1))) (G (f',o'))):
 ∀d n f o,T.length=n+d->WI f o->f.length<=m+n->(∀e ∈ T.take n,e ∈ f)->Ev (fun k=>impl_Wrap.l1 k st ps f o i T p (n:Int)) (thenW G (entW p (f,o) (T.drop n)))
 |0,n,f,o,h,hW,hl,hin=>by
  rw[List.drop_of_length_le yo_];refine Ev.step (fun k=>by rw[impl_Wrap.l1]) ?_;simp only[if_neg (show¬(n:Int)<T.length by omega),entW,thenW];exact hk f o hW yo_
 |d+1,n,f,o,h,hW,hl,hin=>by
  have hn:n<T.length:=by omega
  have ht:=tree_ok hT hn;have hE:=eOk_path ht.1;have hs:=pathOk_size hE.1;have hL:=treeOk_len hT;have hle:=hW.len;have hfit:impl_Wrap.fits f o p (rdE T n).f0=true:=by
   unfold impl_Wrap.fits MapE.room;have hsz:(p++(⟨#[47]⟩:ByteArray)).size=p.size+1:=by rw[ByteArray.size_append];rfl
   rw[hsz];simp only[Bool.and_eq_true,decide_eq_true_eq];exact⟨⟨⟨by omega,by omega⟩,⟨by omega,by omega⟩⟩,by omega,by omega⟩
  have ih:=eW1I st ps i T hT p hp m hm G hk d (n+1);rw[List.drop_eq_getElem_cons hn,<-rdE_at T n hn];refine Ev.step (fun k=>by rw[impl_Wrap.l1]) ?_;simp only[if_pos (show(n:Int)<T.length by omega),if_pos (show(0:Int)<=n by omega)];refine Ev.congr (fun k=>if_pos hfit) ?_;rw[w64n yo_];cases hg:MapE.get (rdE T n).f0 f with
  |some g=>
   have hgm:=getE_some _ _ hg;simp only[Option.isSome_some,if_true,Option.getD_some,entW,hg];by_cases q:impl_Wrap.ne g (rdE T n)=true
   ·simp only[if_pos q,thenW];exact Ev.now _
   ·simp only[if_neg q];exact ih f o yo_ hW yo_ (take_in hn hin (ne_eq q ▸ hgm.1))
  |none=>
   simp only[Option.isSome_none,Bool.false_eq_true,if_false,entW,hg];exact ih _ _ yo_ (hW.step ht.1 hp (upOk_of rfl (dirIn_sub fun d hd _=>hin d hd) ht.2) hg) (by rw[List.length_cons];omega) (take_in hn (fun e he=>List.mem_cons_of_mem _ (hin e he)) (List.mem_cons_self ..))
theorem eW0I(st:List Item)(hst:storeOk st=true)(hsl:st.length<=1048576)(ps:List ByteArray)(hps:ps.length<=2000):∀d i f o,ps.length=i+d->WI f o->f.length<=500*i->Ev (fun k=>impl_Wrap.l0 k st ps f o (i:Int)) (resW (pthW st (f,o) (ps.drop i)))
 |0,i,f,o,h,hW,hl=>by
  have hle:=hW.len;rw[List.drop_of_length_le yo_];refine Ev.step (fun k=>by rw[impl_Wrap.l0]) ?_;simp only[if_neg (show¬(i:Int)<ps.length by omega),pthW,resW];unfold impl_Wrap.tail;rw[out_srt o (hW.ks ▸ hW.nd)];refine Ev.congr (fun k=>if_pos ⟨by omega,List.all_eq_true.2 fun e he=>decide_eq_true (by have:=pathOk_size (eOk_path (hW.ook e he)).1;omega)⟩) ?_;refine Ev.bind (eTreeI _ hW.small) ?_;rw[hW.tree];by_cases q:o.length<=500
  ·simp only[decide_eq_true q,if_true,if_pos q];exact Ev.now _
  ·simp only[decide_eq_false q,Bool.false_eq_true,if_false,if_neg q];exact Ev.now _
 |d+1,i,f,o,h,hW,hl=>by
  have hi:i<ps.length:=by omega
  have hr:rdOf ByteArray.empty ps (i:Int)=ps[i]:=rdT_at ps i hi;rw[List.drop_eq_getElem_cons hi,<-hr];refine Ev.step (fun k=>by rw[impl_Wrap.l0]) ?_;simp only[if_pos (show(i:Int)<ps.length by omega),if_pos (show(0:Int)<=i by omega)];obtain⟨p,hpp⟩:∃p,rdOf ByteArray.empty ps (i:Int)=p:=⟨_,rfl⟩
  simp only[impl_Wrap.rS,hpp];refine Ev.bind (eFndI st p hsl st.length 0 yo_) ?_;by_cases q:fnd st p st.length 0<0
  ·simp only[if_pos q,pthW,resW];exact Ev.now _
  ·obtain⟨n,h1,h2,h3⟩:=fnd_at st p _ _ q;have hn:n<st.length:=by omega
   have hI:=storeOk_item hst hn;have hL:=treeOk_len hI.1;simp only[if_neg q,if_pos (show fnd st p st.length 0<(st.length:Int) by omega),pthW];rw[<-thenW_bind,h1];have:=eW1I st ps (i:Int) (rdI st n).f4 hI.1 p (by rw[<-h3];exact addr_size3 hI.2) (500*i) yo_ (fun s=>resW (pthW st s (ps.drop (i+1)))) (fun f' o' hW' hl'=>by
    rw[w64n yo_];exact eW0I st hst hsl ps hps d (i+1) f' o' yo_ hW' yo_) (rdI st n).f4.length 0 f o yo_ hW yo_ (fun e he=>by cases he)
   exact this
end P
end Go.Proofs.YtgccknmddhbdgaaGreatDoor.Q
