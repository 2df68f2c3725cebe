import Derived.Test.YtgccknmddhbdgaaGreatDoorE19
import Derived.Test.YtgccknmddhbdgaaGreatDoorE23
import Derived.Test.YtgccknmddhbdgaaGreatDoorE25
namespace Go.Proofs.YtgccknmddhbdgaaGreatDoor.Q
open Go.RowKit W1 W2 W3
namespace P
theorem eFindE(f:List Entry)(hn:(f.map (·.f0)).Nodup)(hl:f.length<=1048576)(u:ByteArray):∃r:Int,Ev (fun k=>spec_l10Find.f k (srt f) u) r/\
 ((∃n:Nat,r=n/\n<(srt f).length/\MapE.get u f=some (rdE (srt f) n))\/(r= -1/\MapE.get u f=none)):=by
 have hp:=srt_perm f;have hS:=srt_SL f hn;have hle:=hp.length_eq;obtain⟨r,h,hr⟩:=eFind (srt f) u yo_ (SL_Asc hS) (srt f).length 0 (srt f).length yo_ yo_ (Nat.le_refl _) (fun j h=>absurd h (Nat.not_lt_zero _)) (fun j h1 h2=>by omega);refine⟨r,h,?_⟩;rcases hr with⟨h0,h1,h2⟩|⟨h0,h1⟩
 ·obtain⟨n,rfl⟩:=Int.eq_ofNat_of_zero_le h0;have hn':n<(srt f).length:=by omega
  refine Or.inl ⟨n,rfl,hn',?_⟩;have hm:rdE (srt f) (n:Int) ∈ f:=by rw[rdE_at _ n hn'];exact hp.mem_iff.1 (List.getElem_mem hn')
  have:=getE_mem f hn _ hm;rw[tl_inj h2] at this;exact this
 ·refine Or.inr ⟨h0,?_⟩;cases hg:MapE.get u f with
  |none=>rfl
  |some g=>
   obtain⟨g1,g2⟩:=getE_some u f hg;obtain⟨j,hj,hjg⟩:=List.mem_iff_getElem.1 (hp.mem_iff.2 g1);exact absurd (by rw[rdE_at _ j hj,hjg,g2]) (h1 j hj)
def under(a b:ByteArray):Prop:=(b.data.toList++[47])<+:a.data.toList
theorem eUnder(a b:ByteArray)(ha:a.size<=1048576):∃r,spec_l10Under.f a b=some r/\(r=true->under a b):=by
 unfold spec_l10Under.f;by_cases h:(a.size:Int)>(b.size:Int)
 ·rw[w64n yo_];refine⟨_,by rw[if_pos h,if_pos (show(0:Int)<=((b.size+1:Nat):Int) by omega),if_pos (show((b.size+1:Nat):Int)<=(a.size:Int) by omega),if_pos (show b.size+1<=9223372036854775807 by omega)],fun hr=>?_⟩;have h1:=eq_of_beq hr;rw[ByteArray.toList_eq,ByteArray.toList_eq,Int.toNat_natCast,ext_data,List.drop_zero] at h1;unfold under;have h2:(b++(⟨#[47]⟩:ByteArray)).data.toList=b.data.toList++[47]:=by rw[ByteArray.data_append,Array.toList_append]
  rw[<-h2,<-h1];exact List.take_prefix _ _
 ·exact⟨false,if_neg h,fun h=>by cases h⟩
theorem lastS_ge(s:ByteArray)(i:Nat)(h:bt s i=47):∀n:Nat,i<n->∃j,lastS s n=some j/\i<=j
 |0,hi=>absurd hi (Nat.not_lt_zero _)
 |n+1,hi=>by
  unfold lastS;by_cases q:bt s n=47
  ·exact⟨n,by rw[if_pos q],by omega⟩
  ·rw[if_neg q];refine lastS_ge s i h n ?_;rcases Nat.lt_or_eq_of_le (Nat.le_of_lt_succ hi) with h1|h1
   ·exact h1
   ·subst h1;exact absurd h q
theorem none_under{t:List Entry}(hup:∀a ∈ t,upOk t a=true){p:ByteArray}(hp:∀a ∈ t,a.f0≠p):∀n:Nat,∀a ∈ t,a.f0.size<=n->¬under a.f0 p
 |n,a,ha,hn,hu=>by
  obtain⟨r,hr⟩:=hu;have hl:=size_l a.f0;have hl2:=size_l p;have hlen:p.data.toList.length+1+r.length=a.f0.data.toList.length:=by rw[<-hr];simp;omega
  have hi:p.size<a.f0.data.toList.length:=by omega
  have h47:bt a.f0 (p.size:Int)=47:=by
   rw[bt_data a.f0 p.size hi];have:a.f0.data.toList[p.size]=47:=by
    have e:a.f0.data.toList[p.size]?=some 47:=by
     rw[<-hr,List.append_assoc,List.getElem?_append_right yo_,hl2];simp
    rw[List.getElem?_eq_getElem hi] at e;exact Option.some.inj e
   rw[this];rfl
  obtain⟨j,hj,hij⟩:=lastS_ge a.f0 p.size h47 a.f0.size yo_;have hjl:=lastS_lt _ _ _ hj;have h1:=hup a ha;unfold upOk at h1;rw[hj] at h1;obtain⟨d,hd,_,he⟩:=dirIn_iff.1 (show dirIn t (a.f0.extract 0 j)=true from h1);have hdd:d.f0.data.toList=a.f0.data.toList.take j:=by rw[he,ext_data,List.drop_zero]
  have hds:d.f0.size=j:=by rw[he,ByteArray.size_extract];omega
  rcases Nat.lt_or_eq_of_le hij with q|q
  ·cases n with
   |zero=>omega
   |succ n=>
    refine none_under hup hp n d hd yo_ ?_;unfold under;rw[hdd];have:p.data.toList++[47]<+:a.f0.data.toList:=⟨r,hr⟩
    exact List.prefix_take_iff.2 ⟨this,by simp;omega⟩
  ·refine hp d hd (MapSet.inj ?_);rw[hdd,<-hr,<-q,List.append_assoc,List.take_append_of_le_length yo_,List.take_of_length_le yo_]
theorem eFull(t:List Entry)(hl:t.length<=500)(hok:∀a ∈ t,eOk a=true)(hup:∀a ∈ t,upOk t a=true)(p:ByteArray)(hp:∀a ∈ t,a.f0≠p):∀d i:Nat,t.length=i+d->Ev (fun k=>spec_l10Full.l0 k t p (i:Int)) false
 |0,i,h=>by
  refine Ev.step (fun k=>by rw[spec_l10Full.l0]) ?_;simp only[if_neg (show¬(i:Int)<t.length by omega)];exact Ev.now _
 |d+1,i,h=>by
  have hi:i<t.length:=by omega
  have hm:rdE t (i:Int) ∈ t:=by rw[rdE_at t i hi];exact List.getElem_mem hi
  have hs:=pathOk_size (eOk_path (hok _ hm)).1;obtain⟨r,h1,h2⟩:=eUnder (rdE t i).f0 p yo_;have hr:r=false:=by
   cases r with
   |false=>rfl
   |true=>exact absurd (h2 rfl) (none_under hup hp _ _ hm (Nat.le_refl _))
  subst hr;refine Ev.step (fun k=>by rw[spec_l10Full.l0]) ?_;simp only[if_pos (show(i:Int)<t.length by omega),if_pos (show(0:Int)<=i by omega)];refine Ev.bind (ev_eq h1) ?_;simp only[Bool.false_eq_true,if_false];rw[w64n yo_];exact eFull t hl hok hup p hp d (i+1) yo_
theorem eCopyE(t:List Entry)(hl:t.length<=1048576):spec_l10Copy.f t=some t:=by
 unfold spec_l10Copy.f;rw[Option.bind_some,if_pos (by show([]:List Entry).length+t.length<_;simp;omega)];rfl
def putR(t y:List Entry):List Entry×Bool:=if y.length<=500 then(y,true) else(t,false)
theorem eFin(t y:List Entry)(hl:t.length<=500):Ev (fun k=>if(y.length:Int)>500 then((spec_l10Copy.f t).bind fun c=>some (c,false)) else some (y,true)) (putR t y):=by
 unfold putR;by_cases q:y.length<=500
 ·rw[if_pos q];exact Ev.congr (fun k=>if_neg yo_) (Ev.now _)
 ·rw[if_neg q];refine Ev.congr (fun k=>if_pos yo_) ?_;exact Ev.bind (ev_eq (eCopyE t yo_)) (Ev.now _)
theorem eRest(t:List Entry)(e:Entry)(hl:t.length<=500)(hp:∀a ∈ t,a.f0≠e.f0):∀(d i:Nat) (y:List Entry),t.length=i+d->y.length<=i+1->Ev (fun k=>spec_l10Put.l0 k t y true (i:Int) e.f0 e.f1 e.f2 e.f3) (putR t (y++t.drop i))
 |0,i,y,h,hy=>by
  rw[List.drop_of_length_le yo_,List.append_nil];refine Ev.step (fun k=>by rw[spec_l10Put.l0]) ?_;simp only[if_neg (show¬(i:Int)<t.length by omega),if_true];exact eFin t y hl
 |d+1,i,y,h,hy=>by
  have hi:i<t.length:=by omega
  have hm:rdE t (i:Int) ∈ t:=by rw[rdE_at t i hi];exact List.getElem_mem hi
  have ih:=eRest t e hl hp d (i+1) (y++[rdE t (i:Int)]) yo_ (by simp;omega);rw[List.append_assoc] at ih;rw[List.drop_eq_getElem_cons hi,<-rdE_at t i hi];refine Ev.step (fun k=>by rw[spec_l10Put.l0]) ?_;simp only[if_pos (show(i:Int)<t.length by omega),if_true];refine Ev.step (fun k=>by rw[spec_l10Put.j2]) ?_;simp only[Bool.false_eq_true,if_false,if_pos (show(0:Int)<=i by omega),if_pos (show(i:Int)<t.length by omega),if_pos (show y.length<2932031007402 by omega)];refine Ev.congr (fun k=>if_neg (fun q=>hp _ hm (tl_inj q))) ?_;rw[w64n yo_];exact ih
theorem eIns(t:List Entry)(e:Entry)(hl:t.length<=500)(hp:∀a ∈ t,a.f0≠e.f0):∀(d i:Nat),t.length=i+d->Ev (fun k=>spec_l10Put.l0 k t (t.take i) false (i:Int) e.f0 e.f1 e.f2 e.f3) (putR t (t.take i++insE e (t.drop i)))
 |0,i,h=>by
  rw[List.drop_of_length_le yo_];refine Ev.step (fun k=>by rw[spec_l10Put.l0]) ?_;simp only[if_neg (show¬(i:Int)<t.length by omega),Bool.false_eq_true,if_false,if_pos (show(t.take i).length<2932031007402 by rw[List.length_take];omega),Option.bind_some];exact eFin t _ hl
 |d+1,i,h=>by
  have hi:i<t.length:=by omega
  have hm:rdE t (i:Int) ∈ t:=by rw[rdE_at t i hi];exact List.getElem_mem hi
  have ih:=eIns t e hl hp d (i+1) yo_;have hT:t.take (i+1)=t.take i++[rdE t (i:Int)]:=by rw[List.take_add_one,List.getElem?_eq_getElem hi,rdE_at t i hi];rfl
  have hne:=hp _ hm;have htl:(t.take i).length<=i:=by rw[List.length_take];omega
  rw[List.drop_eq_getElem_cons hi,<-rdE_at t i hi];have hb:Op.bytesLess (rdE t (i:Int)).f0.toList e.f0.toList=decide ((rdE t (i:Int)).f0.toList<e.f0.toList):=bl_eq _ _;refine Ev.step (fun k=>by rw[spec_l10Put.l0]) ?_;simp only[if_pos (show(i:Int)<t.length by omega),Bool.false_eq_true,if_false,if_pos (show(0:Int)<=i by omega),hb,insE];by_cases q:(rdE t (i:Int)).f0.toList<e.f0.toList
  ·rw[if_pos q];simp only[decide_eq_true q,Bool.not_true];refine Ev.step (fun k=>by rw[spec_l10Put.j2]) ?_;simp only[Bool.false_eq_true,if_false,if_pos (show(0:Int)<=i by omega),if_pos (show(i:Int)<t.length by omega),if_pos (show(t.take i).length<2932031007402 by omega)];refine Ev.congr (fun k=>if_neg (fun q=>hne (tl_inj q))) ?_;rw[w64n yo_];rw[hT,List.append_assoc] at ih;exact ih
  ·rw[if_neg q];simp only[decide_eq_false q,Bool.not_false];refine Ev.step (fun k=>by rw[spec_l10Put.j2]) ?_;have hl2:(t.take i++[e]).length<2932031007402:=by simp;omega
   simp only[if_true,if_pos (show(0:Int)<=i by omega),if_pos (show(i:Int)<t.length by omega),if_pos (show(t.take i).length<2932031007402 by omega),Option.bind_some];refine Ev.congr (fun k=>if_neg (fun q=>hne (tl_inj q))) ?_;refine Ev.congr (fun k=>if_pos hl2) ?_;rw[w64n yo_];have:=eRest t e hl hp d (i+1) (t.take i++[e]++[rdE t (i:Int)]) yo_ (by simp;omega);rw[show t.take i++[e]++[rdE t (i:Int)]++t.drop (i+1)=t.take i++e::rdE t (i:Int)::t.drop (i+1) by simp] at this;exact this
theorem ePutE(t:List Entry)(e:Entry)(hS:SL t)(hl:t.length<=500)(hok:∀a ∈ t,eOk a=true)(hup:∀a ∈ t,upOk t a=true)(he:eOk e=true)(hu:upOk t e=true)(hp:∀a ∈ t,a.f0≠e.f0):
 Ev (fun k=>spec_l10Put.f k t e.f0 e.f1 e.f2 e.f3) (putR t (insE e t)):=by
 have hs:=pathOk_size (eOk_path he).1;have hJ:Ev (fun k=>spec_l10Put.j0 k t false e.f0 e.f1 e.f2 e.f3) (putR t (insE e t)):=by
  refine Ev.step (fun k=>by rw[spec_l10Put.j0]) ?_;simp only[Bool.false_eq_true,if_false];exact eIns t e hl hp t.length 0 yo_
 have hM:Ev (fun k=>if e.f1=1 then spec_l10Put.j0 k t false e.f0 e.f1 e.f2 e.f3 else(spec_l10Full.f k t e.f0).bind fun b=>spec_l10Put.j0 k t b e.f0 e.f1 e.f2 e.f3) (putR t (insE e t)):=by
  by_cases q:e.f1=1
  ·exact Ev.congr (fun k=>if_pos q) hJ
  ·exact Ev.congr (fun k=>if_neg q) (Ev.bind (eFull t hl hok hup e.f0 hp t.length 0 yo_) hJ)
 unfold spec_l10Put.f;refine Ev.bind (eUpS e.f0 yo_) (Ev.bind (eEntryS e yo_) ?_);simp only[he,if_true];unfold upOk at hu;cases hL:lastS e.f0 e.f0.size with
 |none=>exact Ev.congr (fun k=>if_pos (tl_nil.2 rfl)) hM
 |some j=>
  rw[hL] at hu;have hj0:=pathOk_slash (eOk_path he).1 hL;have hjl:=lastS_lt _ _ _ hL;refine Ev.congr (fun k=>if_neg (fun h=>by have:=tl_nil.1 h;rw[ByteArray.size_extract] at this;omega)) ?_;refine Ev.bind (eDir t _ yo_ (SL_Asc hS)) ?_;rw[show dirIn t (e.f0.extract 0 j)=true from hu];simp only[if_true];exact hM
theorem entW_long(p:ByteArray)(G:List Entry×List Entry->List Entry×Bool)(hG:∀s,500<s.2.length->G s=([],false)):∀(T:List Entry) (s:List Entry×List Entry),500<s.2.length->thenW G (entW p s T)=([],false)
 |[],s,h=>hG s h
 |e::T,s,h=>by
  unfold entW;cases MapE.get e.f0 s.1 with
  |some g=>
   by_cases q:impl_Wrap.ne g e=true
   ·simp only[if_pos q,thenW]
   ·simp only[if_neg q];exact entW_long p G hG T s h
  |none=>exact entW_long p G hG T _ (by rw[List.length_cons];omega)
theorem pthW_long(st:List Item):∀(ps:List ByteArray) (s:List Entry×List Entry),500<s.2.length->resW (pthW st s ps)=([],false)
 |[],s,h=>by simp only[pthW,resW,if_neg (show¬s.2.length<=500 by omega)]
 |p::ps,s,h=>by
  unfold pthW;by_cases q:fnd st p st.length 0<0
  ·rw[if_pos q];rfl
  ·rw[if_neg q,<-thenW_bind];exact entW_long p _ (fun s h=>pthW_long st ps s h) _ s h
theorem ne_iff{a b:Entry}:impl_Wrap.ne a b=true↔a≠b:=by
 constructor
 ·rintro h rfl;unfold impl_Wrap.ne at h;simp at h
 ·intro h;cases q:impl_Wrap.ne a b with
  |true=>rfl
  |false=>exact absurd (ne_eq (by rw[q];exact Bool.false_ne_true)) h
theorem eW1S(st:List Item)(ps:List ByteArray)(i:Nat)(hi:i<ps.length)(N:Nat)(hN:N<st.length)(hT:treeOk (rdI st N).f4=true)(p:ByteArray)(hpp:rdOf ByteArray.empty ps (i:Int)=p)(hp:p.size<=74)(G:List Entry×List Entry->List Entry×Bool)
 (hG:∀s,500<s.2.length->G s=([],false)) (hk:∀f' o',WI f' o'->o'.length<=500->Ev (fun k=>spec_l20Wrap.l0 k st ps [] (srt o') (srt f') (wrap64 ((i:Int)+1))) (G (f',o'))):
 ∀d n f o,(rdI st N).f4.length=n+d->WI f o->o.length<=500->(∀e ∈ (rdI st N).f4.take n,e ∈ f)->Ev (fun k=>spec_l20Wrap.l1 k st ps [] (srt o) (srt f) (i:Int) (N:Int) (n:Int)) (thenW G (entW p (f,o) ((rdI st N).f4.drop n)))
 |0,n,f,o,h,hW,hl,hin=>by
  rw[List.drop_of_length_le yo_];refine Ev.step (fun k=>by rw[spec_l20Wrap.l1]) ?_;simp only[if_pos (show(0:Int)<=N by omega),if_pos (show(N:Int)<st.length by omega),if_neg (show¬(n:Int)<(rdI st N).f4.length by omega),entW,thenW];exact hk f o hW hl
 |d+1,n,f,o,h,hW,hl,hin=>by
  have ih:=eW1S st ps i hi N hN hT p hpp hp G hG hk d (n+1);generalize hTT:(rdI st (N:Int)).f4=T at*;have hn:n<T.length:=by omega
  have ht:=tree_ok hT hn;have hE:=eOk_path ht.1;have hs:=pathOk_size hE.1;have hL:=treeOk_len hT;have hle:=hW.len;have hpo:=srt_perm o;have hpf:=srt_perm f;have hlo:=hpo.length_eq;have hlf:=hpf.length_eq;have hno:(o.map (·.f0)).Nodup:=hW.ks ▸ hW.nd;obtain⟨r,hF,hr⟩:=eFindE f hW.nd yo_ (rdE T n).f0;rw[List.drop_eq_getElem_cons hn,<-rdE_at T n hn];refine Ev.step (fun k=>by rw[spec_l20Wrap.l1]) ?_;simp only[if_pos (show(0:Int)<=N by omega),if_pos (show(N:Int)<st.length by omega),hTT,if_pos (show(n:Int)<T.length by omega),if_pos (show(0:Int)<=n by omega)];refine Ev.bind hF ?_;rcases hr with⟨x,rfl,hx,hg⟩|⟨rfl,hg⟩
  ·simp only[if_pos (show(x:Int)>=0 by omega),if_pos (show(0:Int)<=x by omega),if_pos (show(x:Int)<(srt f).length by omega),entW,hg];have hgm:=getE_some _ _ hg;by_cases q:rdE (srt f) (x:Int)=rdE T n
   ·refine Ev.congr (fun k=>if_neg (show¬impl_Wrap.ne (rdE T n) (rdE (srt f) (x:Int))=true from fun h=>ne_iff.1 h q.symm)) ?_;rw[if_neg (fun h=>ne_iff.1 h q),w64n yo_];exact ih f o yo_ hW hl (take_in hn hin (q ▸ hgm.1))
   ·refine Ev.congr (fun k=>if_pos (show impl_Wrap.ne (rdE T n) (rdE (srt f) (x:Int))=true from ne_iff.2 fun h=>q h.symm)) ?_;rw[if_pos (ne_iff.2 q)];exact Ev.now _
  ·simp only[if_neg (show¬(-1:Int)>=0 by decide),entW,hg];have hup:=upOk_of (e':=rdE T n) rfl (dirIn_sub fun d hd _=>hin d hd) ht.2;have hW':=hW.step ht.1 hp hup hg;have hne:=getE_none _ _ hg;have hneo:∀a ∈ o,a.f0≠(rdE T n).f0:=fun a ha e=>by
    have:a.f0 ∈ f.map (·.f0):=hW.ks ▸ List.mem_map.2 ⟨a,ha,rfl⟩;obtain⟨b,hb,hbe⟩:=List.mem_map.1 this;exact hne b hb (hbe.trans e)
   have eo:=ePutE (srt o) (impl_Wrap.lnk p (rdE T n)) (srt_SL o hno) yo_ (fun a ha=>hW.ook a (hpo.mem_iff.1 ha)) (fun a ha=>upOk_of rfl (dirIn_sub fun d hd _=>hpo.mem_iff.2 hd) (hW.up a (hpo.mem_iff.1 ha))) (lnk_ok ht.1 hp)
    (upOk_of (lnk_f0 p (rdE T n)) (dirIn_sub fun d hd h1=>hpo.mem_iff.2 (hW.dir d hd h1)) hup) (fun a ha=>by rw[lnk_f0];exact hneo a (hpo.mem_iff.1 ha))
   have ef:=ePutE (srt f) (rdE T n) (srt_SL f hW.nd) yo_ (fun a ha=>hW.fok a (hpf.mem_iff.1 ha)) (fun a ha=>upOk_of rfl (dirIn_sub fun d hd _=>hpf.mem_iff.2 hd) (hW.upf a (hpf.mem_iff.1 ha))) ht.1
    (upOk_of rfl (dirIn_sub fun d hd _=>hpf.mem_iff.2 hd) hup) (fun a ha=>hne a (hpf.mem_iff.1 ha))
   have l1:(insE (impl_Wrap.lnk p (rdE T n)) (srt o)).length=o.length+1:=by rw[(insE_perm _ _).length_eq,List.length_cons,hlo]
   have l2:(insE (rdE T n) (srt f)).length=o.length+1:=by rw[(insE_perm _ _).length_eq,List.length_cons,hlf,hle]
   have hJ:Ev (fun k=>spec_l20Wrap.j2 k st ps [] (srt o) (srt f) (i:Int) (N:Int) (n:Int) (rdE T n).f0 (rdE T n).f1 (rdE T n).f2 (rdE T n).f3 (impl_Wrap.lnk p (rdE T n)).f0 (impl_Wrap.lnk p (rdE T n)).f1 (impl_Wrap.lnk p (rdE T n)).f2 (impl_Wrap.lnk p (rdE T n)).f3) (thenW G (entW p (rdE T n::f,impl_Wrap.lnk p (rdE T n)::o) (T.drop (n+1)))):=by
    refine Ev.step (fun k=>by rw[spec_l20Wrap.j2]) ?_;refine Ev.bind eo (Ev.bind ef ?_);unfold putR;rw[l1,l2];by_cases q:o.length+1<=500
    ·simp only[if_pos q,if_true];rw[w64n yo_];exact ih _ _ yo_ hW' (by rw[List.length_cons];exact q) (take_in hn (fun e he=>List.mem_cons_of_mem _ (hin e he)) (List.mem_cons_self ..))
    ·simp only[if_neg q,Bool.false_eq_true,if_false];rw[entW_long p G hG _ _ (by show 500<(_::o).length;rw[List.length_cons];omega)];exact Ev.now _
   by_cases q:(rdE T n).f1=1
   ·have e:impl_Wrap.lnk p (rdE T n)=rdE T n:=by unfold impl_Wrap.lnk;rw[if_pos q]
    rw[e] at hJ;refine Ev.congr (fun k=>if_pos q) ?_;rw[e];exact hJ
   ·have e:impl_Wrap.lnk p (rdE T n)=⟨(rdE T n).f0,3,(p++(⟨#[47]⟩:ByteArray))++(rdE T n).f0,false⟩:=by unfold impl_Wrap.lnk;rw[if_neg q]
    have hsz:(p++(⟨#[47]⟩:ByteArray)).size=p.size+1:=by rw[ByteArray.size_append];rfl
    refine Ev.congr (fun k=>if_neg q) ?_;simp only[if_pos (show(0:Int)<=i by omega),if_pos (show(i:Int)<ps.length by omega),hpp,if_pos (show p.size+1<=9223372036854775807 by omega)];refine Ev.congr (fun k=>if_pos (by rw[hsz];exact Nat.le_trans (Nat.add_le_add_left hs _) yo_)) ?_;rw[e] at hJ⊢;exact hJ
theorem eW0S(st:List Item)(hst:storeOk st=true)(hsl:st.length<=1048576)(ps:List ByteArray)(hps:ps.length<=2000):∀d i f o,ps.length=i+d->WI f o->o.length<=500->Ev (fun k=>spec_l20Wrap.l0 k st ps [] (srt o) (srt f) (i:Int)) (resW (pthW st (f,o) (ps.drop i)))
 |0,i,f,o,h,hW,hl=>by
  rw[List.drop_of_length_le yo_];refine Ev.step (fun k=>by rw[spec_l20Wrap.l0]) ?_;simp only[if_neg (show¬(i:Int)<ps.length by omega),pthW,resW,if_pos hl];refine Ev.bind (eTreeS _ hW.small) ?_;rw[hW.tree,decide_eq_true hl];exact Ev.now _
 |d+1,i,f,o,h,hW,hl=>by
  have hi:i<ps.length:=by omega
  have hr:rdOf ByteArray.empty ps (i:Int)=ps[i]:=rdT_at ps i hi;rw[List.drop_eq_getElem_cons hi,<-hr];refine Ev.step (fun k=>by rw[spec_l20Wrap.l0]) ?_;simp only[if_pos (show(i:Int)<ps.length by omega),if_pos (show(0:Int)<=i by omega)];generalize hpp:rdOf ByteArray.empty ps (i:Int)=p;refine Ev.bind (eFndS st p hsl st.length 0 yo_) ?_;by_cases q:fnd st p st.length 0<0
  ·simp only[if_pos q,pthW,resW];exact Ev.now _
  ·obtain⟨n,h1,h2,h3⟩:=fnd_at st p _ _ q;have hn:n<st.length:=by omega
   have hI:=storeOk_item hst hn;simp only[if_neg q,pthW];rw[<-thenW_bind,h1];exact eW1S st ps i hi n hn hI.1 p hpp (by rw[<-h3];exact addr_size3 hI.2) (fun s=>resW (pthW st s (ps.drop (i+1)))) (fun s hs=>pthW_long st _ s hs) (fun f' o' hW' hl'=>by
    rw[w64n yo_];exact eW0S st hst hsl ps hps d (i+1) f' o' yo_ hW' hl') (rdI st n).f4.length 0 f o yo_ hW hl (fun e he=>by cases he)
theorem eWrap{st:List Item}{pr:List Prof}{qs:List Pend}{ns:List Next}(H:Sized st pr qs ns)(ps:List ByteArray)(hps:ps.length<=1048576):
 ∃(R:List Entry) (b:Bool),Ev (fun k=>impl_Wrap.f k st pr qs ns ps) (R,b)/\Ev (fun k=>spec_Wrap.f k st pr qs ns ps) (R,b)/\R.length<=500:=by
 cases hw:worldOk st pr qs ns with
 |false=>
  refine⟨[],false,?_,?_,Nat.zero_le _⟩
  ·unfold impl_Wrap.f;refine Ev.bind (eWorldI H) ?_;simp only[hw,Bool.false_eq_true,if_false];exact Ev.now _
  ·unfold spec_Wrap.f;refine Ev.bind (eWorldS H) ?_;simp only[hw,Bool.false_eq_true,if_false];exact Ev.now _
 |true=>
  by_cases hl:(ps.length:Int)>2000
  ·refine⟨[],false,?_,?_,Nat.zero_le _⟩
   ·unfold impl_Wrap.f;refine Ev.bind (eWorldI H) ?_;simp only[hw,if_true,if_pos hl];exact Ev.now _
   ·unfold spec_Wrap.f;refine Ev.bind (eWorldS H) ?_;simp only[hw,if_true,if_pos hl];exact Ev.now _
  ·have hst:storeOk st=true:=by
    simp only[worldOk,Bool.and_eq_true] at hw;exact hw.1.1.1.1.1.1
   have e1:=eW0I st hst H.stl ps yo_ ps.length 0 [] [] yo_ WI.nil (Nat.zero_le _);have e2:=eW0S st hst H.stl ps yo_ ps.length 0 [] [] yo_ WI.nil (Nat.zero_le _);rw[List.drop_zero] at e1 e2;refine⟨(resW (pthW st ([],[]) ps)).1,(resW (pthW st ([],[]) ps)).2,?_,?_,?_⟩
   ·unfold impl_Wrap.f;refine Ev.bind (eWorldI H) ?_;simp only[hw,if_true,if_neg hl];exact e1
   ·unfold spec_Wrap.f;refine Ev.bind (eWorldS H) ?_;simp only[hw,if_true,if_neg hl];unfold spec_l20Wrap.f;exact Ev.bind e2 (Ev.now _)
   ·cases pthW st ([],[]) ps with
    |none=>exact Nat.zero_le _
    |some s=>
     unfold resW;by_cases q:s.2.length<=500
     ·simp only[if_pos q];have:=(srt_perm s.2).length_eq;omega
     ·simp only[if_neg q];exact Nat.zero_le _
end P
end Go.Proofs.YtgccknmddhbdgaaGreatDoor.Q
