import Derived.Test.YtgccknmddhbdgaaGreatDoorE28
import Derived.Test.YtgccknmddhbdgaaGreatDoorE05
namespace Go.Proofs.YtgccknmddhbdgaaGreatDoor.Q
open Go.RowKit W1 W2 W3
namespace P
def big:Nat:=281474976710656
theorem rdS_at(xs:List ByteArray)(i:Nat)(h:i<xs.length):rdOf ByteArray.empty xs (i:Int)=xs[i]:=by
 simp[rdOf,List.getD_eq_getElem?_getD,List.getElem?_eq_getElem h]
theorem set_map{α β:Type}(f:α->β)(z:β)(xs:List α)(i:Nat)(h:i<xs.length):((xs.take i).map f++List.replicate (xs.length - i) z).set i (f xs[i])=(xs.take (i+1)).map f++List.replicate (xs.length - (i+1)) z:=by
 have e:xs.take (i+1)=xs.take i++[xs[i]]:=by rw[List.take_add_one,List.getElem?_eq_getElem h];rfl
 obtain⟨m,hm⟩:∃m,xs.length - i=m+1:=⟨xs.length - i - 1,by omega⟩
 rw[e,hm,show xs.length - (i+1)=m by omega,List.replicate_succ,List.set_append_right _ _ (by simp;omega),List.length_map,List.length_take,Nat.min_eq_left (Nat.le_of_lt h),Nat.sub_self,List.set_cons_zero,List.map_append,List.append_assoc];rfl
theorem wsub{l:Int}{n:Nat}(h0:0<=l)(h1:l<=1048576)(h2:n<=big):wrap64 (l - (n:Int))=l - (n:Int):=by
 unfold big at h2;exact wrap64_small yo_ yo_
def Sz(g:Nat->Option Int)(left:Int)(P:Prop):Prop:=∃r,Ev g r/\(r<0\/(0<=r/\r<=left/\P))
theorem Sz.yes{left l:Int}{P:Prop}(h0:0<=l)(h1:l<=left)(h:P):Sz (fun _=>some l) left P:=⟨l,Ev.now _,Or.inr ⟨h0,h1,h⟩⟩
theorem Sz.str{g:Nat->Option Int}{G:Int->Nat->Option Int}{left:Int}{n:Nat}{P:Prop}(h0:0<=left)(h1:left<=1048576)(hn:n<=big)
 (hg:∀k,g k=if wrap64 (left - (n:Int))<0 then some (-1) else G (wrap64 (left - (n:Int))) k) (h:∀l,0<=l->l<=left->n<=1048576->Sz (G l) l P):Sz g left P:=by
 rw[wsub h0 h1 hn] at hg;by_cases c:left - (n:Int)<0
 ·exact⟨-1,Ev.congr (fun k=>(hg k).trans (if_pos c)) (Ev.now _),Or.inl yd_⟩
 ·obtain⟨r,e,hr⟩:=h (left - (n:Int)) yo_ yo_ yo_;refine⟨r,Ev.congr (fun k=>(hg k).trans (if_neg c)) e,?_⟩;rcases hr with hr|⟨a,b,c⟩
  ·exact Or.inl hr
  ·exact Or.inr ⟨a,by omega,c⟩
theorem Sz.sub{g f:Nat->Option Int}{G:Int->Nat->Option Int}{left:Int}{P Q:Prop}(hf:Sz f left Q)
 (hg:∀k,g k=(f k).bind fun t=>if t<0 then some (-1) else G t k) (h:∀l,0<=l->l<=left->Q->Sz (G l) l P):Sz g left P:=by
 obtain⟨r,e,hr⟩:=hf;by_cases c:r<0
 ·refine⟨-1,Ev.congr hg (Ev.bind e ?_),Or.inl yd_⟩;simp only[if_pos c];exact Ev.now _
 ·obtain⟨a,b,q⟩:=hr.resolve_left c;obtain⟨r',e',hr'⟩:=h r a b q;refine⟨r',Ev.congr hg (Ev.bind e ?_),?_⟩
  ·simp only[if_neg c];exact e'
  ·rcases hr' with hr'|⟨a',b',c'⟩
   ·exact Or.inl hr'
   ·exact Or.inr ⟨a',by omega,c'⟩
theorem Sz.mono{g:Nat->Option Int}{left:Int}{P Q:Prop}(h:Sz g left P)(hpq:P->Q):Sz g left Q:=by
 obtain⟨r,e,hr⟩:=h;exact⟨r,e,hr.imp id fun⟨a,b,c⟩=>⟨a,b,hpq c⟩⟩
abbrev LEntry:=S140
abbrev CEntry:=S63
abbrev zCEntry:CEntry:=z63
abbrev rdLEntry(xs:List LEntry)(i:Int):LEntry:=rd_T140 xs i
theorem rdLEntry_at(xs:List LEntry)(i:Nat)(h:i<xs.length):rdLEntry xs (i:Int)=xs[i]:=by
 show xs.getD i z140=_
 simp[List.getD_eq_getElem?_getD,List.getElem?_eq_getElem h]
abbrev rdCEntry(xs:List CEntry)(i:Int):CEntry:=qA xs i
theorem rdCEntry_at(xs:List CEntry)(i:Nat)(h:i<xs.length):rdCEntry xs (i:Int)=xs[i]:=by
 show xs.getD i z63=_
 simp[List.getD_eq_getElem?_getD,List.getElem?_eq_getElem h]
structure BEntry(x:LEntry):Prop where
 f0:x.f0.size<=big
 f2:x.f2.size<=big
structure SmallEntry(x:LEntry):Prop where
 f0:x.f0.size<=1048576
 f2:x.f2.size<=1048576
def cpEntry(x:LEntry):CEntry:=⟨x.f0,x.f1,x.f2,x.f3⟩
theorem szEntry_ok(x:LEntry)(hB:BEntry x)(left:Int)(h0:0<=left)(h1:left<=1048576):Sz (fun k=>laws_szEntry.f (x).f0 (x).f1 (x).f2 (x).f3 left) left (SmallEntry x):=by
 refine Sz.str (G:=fun l k=>if wrap64 (l - (x.f2.size:Int))<0 then some (-1) else some (wrap64 (l - (x.f2.size:Int)))) h0 yo_ hB.f0 (fun k=>rfl) fun l0 a0 b0 c0=>?_;refine Sz.str (G:=fun l k=>some l) a0 yo_ hB.f2 (fun k=>rfl) fun l2 a2 b2 c2=>?_;exact Sz.yes a2 (Int.le_refl _) ⟨c0,c2⟩
theorem toEntry_ok(x:LEntry)(hS:SmallEntry x):Ev (fun k=>laws_toEntry.f x.f0 x.f1 x.f2 x.f3) ((cpEntry x).f0,(cpEntry x).f1,(cpEntry x).f2,(cpEntry x).f3):=by
 unfold laws_toEntry.f;exact Ev.now _
structure FitEntry(x:CEntry):Prop where
 tt:True
theorem fitEntry(x:LEntry)(hS:SmallEntry x):FitEntry (cpEntry x):=
 ⟨trivial⟩
theorem eqEntry_ok(x:CEntry)(hF:FitEntry x):Ev (fun k=>laws_eqEntry.f x.f0 x.f1 x.f2 x.f3 x.f0 x.f1 x.f2 x.f3) true:=by
 unfold laws_eqEntry.f;simp only[if_true,bne_self_eq_false,Bool.false_eq_true,if_false];exact Ev.now _
structure BEntryS(t:List LEntry):Prop where
 len:t.length<=big
 all:∀x ∈ t,BEntry x
structure SmallEntryS(t:List LEntry):Prop where
 len:t.length<=1048576
 all:∀x ∈ t,SmallEntry x
theorem szEntryS_l(t:List LEntry)(hB:BEntryS t)(hl:t.length<=1048576):∀(d i:Nat) (left:Int),t.length=i+d->0<=left->left<=1048576->Sz (fun k=>laws_szEntryS.l0 k t left (i:Int)) left (∀j:Nat,i<=j->(h:j<t.length)->SmallEntry (t[j]'h))
 |0,i,left,h,h0,h1=>by
  refine⟨left,Ev.step (fun k=>by rw[laws_szEntryS.l0]) ?_,Or.inr ⟨h0,Int.le_refl _,fun j a b=>by omega⟩⟩;simp only[if_neg (show¬(i:Int)<t.length by omega)];exact Ev.now _
 |d+1,i,left,h,h0,h1=>by
  have hi:i<t.length:=by omega
  have hb:BEntry (rdLEntry t (i:Int)):=by rw[rdLEntry_at t i hi];exact hB.all _ (List.getElem_mem hi)
  have hw:wrap64 ((i:Int)+1)=((i+1:Nat):Int):=w64n yo_;have hX:Sz (fun k=>(laws_szEntry.f (rdLEntry t (i:Int)).f0 (rdLEntry t (i:Int)).f1 (rdLEntry t (i:Int)).f2 (rdLEntry t (i:Int)).f3 left).bind fun t_=>if t_<0 then some (-1) else laws_szEntryS.l0 k t t_ ((i+1:Nat):Int)) left (∀j:Nat,i<=j->(h:j<t.length)->SmallEntry (t[j]'h)):=by
   refine Sz.sub (G:=fun l k=>laws_szEntryS.l0 k t l ((i+1:Nat):Int)) (szEntry_ok _ hb left h0 h1) (fun k=>rfl) fun l a b c=>?_;refine(szEntryS_l t hB hl d (i+1) l yo_ a yo_).mono fun h=>?_;intro j h1 h2;rcases Nat.lt_or_eq_of_le h1 with h3|h3
   ·exact h j h3 h2
   ·subst h3;rw[<-rdLEntry_at t i h2];exact c
  obtain⟨r,e,hr⟩:=hX;refine⟨r,Ev.step (fun k=>by rw[laws_szEntryS.l0]) ?_,hr⟩;simp only[if_pos (show(i:Int)<t.length by omega),if_pos (show(0:Int)<=i by omega),hw];exact e
theorem szEntryS_ok(t:List LEntry)(hB:BEntryS t)(left:Int)(h0:0<=left)(h1:left<=1048576):Sz (fun k=>laws_szEntryS.f k t left) left (SmallEntryS t):=by
 refine Sz.str (G:=fun l k=>laws_szEntryS.l0 k t l 0) h0 h1 hB.len (fun k=>rfl) fun l a b c=>?_;refine(szEntryS_l t hB c t.length 0 l yo_ a yo_).mono fun h=>⟨c,fun x hx=>?_⟩
 obtain⟨j,hj,rfl⟩:=List.mem_iff_getElem.1 hx;exact h j (Nat.zero_le _) hj
theorem toEntryS_l(t:List LEntry)(hS:SmallEntryS t):∀d i:Nat,t.length=i+d->Ev (fun k=>laws_toEntryS.l0 k t ((t.take i).map cpEntry++List.replicate (t.length - i) zCEntry) (i:Int)) (t.map cpEntry)
 |0,i,h=>by
  refine Ev.step (fun k=>by rw[laws_toEntryS.l0]) ?_;simp only[if_neg (show¬(i:Int)<t.length by omega),List.take_of_length_le (show t.length<=i by omega),show t.length - i=0 by omega,List.replicate_zero,List.append_nil];exact Ev.now _
 |d+1,i,h=>by
  have hi:i<t.length:=by omega
  have hl:=hS.len;have ih:=toEntryS_l t hS d (i+1) yo_;rw[<-set_map cpEntry zCEntry t i hi,<-rdLEntry_at t i hi] at ih;have hc:(i:Int)<(((t.take i).map cpEntry++List.replicate (t.length - i) zCEntry).length:Int):=by simp;omega
  have hw:wrap64 ((i:Int)+1)=((i+1:Nat):Int):=w64n yo_;refine Ev.step (fun k=>by rw[laws_toEntryS.l0]) ?_;simp only[if_pos (show(i:Int)<t.length by omega),if_pos (show(0:Int)<=i by omega)];refine Ev.bind (toEntry_ok (rdLEntry t (i:Int)) (by rw[rdLEntry_at t i hi];exact hS.all _ (List.getElem_mem hi))) ?_;simp only[if_pos hc,hw,Int.toNat_natCast];exact ih
theorem toEntryS_ok(t:List LEntry)(hS:SmallEntryS t):Ev (fun k=>laws_toEntryS.f k t) (t.map cpEntry):=by
 have hl:=hS.len;have:=toEntryS_l t hS t.length 0 yo_;rw[List.take_zero,List.map_nil,List.nil_append,Nat.sub_zero] at this;unfold laws_toEntryS.f;simp only[Int.toNat_natCast,if_pos (show(0:Int)<=(t.length:Int) by omega)];refine Ev.congr (fun k=>if_pos yo_) ?_;exact this
theorem eqEntryS_l(t:List CEntry)(hl:t.length<=1048576)(ha:∀x ∈ t,FitEntry x):∀d i:Nat,t.length=i+d->Ev (fun k=>laws_eqEntryS.l0 k t t (i:Int)) true
 |0,i,h=>by
  refine Ev.step (fun k=>by rw[laws_eqEntryS.l0]) ?_;simp only[if_neg (show¬(i:Int)<t.length by omega)];exact Ev.now _
 |d+1,i,h=>by
  have hw:wrap64 ((i:Int)+1)=((i+1:Nat):Int):=w64n yo_;refine Ev.step (fun k=>by rw[laws_eqEntryS.l0]) ?_;simp only[if_pos (show(i:Int)<t.length by omega),if_pos (show(0:Int)<=i by omega),hw];refine Ev.bind (eqEntry_ok (rdCEntry t (i:Int)) (by rw[rdCEntry_at t i yo_];exact ha _ (List.getElem_mem _))) ?_;simp only[if_true];exact eqEntryS_l t hl ha d (i+1) yo_
theorem eqEntryS_ok(t:List CEntry)(hl:t.length<=1048576)(ha:∀x ∈ t,FitEntry x):Ev (fun k=>laws_eqEntryS.f k t t) true:=by
 unfold laws_eqEntryS.f;simp only[if_true];exact eqEntryS_l t hl ha t.length 0 yo_
structure BStringS(t:List ByteArray):Prop where
 len:t.length<=big
 all:∀x ∈ t,x.size<=big
structure SmallStringS(t:List ByteArray):Prop where
 len:t.length<=1048576
 all:∀x ∈ t,x.size<=1048576
theorem szStringS_l(t:List ByteArray)(hB:BStringS t)(hl:t.length<=1048576):∀(d i:Nat) (left:Int),t.length=i+d->0<=left->left<=1048576->Sz (fun k=>laws_szStringS.l0 k t left (i:Int)) left (∀j:Nat,i<=j->(h:j<t.length)->(t[j]'h).size<=1048576)
 |0,i,left,h,h0,h1=>by
  refine⟨left,Ev.step (fun k=>by rw[laws_szStringS.l0]) ?_,Or.inr ⟨h0,Int.le_refl _,fun j a b=>by omega⟩⟩;simp only[if_neg (show¬(i:Int)<t.length by omega)];exact Ev.now _
 |d+1,i,left,h,h0,h1=>by
  have hi:i<t.length:=by omega
  have hb:(rdOf ByteArray.empty t (i:Int)).size<=big:=by rw[rdS_at t i hi];exact hB.all _ (List.getElem_mem hi)
  have hw:wrap64 ((i:Int)+1)=((i+1:Nat):Int):=w64n yo_;have hX:Sz (fun k=>if wrap64 (left - ((rdOf ByteArray.empty t (i:Int)).size:Int))<0 then some (-1) else laws_szStringS.l0 k t (wrap64 (left - ((rdOf ByteArray.empty t (i:Int)).size:Int))) ((i+1:Nat):Int)) left (∀j:Nat,i<=j->(h:j<t.length)->(t[j]'h).size<=1048576):=by
   refine Sz.str (G:=fun l k=>laws_szStringS.l0 k t l ((i+1:Nat):Int)) h0 h1 hb (fun k=>rfl) fun l a b c=>?_;refine(szStringS_l t hB hl d (i+1) l yo_ a yo_).mono fun h=>?_;intro j h1 h2;rcases Nat.lt_or_eq_of_le h1 with h3|h3
   ·exact h j h3 h2
   ·subst h3;rw[<-rdS_at t i h2];exact c
  obtain⟨r,e,hr⟩:=hX;refine⟨r,Ev.step (fun k=>by rw[laws_szStringS.l0]) ?_,hr⟩;simp only[if_pos (show(i:Int)<t.length by omega),if_pos (show(0:Int)<=i by omega),hw];exact e
theorem szStringS_ok(t:List ByteArray)(hB:BStringS t)(left:Int)(h0:0<=left)(h1:left<=1048576):Sz (fun k=>laws_szStringS.f k t left) left (SmallStringS t):=by
 refine Sz.str (G:=fun l k=>laws_szStringS.l0 k t l 0) h0 h1 hB.len (fun k=>rfl) fun l a b c=>?_;refine(szStringS_l t hB c t.length 0 l yo_ a yo_).mono fun h=>⟨c,fun x hx=>?_⟩
 obtain⟨j,hj,rfl⟩:=List.mem_iff_getElem.1 hx;exact h j (Nat.zero_le _) hj
theorem toStringS_l(t:List ByteArray)(hS:SmallStringS t):∀d i:Nat,t.length=i+d->Ev (fun k=>laws_toStringS.l0 k t ((t.take i).map id++List.replicate (t.length - i) (⟨#[]⟩:ByteArray)) (i:Int)) (t.map id)
 |0,i,h=>by
  refine Ev.step (fun k=>by rw[laws_toStringS.l0]) ?_;simp only[if_neg (show¬(i:Int)<t.length by omega),List.take_of_length_le (show t.length<=i by omega),show t.length - i=0 by omega,List.replicate_zero,List.append_nil];exact Ev.now _
 |d+1,i,h=>by
  have hi:i<t.length:=by omega
  have hl:=hS.len;have ih:=toStringS_l t hS d (i+1) yo_;rw[<-set_map id (⟨#[]⟩:ByteArray) t i hi,<-rdS_at t i hi,id] at ih;have hc:(i:Int)<(((t.take i).map id++List.replicate (t.length - i) (⟨#[]⟩:ByteArray)).length:Int):=by simp;omega
  have hw:wrap64 ((i:Int)+1)=((i+1:Nat):Int):=w64n yo_;refine Ev.step (fun k=>by rw[laws_toStringS.l0]) ?_;simp only[if_pos (show(i:Int)<t.length by omega),if_pos (show(0:Int)<=i by omega)];simp only[if_pos hc,hw,Int.toNat_natCast];exact ih
theorem toStringS_ok(t:List ByteArray)(hS:SmallStringS t):Ev (fun k=>laws_toStringS.f k t) (t.map id):=by
 have hl:=hS.len;have:=toStringS_l t hS t.length 0 yo_;rw[List.take_zero,List.map_nil,List.nil_append,Nat.sub_zero] at this;unfold laws_toStringS.f;simp only[Int.toNat_natCast,if_pos (show(0:Int)<=(t.length:Int) by omega)];refine Ev.congr (fun k=>if_pos yo_) ?_;exact this
theorem eqStringS_l(t:List ByteArray)(hl:t.length<=1048576):∀d i:Nat,t.length=i+d->Ev (fun k=>laws_eqStringS.l0 k t t (i:Int)) true
 |0,i,h=>by
  refine Ev.step (fun k=>by rw[laws_eqStringS.l0]) ?_;simp only[if_neg (show¬(i:Int)<t.length by omega)];exact Ev.now _
 |d+1,i,h=>by
  have hw:wrap64 ((i:Int)+1)=((i+1:Nat):Int):=w64n yo_;refine Ev.step (fun k=>by rw[laws_eqStringS.l0]) ?_;simp only[if_pos (show(i:Int)<t.length by omega),if_pos (show(0:Int)<=i by omega),hw,if_true];exact eqStringS_l t hl d (i+1) yo_
theorem eqStringS_ok(t:List ByteArray)(hl:t.length<=1048576):Ev (fun k=>laws_eqStringS.f k t t) true:=by
 unfold laws_eqStringS.f;simp only[if_true];exact eqStringS_l t hl t.length 0 yo_
abbrev LItem:=S79
abbrev CItem:=S61
abbrev zCItem:CItem:=z61
abbrev rdLItem(xs:List LItem)(i:Int):LItem:=rd_T79 xs i
theorem rdLItem_at(xs:List LItem)(i:Nat)(h:i<xs.length):rdLItem xs (i:Int)=xs[i]:=by
 show xs.getD i z79=_
 simp[List.getD_eq_getElem?_getD,List.getElem?_eq_getElem h]
abbrev rdCItem(xs:List CItem)(i:Int):CItem:=qC xs i
theorem rdCItem_at(xs:List CItem)(i:Nat)(h:i<xs.length):rdCItem xs (i:Int)=xs[i]:=by
 show xs.getD i z61=_
 simp[List.getD_eq_getElem?_getD,List.getElem?_eq_getElem h]
structure BItem(x:LItem):Prop where
 f0:x.f0.size<=big
 f1:x.f1.size<=big
 f2:BStringS x.f2
 f3:x.f3.size<=big
 f4:BEntryS x.f4
structure SmallItem(x:LItem):Prop where
 f0:x.f0.size<=1048576
 f1:x.f1.size<=1048576
 f2:SmallStringS x.f2
 f3:x.f3.size<=1048576
 f4:SmallEntryS x.f4
def cpItem(x:LItem):CItem:=⟨x.f0,x.f1,x.f2,x.f3,x.f4.map cpEntry⟩
theorem szItem_ok(x:LItem)(hB:BItem x)(left:Int)(h0:0<=left)(h1:left<=1048576):Sz (fun k=>laws_szItem.f k (x).f0 (x).f1 (x).f2 (x).f3 (x).f4 left) left (SmallItem x):=by
 refine Sz.str (G:=fun l k=>if wrap64 (l - (x.f1.size:Int))<0 then some (-1) else(laws_szStringS.f k x.f2 (wrap64 (l - (x.f1.size:Int)))).bind fun t2=>if t2<0 then some (-1) else if wrap64 (t2 - (x.f3.size:Int))<0 then some (-1) else(laws_szEntryS.f k x.f4 (wrap64 (t2 - (x.f3.size:Int)))).bind fun t4=>if t4<0 then some (-1) else some t4) h0 yo_ hB.f0 (fun k=>rfl) fun l0 a0 b0 c0=>?_;refine Sz.str (G:=fun l k=>(laws_szStringS.f k x.f2 l).bind fun t2=>if t2<0 then some (-1) else if wrap64 (t2 - (x.f3.size:Int))<0 then some (-1) else(laws_szEntryS.f k x.f4 (wrap64 (t2 - (x.f3.size:Int)))).bind fun t4=>if t4<0 then some (-1) else some t4) a0 yo_ hB.f1 (fun k=>rfl) fun l1 a1 b1 c1=>?_;refine Sz.sub (G:=fun l k=>if wrap64 (l - (x.f3.size:Int))<0 then some (-1) else(laws_szEntryS.f k x.f4 (wrap64 (l - (x.f3.size:Int)))).bind fun t4=>if t4<0 then some (-1) else some t4) (szStringS_ok x.f2 hB.f2 l1 a1 yo_) (fun k=>rfl) fun l2 a2 b2 c2=>?_;refine Sz.str (G:=fun l k=>(laws_szEntryS.f k x.f4 l).bind fun t4=>if t4<0 then some (-1) else some t4) a2 yo_ hB.f3 (fun k=>rfl) fun l3 a3 b3 c3=>?_;refine Sz.sub (G:=fun l k=>some l) (szEntryS_ok x.f4 hB.f4 l3 a3 yo_) (fun k=>rfl) fun l4 a4 b4 c4=>?_;exact Sz.yes a4 (Int.le_refl _) ⟨c0,c1,c2,c3,c4⟩
theorem toItem_ok(x:LItem)(hS:SmallItem x):Ev (fun k=>laws_toItem.f k x.f0 x.f1 x.f2 x.f3 x.f4) ((cpItem x).f0,(cpItem x).f1,(cpItem x).f2,(cpItem x).f3,(cpItem x).f4):=by
 unfold laws_toItem.f;refine Ev.bind (toStringS_ok _ hS.f2) ?_;refine Ev.bind (toEntryS_ok _ hS.f4) ?_;simp only[List.map_id];exact Ev.now _
structure FitItem(x:CItem):Prop where
 f2:x.f2.length<=1048576
 f4:x.f4.length<=1048576/\∀y ∈ x.f4,FitEntry y
theorem fitItem(x:LItem)(hS:SmallItem x):FitItem (cpItem x):=
 ⟨hS.f2.len,⟨by simpa[cpItem] using hS.f4.len,fun y hy=>by obtain⟨z,hz,rfl⟩:=List.mem_map.1 hy;exact fitEntry z (hS.f4.all z hz)⟩⟩
theorem eqItem_ok(x:CItem)(hF:FitItem x):Ev (fun k=>laws_eqItem.f k x.f0 x.f1 x.f2 x.f3 x.f4 x.f0 x.f1 x.f2 x.f3 x.f4) true:=by
 unfold laws_eqItem.f;simp only[if_true,bne_self_eq_false,Bool.false_eq_true,if_false];refine Ev.bind (eqStringS_ok _ hF.f2) ?_;simp only[if_true,bne_self_eq_false,Bool.false_eq_true,if_false];refine Ev.bind (eqEntryS_ok _ hF.f4.1 hF.f4.2) ?_;simp only[if_true,bne_self_eq_false,Bool.false_eq_true,if_false];exact Ev.now _
structure BItemS(t:List LItem):Prop where
 len:t.length<=big
 all:∀x ∈ t,BItem x
structure SmallItemS(t:List LItem):Prop where
 len:t.length<=1048576
 all:∀x ∈ t,SmallItem x
theorem szItemS_l(t:List LItem)(hB:BItemS t)(hl:t.length<=1048576):∀(d i:Nat) (left:Int),t.length=i+d->0<=left->left<=1048576->Sz (fun k=>laws_szItemS.l0 k t left (i:Int)) left (∀j:Nat,i<=j->(h:j<t.length)->SmallItem (t[j]'h))
 |0,i,left,h,h0,h1=>by
  refine⟨left,Ev.step (fun k=>by rw[laws_szItemS.l0]) ?_,Or.inr ⟨h0,Int.le_refl _,fun j a b=>by omega⟩⟩;simp only[if_neg (show¬(i:Int)<t.length by omega)];exact Ev.now _
 |d+1,i,left,h,h0,h1=>by
  have hi:i<t.length:=by omega
  have hb:BItem (rdLItem t (i:Int)):=by rw[rdLItem_at t i hi];exact hB.all _ (List.getElem_mem hi)
  have hw:wrap64 ((i:Int)+1)=((i+1:Nat):Int):=w64n yo_;have hX:Sz (fun k=>(laws_szItem.f k (rdLItem t (i:Int)).f0 (rdLItem t (i:Int)).f1 (rdLItem t (i:Int)).f2 (rdLItem t (i:Int)).f3 (rdLItem t (i:Int)).f4 left).bind fun t_=>if t_<0 then some (-1) else laws_szItemS.l0 k t t_ ((i+1:Nat):Int)) left (∀j:Nat,i<=j->(h:j<t.length)->SmallItem (t[j]'h)):=by
   refine Sz.sub (G:=fun l k=>laws_szItemS.l0 k t l ((i+1:Nat):Int)) (szItem_ok _ hb left h0 h1) (fun k=>rfl) fun l a b c=>?_;refine(szItemS_l t hB hl d (i+1) l yo_ a yo_).mono fun h=>?_;intro j h1 h2;rcases Nat.lt_or_eq_of_le h1 with h3|h3
   ·exact h j h3 h2
   ·subst h3;rw[<-rdLItem_at t i h2];exact c
  obtain⟨r,e,hr⟩:=hX;refine⟨r,Ev.step (fun k=>by rw[laws_szItemS.l0]) ?_,hr⟩;simp only[if_pos (show(i:Int)<t.length by omega),if_pos (show(0:Int)<=i by omega),hw];exact e
theorem szItemS_ok(t:List LItem)(hB:BItemS t)(left:Int)(h0:0<=left)(h1:left<=1048576):Sz (fun k=>laws_szItemS.f k t left) left (SmallItemS t):=by
 refine Sz.str (G:=fun l k=>laws_szItemS.l0 k t l 0) h0 h1 hB.len (fun k=>rfl) fun l a b c=>?_;refine(szItemS_l t hB c t.length 0 l yo_ a yo_).mono fun h=>⟨c,fun x hx=>?_⟩
 obtain⟨j,hj,rfl⟩:=List.mem_iff_getElem.1 hx;exact h j (Nat.zero_le _) hj
theorem toItemS_l(t:List LItem)(hS:SmallItemS t):∀d i:Nat,t.length=i+d->Ev (fun k=>laws_toItemS.l0 k t ((t.take i).map cpItem++List.replicate (t.length - i) zCItem) (i:Int)) (t.map cpItem)
 |0,i,h=>by
  refine Ev.step (fun k=>by rw[laws_toItemS.l0]) ?_;simp only[if_neg (show¬(i:Int)<t.length by omega),List.take_of_length_le (show t.length<=i by omega),show t.length - i=0 by omega,List.replicate_zero,List.append_nil];exact Ev.now _
 |d+1,i,h=>by
  have hi:i<t.length:=by omega
  have hl:=hS.len;have ih:=toItemS_l t hS d (i+1) yo_;rw[<-set_map cpItem zCItem t i hi,<-rdLItem_at t i hi] at ih;have hc:(i:Int)<(((t.take i).map cpItem++List.replicate (t.length - i) zCItem).length:Int):=by simp;omega
  have hw:wrap64 ((i:Int)+1)=((i+1:Nat):Int):=w64n yo_;refine Ev.step (fun k=>by rw[laws_toItemS.l0]) ?_;simp only[if_pos (show(i:Int)<t.length by omega),if_pos (show(0:Int)<=i by omega)];refine Ev.bind (toItem_ok (rdLItem t (i:Int)) (by rw[rdLItem_at t i hi];exact hS.all _ (List.getElem_mem hi))) ?_;simp only[if_pos hc,hw,Int.toNat_natCast];exact ih
theorem toItemS_ok(t:List LItem)(hS:SmallItemS t):Ev (fun k=>laws_toItemS.f k t) (t.map cpItem):=by
 have hl:=hS.len;have:=toItemS_l t hS t.length 0 yo_;rw[List.take_zero,List.map_nil,List.nil_append,Nat.sub_zero] at this;unfold laws_toItemS.f;simp only[Int.toNat_natCast,if_pos (show(0:Int)<=(t.length:Int) by omega)];refine Ev.congr (fun k=>if_pos yo_) ?_;exact this
theorem eqItemS_l(t:List CItem)(hl:t.length<=1048576)(ha:∀x ∈ t,FitItem x):∀d i:Nat,t.length=i+d->Ev (fun k=>laws_eqItemS.l0 k t t (i:Int)) true
 |0,i,h=>by
  refine Ev.step (fun k=>by rw[laws_eqItemS.l0]) ?_;simp only[if_neg (show¬(i:Int)<t.length by omega)];exact Ev.now _
 |d+1,i,h=>by
  have hw:wrap64 ((i:Int)+1)=((i+1:Nat):Int):=w64n yo_;refine Ev.step (fun k=>by rw[laws_eqItemS.l0]) ?_;simp only[if_pos (show(i:Int)<t.length by omega),if_pos (show(0:Int)<=i by omega),hw];refine Ev.bind (eqItem_ok (rdCItem t (i:Int)) (by rw[rdCItem_at t i yo_];exact ha _ (List.getElem_mem _))) ?_;simp only[if_true];exact eqItemS_l t hl ha d (i+1) yo_
theorem eqItemS_ok(t:List CItem)(hl:t.length<=1048576)(ha:∀x ∈ t,FitItem x):Ev (fun k=>laws_eqItemS.f k t t) true:=by
 unfold laws_eqItemS.f;simp only[if_true];exact eqItemS_l t hl ha t.length 0 yo_
abbrev LGen:=S142
abbrev CGen:=S101
abbrev zCGen:CGen:=z101
abbrev rdLGen(xs:List LGen)(i:Int):LGen:=rd_T142 xs i
theorem rdLGen_at(xs:List LGen)(i:Nat)(h:i<xs.length):rdLGen xs (i:Int)=xs[i]:=by
 show xs.getD i z142=_
 simp[List.getD_eq_getElem?_getD,List.getElem?_eq_getElem h]
abbrev rdCGen(xs:List CGen)(i:Int):CGen:=qN xs i
theorem rdCGen_at(xs:List CGen)(i:Nat)(h:i<xs.length):rdCGen xs (i:Int)=xs[i]:=by
 show xs.getD i z101=_
 simp[List.getD_eq_getElem?_getD,List.getElem?_eq_getElem h]
structure BGen(x:LGen):Prop where
 f1:x.f1.size<=big
structure SmallGen(x:LGen):Prop where
 f1:x.f1.size<=1048576
def cpGen(x:LGen):CGen:=⟨x.f0,x.f1⟩
theorem szGen_ok(x:LGen)(hB:BGen x)(left:Int)(h0:0<=left)(h1:left<=1048576):Sz (fun k=>laws_szGen.f (x).f0 (x).f1 left) left (SmallGen x):=by
 refine Sz.str (G:=fun l k=>some l) h0 yo_ hB.f1 (fun k=>rfl) fun l1 a1 b1 c1=>?_;exact Sz.yes a1 (Int.le_refl _) ⟨c1⟩
theorem toGen_ok(x:LGen)(hS:SmallGen x):Ev (fun k=>laws_toGen.f x.f0 x.f1) ((cpGen x).f0,(cpGen x).f1):=by
 unfold laws_toGen.f;exact Ev.now _
structure FitGen(x:CGen):Prop where
 tt:True
theorem fitGen(x:LGen)(hS:SmallGen x):FitGen (cpGen x):=
 ⟨trivial⟩
theorem eqGen_ok(x:CGen)(hF:FitGen x):Ev (fun k=>laws_eqGen.f x.f0 x.f1 x.f0 x.f1) true:=by
 unfold laws_eqGen.f;simp only[if_true,bne_self_eq_false,Bool.false_eq_true,if_false];exact Ev.now _
structure BGenS(t:List LGen):Prop where
 len:t.length<=big
 all:∀x ∈ t,BGen x
structure SmallGenS(t:List LGen):Prop where
 len:t.length<=1048576
 all:∀x ∈ t,SmallGen x
theorem szGenS_l(t:List LGen)(hB:BGenS t)(hl:t.length<=1048576):∀(d i:Nat) (left:Int),t.length=i+d->0<=left->left<=1048576->Sz (fun k=>laws_szGenS.l0 k t left (i:Int)) left (∀j:Nat,i<=j->(h:j<t.length)->SmallGen (t[j]'h))
 |0,i,left,h,h0,h1=>by
  refine⟨left,Ev.step (fun k=>by rw[laws_szGenS.l0]) ?_,Or.inr ⟨h0,Int.le_refl _,fun j a b=>by omega⟩⟩;simp only[if_neg (show¬(i:Int)<t.length by omega)];exact Ev.now _
 |d+1,i,left,h,h0,h1=>by
  have hi:i<t.length:=by omega
  have hb:BGen (rdLGen t (i:Int)):=by rw[rdLGen_at t i hi];exact hB.all _ (List.getElem_mem hi)
  have hw:wrap64 ((i:Int)+1)=((i+1:Nat):Int):=w64n yo_;have hX:Sz (fun k=>(laws_szGen.f (rdLGen t (i:Int)).f0 (rdLGen t (i:Int)).f1 left).bind fun t_=>if t_<0 then some (-1) else laws_szGenS.l0 k t t_ ((i+1:Nat):Int)) left (∀j:Nat,i<=j->(h:j<t.length)->SmallGen (t[j]'h)):=by
   refine Sz.sub (G:=fun l k=>laws_szGenS.l0 k t l ((i+1:Nat):Int)) (szGen_ok _ hb left h0 h1) (fun k=>rfl) fun l a b c=>?_;refine(szGenS_l t hB hl d (i+1) l yo_ a yo_).mono fun h=>?_;intro j h1 h2;rcases Nat.lt_or_eq_of_le h1 with h3|h3
   ·exact h j h3 h2
   ·subst h3;rw[<-rdLGen_at t i h2];exact c
  obtain⟨r,e,hr⟩:=hX;refine⟨r,Ev.step (fun k=>by rw[laws_szGenS.l0]) ?_,hr⟩;simp only[if_pos (show(i:Int)<t.length by omega),if_pos (show(0:Int)<=i by omega),hw];exact e
theorem szGenS_ok(t:List LGen)(hB:BGenS t)(left:Int)(h0:0<=left)(h1:left<=1048576):Sz (fun k=>laws_szGenS.f k t left) left (SmallGenS t):=by
 refine Sz.str (G:=fun l k=>laws_szGenS.l0 k t l 0) h0 h1 hB.len (fun k=>rfl) fun l a b c=>?_;refine(szGenS_l t hB c t.length 0 l yo_ a yo_).mono fun h=>⟨c,fun x hx=>?_⟩
 obtain⟨j,hj,rfl⟩:=List.mem_iff_getElem.1 hx;exact h j (Nat.zero_le _) hj
theorem toGenS_l(t:List LGen)(hS:SmallGenS t):∀d i:Nat,t.length=i+d->Ev (fun k=>laws_toGenS.l0 k t ((t.take i).map cpGen++List.replicate (t.length - i) zCGen) (i:Int)) (t.map cpGen)
 |0,i,h=>by
  refine Ev.step (fun k=>by rw[laws_toGenS.l0]) ?_;simp only[if_neg (show¬(i:Int)<t.length by omega),List.take_of_length_le (show t.length<=i by omega),show t.length - i=0 by omega,List.replicate_zero,List.append_nil];exact Ev.now _
 |d+1,i,h=>by
  have hi:i<t.length:=by omega
  have hl:=hS.len;have ih:=toGenS_l t hS d (i+1) yo_;rw[<-set_map cpGen zCGen t i hi,<-rdLGen_at t i hi] at ih;have hc:(i:Int)<(((t.take i).map cpGen++List.replicate (t.length - i) zCGen).length:Int):=by simp;omega
  have hw:wrap64 ((i:Int)+1)=((i+1:Nat):Int):=w64n yo_;refine Ev.step (fun k=>by rw[laws_toGenS.l0]) ?_;simp only[if_pos (show(i:Int)<t.length by omega),if_pos (show(0:Int)<=i by omega)];refine Ev.bind (toGen_ok (rdLGen t (i:Int)) (by rw[rdLGen_at t i hi];exact hS.all _ (List.getElem_mem hi))) ?_;simp only[if_pos hc,hw,Int.toNat_natCast];exact ih
theorem toGenS_ok(t:List LGen)(hS:SmallGenS t):Ev (fun k=>laws_toGenS.f k t) (t.map cpGen):=by
 have hl:=hS.len;have:=toGenS_l t hS t.length 0 yo_;rw[List.take_zero,List.map_nil,List.nil_append,Nat.sub_zero] at this;unfold laws_toGenS.f;simp only[Int.toNat_natCast,if_pos (show(0:Int)<=(t.length:Int) by omega)];refine Ev.congr (fun k=>if_pos yo_) ?_;exact this
theorem eqGenS_l(t:List CGen)(hl:t.length<=1048576)(ha:∀x ∈ t,FitGen x):∀d i:Nat,t.length=i+d->Ev (fun k=>laws_eqGenS.l0 k t t (i:Int)) true
 |0,i,h=>by
  refine Ev.step (fun k=>by rw[laws_eqGenS.l0]) ?_;simp only[if_neg (show¬(i:Int)<t.length by omega)];exact Ev.now _
 |d+1,i,h=>by
  have hw:wrap64 ((i:Int)+1)=((i+1:Nat):Int):=w64n yo_;refine Ev.step (fun k=>by rw[laws_eqGenS.l0]) ?_;simp only[if_pos (show(i:Int)<t.length by omega),if_pos (show(0:Int)<=i by omega),hw];refine Ev.bind (eqGen_ok (rdCGen t (i:Int)) (by rw[rdCGen_at t i yo_];exact ha _ (List.getElem_mem _))) ?_;simp only[if_true];exact eqGenS_l t hl ha d (i+1) yo_
theorem eqGenS_ok(t:List CGen)(hl:t.length<=1048576)(ha:∀x ∈ t,FitGen x):Ev (fun k=>laws_eqGenS.f k t t) true:=by
 unfold laws_eqGenS.f;simp only[if_true];exact eqGenS_l t hl ha t.length 0 yo_
abbrev LProfile:=S83
abbrev CProfile:=S99
abbrev zCProfile:CProfile:=z99
abbrev rdLProfile(xs:List LProfile)(i:Int):LProfile:=rd_T83 xs i
theorem rdLProfile_at(xs:List LProfile)(i:Nat)(h:i<xs.length):rdLProfile xs (i:Int)=xs[i]:=by
 show xs.getD i z83=_
 simp[List.getD_eq_getElem?_getD,List.getElem?_eq_getElem h]
abbrev rdCProfile(xs:List CProfile)(i:Int):CProfile:=qF xs i
theorem rdCProfile_at(xs:List CProfile)(i:Nat)(h:i<xs.length):rdCProfile xs (i:Int)=xs[i]:=by
 show xs.getD i z99=_
 simp[List.getD_eq_getElem?_getD,List.getElem?_eq_getElem h]
structure BProfile(x:LProfile):Prop where
 f0:x.f0.size<=big
 f2:BGenS x.f2
structure SmallProfile(x:LProfile):Prop where
 f0:x.f0.size<=1048576
 f2:SmallGenS x.f2
def cpProfile(x:LProfile):CProfile:=⟨x.f0,x.f1,x.f2.map cpGen⟩
theorem szProfile_ok(x:LProfile)(hB:BProfile x)(left:Int)(h0:0<=left)(h1:left<=1048576):Sz (fun k=>laws_szProfile.f k (x).f0 (x).f1 (x).f2 left) left (SmallProfile x):=by
 refine Sz.str (G:=fun l k=>(laws_szGenS.f k x.f2 l).bind fun t2=>if t2<0 then some (-1) else some t2) h0 yo_ hB.f0 (fun k=>rfl) fun l0 a0 b0 c0=>?_;refine Sz.sub (G:=fun l k=>some l) (szGenS_ok x.f2 hB.f2 l0 a0 yo_) (fun k=>rfl) fun l2 a2 b2 c2=>?_;exact Sz.yes a2 (Int.le_refl _) ⟨c0,c2⟩
theorem toProfile_ok(x:LProfile)(hS:SmallProfile x):Ev (fun k=>laws_toProfile.f k x.f0 x.f1 x.f2) ((cpProfile x).f0,(cpProfile x).f1,(cpProfile x).f2):=by
 unfold laws_toProfile.f;refine Ev.bind (toGenS_ok _ hS.f2) ?_;exact Ev.now _
structure FitProfile(x:CProfile):Prop where
 f2:x.f2.length<=1048576/\∀y ∈ x.f2,FitGen y
theorem fitProfile(x:LProfile)(hS:SmallProfile x):FitProfile (cpProfile x):=
 ⟨⟨by simpa[cpProfile] using hS.f2.len,fun y hy=>by obtain⟨z,hz,rfl⟩:=List.mem_map.1 hy;exact fitGen z (hS.f2.all z hz)⟩⟩
theorem eqProfile_ok(x:CProfile)(hF:FitProfile x):Ev (fun k=>laws_eqProfile.f k x.f0 x.f1 x.f2 x.f0 x.f1 x.f2) true:=by
 unfold laws_eqProfile.f;simp only[if_true,bne_self_eq_false,Bool.false_eq_true,if_false];refine Ev.bind (eqGenS_ok _ hF.f2.1 hF.f2.2) ?_;simp only[if_true,bne_self_eq_false,Bool.false_eq_true,if_false];exact Ev.now _
structure BProfileS(t:List LProfile):Prop where
 len:t.length<=big
 all:∀x ∈ t,BProfile x
structure SmallProfileS(t:List LProfile):Prop where
 len:t.length<=1048576
 all:∀x ∈ t,SmallProfile x
theorem szProfileS_l(t:List LProfile)(hB:BProfileS t)(hl:t.length<=1048576):∀(d i:Nat) (left:Int),t.length=i+d->0<=left->left<=1048576->Sz (fun k=>laws_szProfileS.l0 k t left (i:Int)) left (∀j:Nat,i<=j->(h:j<t.length)->SmallProfile (t[j]'h))
 |0,i,left,h,h0,h1=>by
  refine⟨left,Ev.step (fun k=>by rw[laws_szProfileS.l0]) ?_,Or.inr ⟨h0,Int.le_refl _,fun j a b=>by omega⟩⟩;simp only[if_neg (show¬(i:Int)<t.length by omega)];exact Ev.now _
 |d+1,i,left,h,h0,h1=>by
  have hi:i<t.length:=by omega
  have hb:BProfile (rdLProfile t (i:Int)):=by rw[rdLProfile_at t i hi];exact hB.all _ (List.getElem_mem hi)
  have hw:wrap64 ((i:Int)+1)=((i+1:Nat):Int):=w64n yo_;have hX:Sz (fun k=>(laws_szProfile.f k (rdLProfile t (i:Int)).f0 (rdLProfile t (i:Int)).f1 (rdLProfile t (i:Int)).f2 left).bind fun t_=>if t_<0 then some (-1) else laws_szProfileS.l0 k t t_ ((i+1:Nat):Int)) left (∀j:Nat,i<=j->(h:j<t.length)->SmallProfile (t[j]'h)):=by
   refine Sz.sub (G:=fun l k=>laws_szProfileS.l0 k t l ((i+1:Nat):Int)) (szProfile_ok _ hb left h0 h1) (fun k=>rfl) fun l a b c=>?_;refine(szProfileS_l t hB hl d (i+1) l yo_ a yo_).mono fun h=>?_;intro j h1 h2;rcases Nat.lt_or_eq_of_le h1 with h3|h3
   ·exact h j h3 h2
   ·subst h3;rw[<-rdLProfile_at t i h2];exact c
  obtain⟨r,e,hr⟩:=hX;refine⟨r,Ev.step (fun k=>by rw[laws_szProfileS.l0]) ?_,hr⟩;simp only[if_pos (show(i:Int)<t.length by omega),if_pos (show(0:Int)<=i by omega),hw];exact e
theorem szProfileS_ok(t:List LProfile)(hB:BProfileS t)(left:Int)(h0:0<=left)(h1:left<=1048576):Sz (fun k=>laws_szProfileS.f k t left) left (SmallProfileS t):=by
 refine Sz.str (G:=fun l k=>laws_szProfileS.l0 k t l 0) h0 h1 hB.len (fun k=>rfl) fun l a b c=>?_;refine(szProfileS_l t hB c t.length 0 l yo_ a yo_).mono fun h=>⟨c,fun x hx=>?_⟩
 obtain⟨j,hj,rfl⟩:=List.mem_iff_getElem.1 hx;exact h j (Nat.zero_le _) hj
theorem toProfileS_l(t:List LProfile)(hS:SmallProfileS t):∀d i:Nat,t.length=i+d->Ev (fun k=>laws_toProfileS.l0 k t ((t.take i).map cpProfile++List.replicate (t.length - i) zCProfile) (i:Int)) (t.map cpProfile)
 |0,i,h=>by
  refine Ev.step (fun k=>by rw[laws_toProfileS.l0]) ?_;simp only[if_neg (show¬(i:Int)<t.length by omega),List.take_of_length_le (show t.length<=i by omega),show t.length - i=0 by omega,List.replicate_zero,List.append_nil];exact Ev.now _
 |d+1,i,h=>by
  have hi:i<t.length:=by omega
  have hl:=hS.len;have ih:=toProfileS_l t hS d (i+1) yo_;rw[<-set_map cpProfile zCProfile t i hi,<-rdLProfile_at t i hi] at ih;have hc:(i:Int)<(((t.take i).map cpProfile++List.replicate (t.length - i) zCProfile).length:Int):=by simp;omega
  have hw:wrap64 ((i:Int)+1)=((i+1:Nat):Int):=w64n yo_;refine Ev.step (fun k=>by rw[laws_toProfileS.l0]) ?_;simp only[if_pos (show(i:Int)<t.length by omega),if_pos (show(0:Int)<=i by omega)];refine Ev.bind (toProfile_ok (rdLProfile t (i:Int)) (by rw[rdLProfile_at t i hi];exact hS.all _ (List.getElem_mem hi))) ?_;simp only[if_pos hc,hw,Int.toNat_natCast];exact ih
theorem toProfileS_ok(t:List LProfile)(hS:SmallProfileS t):Ev (fun k=>laws_toProfileS.f k t) (t.map cpProfile):=by
 have hl:=hS.len;have:=toProfileS_l t hS t.length 0 yo_;rw[List.take_zero,List.map_nil,List.nil_append,Nat.sub_zero] at this;unfold laws_toProfileS.f;simp only[Int.toNat_natCast,if_pos (show(0:Int)<=(t.length:Int) by omega)];refine Ev.congr (fun k=>if_pos yo_) ?_;exact this
theorem eqProfileS_l(t:List CProfile)(hl:t.length<=1048576)(ha:∀x ∈ t,FitProfile x):∀d i:Nat,t.length=i+d->Ev (fun k=>laws_eqProfileS.l0 k t t (i:Int)) true
 |0,i,h=>by
  refine Ev.step (fun k=>by rw[laws_eqProfileS.l0]) ?_;simp only[if_neg (show¬(i:Int)<t.length by omega)];exact Ev.now _
 |d+1,i,h=>by
  have hw:wrap64 ((i:Int)+1)=((i+1:Nat):Int):=w64n yo_;refine Ev.step (fun k=>by rw[laws_eqProfileS.l0]) ?_;simp only[if_pos (show(i:Int)<t.length by omega),if_pos (show(0:Int)<=i by omega),hw];refine Ev.bind (eqProfile_ok (rdCProfile t (i:Int)) (by rw[rdCProfile_at t i yo_];exact ha _ (List.getElem_mem _))) ?_;simp only[if_true];exact eqProfileS_l t hl ha d (i+1) yo_
theorem eqProfileS_ok(t:List CProfile)(hl:t.length<=1048576)(ha:∀x ∈ t,FitProfile x):Ev (fun k=>laws_eqProfileS.f k t t) true:=by
 unfold laws_eqProfileS.f;simp only[if_true];exact eqProfileS_l t hl ha t.length 0 yo_
abbrev LPending:=S86
abbrev CPending:=S94
abbrev zCPending:CPending:=z94
abbrev rdLPending(xs:List LPending)(i:Int):LPending:=rd_T86 xs i
theorem rdLPending_at(xs:List LPending)(i:Nat)(h:i<xs.length):rdLPending xs (i:Int)=xs[i]:=by
 show xs.getD i z86=_
 simp[List.getD_eq_getElem?_getD,List.getElem?_eq_getElem h]
abbrev rdCPending(xs:List CPending)(i:Int):CPending:=rd_T94 xs i
theorem rdCPending_at(xs:List CPending)(i:Nat)(h:i<xs.length):rdCPending xs (i:Int)=xs[i]:=by
 show xs.getD i z94=_
 simp[List.getD_eq_getElem?_getD,List.getElem?_eq_getElem h]
structure BPending(x:LPending):Prop where
 f0:x.f0.size<=big
 f1:BEntryS x.f1
 f2:x.f2.size<=big
structure SmallPending(x:LPending):Prop where
 f0:x.f0.size<=1048576
 f1:SmallEntryS x.f1
 f2:x.f2.size<=1048576
def cpPending(x:LPending):CPending:=⟨x.f0,x.f1.map cpEntry,x.f2⟩
theorem szPending_ok(x:LPending)(hB:BPending x)(left:Int)(h0:0<=left)(h1:left<=1048576):Sz (fun k=>laws_szPending.f k (x).f0 (x).f1 (x).f2 left) left (SmallPending x):=by
 refine Sz.str (G:=fun l k=>(laws_szEntryS.f k x.f1 l).bind fun t1=>if t1<0 then some (-1) else if wrap64 (t1 - (x.f2.size:Int))<0 then some (-1) else some (wrap64 (t1 - (x.f2.size:Int)))) h0 yo_ hB.f0 (fun k=>rfl) fun l0 a0 b0 c0=>?_;refine Sz.sub (G:=fun l k=>if wrap64 (l - (x.f2.size:Int))<0 then some (-1) else some (wrap64 (l - (x.f2.size:Int)))) (szEntryS_ok x.f1 hB.f1 l0 a0 yo_) (fun k=>rfl) fun l1 a1 b1 c1=>?_;refine Sz.str (G:=fun l k=>some l) a1 yo_ hB.f2 (fun k=>rfl) fun l2 a2 b2 c2=>?_;exact Sz.yes a2 (Int.le_refl _) ⟨c0,c1,c2⟩
theorem toPending_ok(x:LPending)(hS:SmallPending x):Ev (fun k=>laws_toPending.f k x.f0 x.f1 x.f2) ((cpPending x).f0,(cpPending x).f1,(cpPending x).f2):=by
 unfold laws_toPending.f;refine Ev.bind (toEntryS_ok _ hS.f1) ?_;exact Ev.now _
structure FitPending(x:CPending):Prop where
 f1:x.f1.length<=1048576/\∀y ∈ x.f1,FitEntry y
theorem fitPending(x:LPending)(hS:SmallPending x):FitPending (cpPending x):=
 ⟨⟨by simpa[cpPending] using hS.f1.len,fun y hy=>by obtain⟨z,hz,rfl⟩:=List.mem_map.1 hy;exact fitEntry z (hS.f1.all z hz)⟩⟩
theorem eqPending_ok(x:CPending)(hF:FitPending x):Ev (fun k=>laws_eqPending.f k x.f0 x.f1 x.f2 x.f0 x.f1 x.f2) true:=by
 unfold laws_eqPending.f;simp only[if_true,bne_self_eq_false,Bool.false_eq_true,if_false];refine Ev.bind (eqEntryS_ok _ hF.f1.1 hF.f1.2) ?_;simp only[if_true,bne_self_eq_false,Bool.false_eq_true,if_false];exact Ev.now _
structure BPendingS(t:List LPending):Prop where
 len:t.length<=big
 all:∀x ∈ t,BPending x
structure SmallPendingS(t:List LPending):Prop where
 len:t.length<=1048576
 all:∀x ∈ t,SmallPending x
theorem szPendingS_l(t:List LPending)(hB:BPendingS t)(hl:t.length<=1048576):∀(d i:Nat) (left:Int),t.length=i+d->0<=left->left<=1048576->Sz (fun k=>laws_szPendingS.l0 k t left (i:Int)) left (∀j:Nat,i<=j->(h:j<t.length)->SmallPending (t[j]'h))
 |0,i,left,h,h0,h1=>by
  refine⟨left,Ev.step (fun k=>by rw[laws_szPendingS.l0]) ?_,Or.inr ⟨h0,Int.le_refl _,fun j a b=>by omega⟩⟩;simp only[if_neg (show¬(i:Int)<t.length by omega)];exact Ev.now _
 |d+1,i,left,h,h0,h1=>by
  have hi:i<t.length:=by omega
  have hb:BPending (rdLPending t (i:Int)):=by rw[rdLPending_at t i hi];exact hB.all _ (List.getElem_mem hi)
  have hw:wrap64 ((i:Int)+1)=((i+1:Nat):Int):=w64n yo_;have hX:Sz (fun k=>(laws_szPending.f k (rdLPending t (i:Int)).f0 (rdLPending t (i:Int)).f1 (rdLPending t (i:Int)).f2 left).bind fun t_=>if t_<0 then some (-1) else laws_szPendingS.l0 k t t_ ((i+1:Nat):Int)) left (∀j:Nat,i<=j->(h:j<t.length)->SmallPending (t[j]'h)):=by
   refine Sz.sub (G:=fun l k=>laws_szPendingS.l0 k t l ((i+1:Nat):Int)) (szPending_ok _ hb left h0 h1) (fun k=>rfl) fun l a b c=>?_;refine(szPendingS_l t hB hl d (i+1) l yo_ a yo_).mono fun h=>?_;intro j h1 h2;rcases Nat.lt_or_eq_of_le h1 with h3|h3
   ·exact h j h3 h2
   ·subst h3;rw[<-rdLPending_at t i h2];exact c
  obtain⟨r,e,hr⟩:=hX;refine⟨r,Ev.step (fun k=>by rw[laws_szPendingS.l0]) ?_,hr⟩;simp only[if_pos (show(i:Int)<t.length by omega),if_pos (show(0:Int)<=i by omega),hw];exact e
theorem szPendingS_ok(t:List LPending)(hB:BPendingS t)(left:Int)(h0:0<=left)(h1:left<=1048576):Sz (fun k=>laws_szPendingS.f k t left) left (SmallPendingS t):=by
 refine Sz.str (G:=fun l k=>laws_szPendingS.l0 k t l 0) h0 h1 hB.len (fun k=>rfl) fun l a b c=>?_;refine(szPendingS_l t hB c t.length 0 l yo_ a yo_).mono fun h=>⟨c,fun x hx=>?_⟩
 obtain⟨j,hj,rfl⟩:=List.mem_iff_getElem.1 hx;exact h j (Nat.zero_le _) hj
theorem toPendingS_l(t:List LPending)(hS:SmallPendingS t):∀d i:Nat,t.length=i+d->Ev (fun k=>laws_toPendingS.l0 k t ((t.take i).map cpPending++List.replicate (t.length - i) zCPending) (i:Int)) (t.map cpPending)
 |0,i,h=>by
  refine Ev.step (fun k=>by rw[laws_toPendingS.l0]) ?_;simp only[if_neg (show¬(i:Int)<t.length by omega),List.take_of_length_le (show t.length<=i by omega),show t.length - i=0 by omega,List.replicate_zero,List.append_nil];exact Ev.now _
 |d+1,i,h=>by
  have hi:i<t.length:=by omega
  have hl:=hS.len;have ih:=toPendingS_l t hS d (i+1) yo_;rw[<-set_map cpPending zCPending t i hi,<-rdLPending_at t i hi] at ih;have hc:(i:Int)<(((t.take i).map cpPending++List.replicate (t.length - i) zCPending).length:Int):=by simp;omega
  have hw:wrap64 ((i:Int)+1)=((i+1:Nat):Int):=w64n yo_;refine Ev.step (fun k=>by rw[laws_toPendingS.l0]) ?_;simp only[if_pos (show(i:Int)<t.length by omega),if_pos (show(0:Int)<=i by omega)];refine Ev.bind (toPending_ok (rdLPending t (i:Int)) (by rw[rdLPending_at t i hi];exact hS.all _ (List.getElem_mem hi))) ?_;simp only[if_pos hc,hw,Int.toNat_natCast];exact ih
theorem toPendingS_ok(t:List LPending)(hS:SmallPendingS t):Ev (fun k=>laws_toPendingS.f k t) (t.map cpPending):=by
 have hl:=hS.len;have:=toPendingS_l t hS t.length 0 yo_;rw[List.take_zero,List.map_nil,List.nil_append,Nat.sub_zero] at this;unfold laws_toPendingS.f;simp only[Int.toNat_natCast,if_pos (show(0:Int)<=(t.length:Int) by omega)];refine Ev.congr (fun k=>if_pos yo_) ?_;exact this
theorem eqPendingS_l(t:List CPending)(hl:t.length<=1048576)(ha:∀x ∈ t,FitPending x):∀d i:Nat,t.length=i+d->Ev (fun k=>laws_eqPendingS.l0 k t t (i:Int)) true
 |0,i,h=>by
  refine Ev.step (fun k=>by rw[laws_eqPendingS.l0]) ?_;simp only[if_neg (show¬(i:Int)<t.length by omega)];exact Ev.now _
 |d+1,i,h=>by
  have hw:wrap64 ((i:Int)+1)=((i+1:Nat):Int):=w64n yo_;refine Ev.step (fun k=>by rw[laws_eqPendingS.l0]) ?_;simp only[if_pos (show(i:Int)<t.length by omega),if_pos (show(0:Int)<=i by omega),hw];refine Ev.bind (eqPending_ok (rdCPending t (i:Int)) (by rw[rdCPending_at t i yo_];exact ha _ (List.getElem_mem _))) ?_;simp only[if_true];exact eqPendingS_l t hl ha d (i+1) yo_
theorem eqPendingS_ok(t:List CPending)(hl:t.length<=1048576)(ha:∀x ∈ t,FitPending x):Ev (fun k=>laws_eqPendingS.f k t t) true:=by
 unfold laws_eqPendingS.f;simp only[if_true];exact eqPendingS_l t hl ha t.length 0 yo_
abbrev LNext:=S89
abbrev CNext:=S96
abbrev zCNext:CNext:=z96
abbrev rdLNext(xs:List LNext)(i:Int):LNext:=rd_T89 xs i
theorem rdLNext_at(xs:List LNext)(i:Nat)(h:i<xs.length):rdLNext xs (i:Int)=xs[i]:=by
 show xs.getD i z89=_
 simp[List.getD_eq_getElem?_getD,List.getElem?_eq_getElem h]
abbrev rdCNext(xs:List CNext)(i:Int):CNext:=rd_T96 xs i
theorem rdCNext_at(xs:List CNext)(i:Nat)(h:i<xs.length):rdCNext xs (i:Int)=xs[i]:=by
 show xs.getD i z96=_
 simp[List.getD_eq_getElem?_getD,List.getElem?_eq_getElem h]
structure BNext(x:LNext):Prop where
 f0:x.f0.size<=big
 f1:x.f1.size<=big
structure SmallNext(x:LNext):Prop where
 f0:x.f0.size<=1048576
 f1:x.f1.size<=1048576
def cpNext(x:LNext):CNext:=⟨x.f0,x.f1⟩
theorem szNext_ok(x:LNext)(hB:BNext x)(left:Int)(h0:0<=left)(h1:left<=1048576):Sz (fun k=>laws_szNext.f (x).f0 (x).f1 left) left (SmallNext x):=by
 refine Sz.str (G:=fun l k=>if wrap64 (l - (x.f1.size:Int))<0 then some (-1) else some (wrap64 (l - (x.f1.size:Int)))) h0 yo_ hB.f0 (fun k=>rfl) fun l0 a0 b0 c0=>?_;refine Sz.str (G:=fun l k=>some l) a0 yo_ hB.f1 (fun k=>rfl) fun l1 a1 b1 c1=>?_;exact Sz.yes a1 (Int.le_refl _) ⟨c0,c1⟩
theorem toNext_ok(x:LNext)(hS:SmallNext x):Ev (fun k=>laws_toNext.f x.f0 x.f1) ((cpNext x).f0,(cpNext x).f1):=by
 unfold laws_toNext.f;exact Ev.now _
structure FitNext(x:CNext):Prop where
 tt:True
theorem fitNext(x:LNext)(hS:SmallNext x):FitNext (cpNext x):=
 ⟨trivial⟩
theorem eqNext_ok(x:CNext)(hF:FitNext x):Ev (fun k=>laws_eqNext.f x.f0 x.f1 x.f0 x.f1) true:=by
 unfold laws_eqNext.f;simp only[if_true,bne_self_eq_false,Bool.false_eq_true,if_false];exact Ev.now _
structure BNextS(t:List LNext):Prop where
 len:t.length<=big
 all:∀x ∈ t,BNext x
structure SmallNextS(t:List LNext):Prop where
 len:t.length<=1048576
 all:∀x ∈ t,SmallNext x
theorem szNextS_l(t:List LNext)(hB:BNextS t)(hl:t.length<=1048576):∀(d i:Nat) (left:Int),t.length=i+d->0<=left->left<=1048576->Sz (fun k=>laws_szNextS.l0 k t left (i:Int)) left (∀j:Nat,i<=j->(h:j<t.length)->SmallNext (t[j]'h))
 |0,i,left,h,h0,h1=>by
  refine⟨left,Ev.step (fun k=>by rw[laws_szNextS.l0]) ?_,Or.inr ⟨h0,Int.le_refl _,fun j a b=>by omega⟩⟩;simp only[if_neg (show¬(i:Int)<t.length by omega)];exact Ev.now _
 |d+1,i,left,h,h0,h1=>by
  have hi:i<t.length:=by omega
  have hb:BNext (rdLNext t (i:Int)):=by rw[rdLNext_at t i hi];exact hB.all _ (List.getElem_mem hi)
  have hw:wrap64 ((i:Int)+1)=((i+1:Nat):Int):=w64n yo_;have hX:Sz (fun k=>(laws_szNext.f (rdLNext t (i:Int)).f0 (rdLNext t (i:Int)).f1 left).bind fun t_=>if t_<0 then some (-1) else laws_szNextS.l0 k t t_ ((i+1:Nat):Int)) left (∀j:Nat,i<=j->(h:j<t.length)->SmallNext (t[j]'h)):=by
   refine Sz.sub (G:=fun l k=>laws_szNextS.l0 k t l ((i+1:Nat):Int)) (szNext_ok _ hb left h0 h1) (fun k=>rfl) fun l a b c=>?_;refine(szNextS_l t hB hl d (i+1) l yo_ a yo_).mono fun h=>?_;intro j h1 h2;rcases Nat.lt_or_eq_of_le h1 with h3|h3
   ·exact h j h3 h2
   ·subst h3;rw[<-rdLNext_at t i h2];exact c
  obtain⟨r,e,hr⟩:=hX;refine⟨r,Ev.step (fun k=>by rw[laws_szNextS.l0]) ?_,hr⟩;simp only[if_pos (show(i:Int)<t.length by omega),if_pos (show(0:Int)<=i by omega),hw];exact e
theorem szNextS_ok(t:List LNext)(hB:BNextS t)(left:Int)(h0:0<=left)(h1:left<=1048576):Sz (fun k=>laws_szNextS.f k t left) left (SmallNextS t):=by
 refine Sz.str (G:=fun l k=>laws_szNextS.l0 k t l 0) h0 h1 hB.len (fun k=>rfl) fun l a b c=>?_;refine(szNextS_l t hB c t.length 0 l yo_ a yo_).mono fun h=>⟨c,fun x hx=>?_⟩
 obtain⟨j,hj,rfl⟩:=List.mem_iff_getElem.1 hx;exact h j (Nat.zero_le _) hj
theorem toNextS_l(t:List LNext)(hS:SmallNextS t):∀d i:Nat,t.length=i+d->Ev (fun k=>laws_toNextS.l0 k t ((t.take i).map cpNext++List.replicate (t.length - i) zCNext) (i:Int)) (t.map cpNext)
 |0,i,h=>by
  refine Ev.step (fun k=>by rw[laws_toNextS.l0]) ?_;simp only[if_neg (show¬(i:Int)<t.length by omega),List.take_of_length_le (show t.length<=i by omega),show t.length - i=0 by omega,List.replicate_zero,List.append_nil];exact Ev.now _
 |d+1,i,h=>by
  have hi:i<t.length:=by omega
  have hl:=hS.len;have ih:=toNextS_l t hS d (i+1) yo_;rw[<-set_map cpNext zCNext t i hi,<-rdLNext_at t i hi] at ih;have hc:(i:Int)<(((t.take i).map cpNext++List.replicate (t.length - i) zCNext).length:Int):=by simp;omega
  have hw:wrap64 ((i:Int)+1)=((i+1:Nat):Int):=w64n yo_;refine Ev.step (fun k=>by rw[laws_toNextS.l0]) ?_;simp only[if_pos (show(i:Int)<t.length by omega),if_pos (show(0:Int)<=i by omega)];refine Ev.bind (toNext_ok (rdLNext t (i:Int)) (by rw[rdLNext_at t i hi];exact hS.all _ (List.getElem_mem hi))) ?_;simp only[if_pos hc,hw,Int.toNat_natCast];exact ih
theorem toNextS_ok(t:List LNext)(hS:SmallNextS t):Ev (fun k=>laws_toNextS.f k t) (t.map cpNext):=by
 have hl:=hS.len;have:=toNextS_l t hS t.length 0 yo_;rw[List.take_zero,List.map_nil,List.nil_append,Nat.sub_zero] at this;unfold laws_toNextS.f;simp only[Int.toNat_natCast,if_pos (show(0:Int)<=(t.length:Int) by omega)];refine Ev.congr (fun k=>if_pos yo_) ?_;exact this
theorem eqNextS_l(t:List CNext)(hl:t.length<=1048576)(ha:∀x ∈ t,FitNext x):∀d i:Nat,t.length=i+d->Ev (fun k=>laws_eqNextS.l0 k t t (i:Int)) true
 |0,i,h=>by
  refine Ev.step (fun k=>by rw[laws_eqNextS.l0]) ?_;simp only[if_neg (show¬(i:Int)<t.length by omega)];exact Ev.now _
 |d+1,i,h=>by
  have hw:wrap64 ((i:Int)+1)=((i+1:Nat):Int):=w64n yo_;refine Ev.step (fun k=>by rw[laws_eqNextS.l0]) ?_;simp only[if_pos (show(i:Int)<t.length by omega),if_pos (show(0:Int)<=i by omega),hw];refine Ev.bind (eqNext_ok (rdCNext t (i:Int)) (by rw[rdCNext_at t i yo_];exact ha _ (List.getElem_mem _))) ?_;simp only[if_true];exact eqNextS_l t hl ha d (i+1) yo_
theorem eqNextS_ok(t:List CNext)(hl:t.length<=1048576)(ha:∀x ∈ t,FitNext x):Ev (fun k=>laws_eqNextS.f k t t) true:=by
 unfold laws_eqNextS.f;simp only[if_true];exact eqNextS_l t hl ha t.length 0 yo_
end P
end Go.Proofs.YtgccknmddhbdgaaGreatDoor.Q
