import Derived.Test.YtgccknmddhbdgaaGreatDoorE05
import Derived.Test.YtgccknmddhbdgaaGreatDoorE06
namespace Go.Proofs.YtgccknmddhbdgaaGreatDoor.Q
open Go.RowKit W1 W2 W3
namespace P
abbrev Entry:=S63
abbrev zEntry:Entry:=z63
abbrev rdE(xs:List Entry)(i:Int):Entry:=qA xs i
theorem rdE_at(xs:List Entry)(i:Nat)(h:i<xs.length):rdE xs (i:Int)=xs[i]:=by
 show xs.getD i zEntry=_
 simp[List.getD_eq_getElem?_getD,List.getElem?_eq_getElem h]
theorem tl_inj{a b:ByteArray}(h:a.toList=b.toList):a=b:=by
 rw[ByteArray.toList_eq,ByteArray.toList_eq] at h;cases a with|mk x=>cases b with|mk y=>cases x;cases y;simp_all
theorem tl_nil{a:ByteArray}:a.toList=([]:List UInt8)↔a.size=0:=by
 rw[ByteArray.toList_eq];cases a with|mk x=>cases x;simp[ByteArray.size]
theorem bl_eq:∀(x y:List UInt8),Op.bytesLess x y=decide (x<y)
 |[],[]=>by simp[Op.bytesLess]
 |[],b::y=>by simp[Op.bytesLess]
 |a::x,[]=>by simp[Op.bytesLess]
 |a::x,b::y=>by
  have ih:=bl_eq x y;simp only[Op.bytesLess,ih];by_cases h:a=b
  ·subst h;simp[List.cons_lt_cons_iff]
  ·simp[List.cons_lt_cons_iff,h]
def mk(l:List UInt8):ByteArray:=⟨l.toArray⟩
theorem size_l(s:ByteArray):s.data.toList.length=s.size:=(Lib.size_eq s).symm
theorem mk_toList(s:ByteArray):mk s.data.toList=s:=by cases s;rfl
def segOk(s:ByteArray):Nat->Nat->Nat->Nat->Bool
 |0,a,i,n=>nameOk (s.extract a i) && decide (n<8)
 |d+1,a,i,n=>if bt s i=47 then nameOk (s.extract a i) && decide (n<8) && segOk s d (i+1) (i+1) (n+1) else segOk s d a (i+1) n
def pathOk(s:ByteArray):Bool:=segOk s s.size 0 0 0
def pieces:List UInt8->List (List UInt8)
 |[]=>[[]]
 |c::l=>if c=47 then[]::pieces l else match pieces l with
  |p::ps=>(c::p)::ps
  |[]=>[[c]]
theorem pieces_ne:∀l,∃p ps,pieces l=p::ps
 |[]=>⟨[],[],rfl⟩
 |c::l=>by
  obtain⟨p,ps,h⟩:=pieces_ne l;unfold pieces;by_cases hc:c=47
  ·exact⟨[],pieces l,by rw[if_pos hc]⟩
  ·exact⟨c::p,ps,by rw[if_neg hc,h]⟩
theorem pieces_index:∀s:List UInt8,(Lib.index s [47]= -1/\pieces s=[s])\/(∃i:Nat,Lib.index s [47]=i/\i<s.length/\pieces s=s.take i::pieces (s.drop (i+1)))
 |[]=>Or.inl ⟨rfl,rfl⟩
 |c::l=>by
  by_cases hc:c=47
  ·subst hc;exact Or.inr ⟨0,by simp[Lib.index],by simp,by simp[pieces]⟩
  ·have hp:([47]:List UInt8).isPrefixOf (c::l)=false:=by simp[List.isPrefixOf];exact fun e=>hc e.symm
   rcases pieces_index l with⟨h1,h2⟩|⟨i,h1,h2,h3⟩
   ·exact Or.inl ⟨by unfold Lib.index;rw[hp,h1];rfl,by unfold pieces;rw[if_neg hc,h2]⟩
   ·refine Or.inr ⟨i+1,?_,by simpa using h2,?_⟩
    ·unfold Lib.index;rw[hp,h1];have:((i:Int)== -1)=false:=by rw[beq_eq_false_iff_ne];omega
     simp[this]
    ·conv=>lhs;unfold pieces
     rw[if_neg hc,h3];simp
theorem splitK_pieces:∀(n:Nat) (s:List UInt8),s.length<=n->Lib.splitK [47] 0 (Lib.count s [47]) s=pieces s
 |0,s,h=>by
  have:s=[]:=List.length_eq_zero_iff.1 yo_;subst this;rfl
 |n+1,s,h=>by
  rcases pieces_index s with⟨h1,h2⟩|⟨i,h1,h2,h3⟩
  ·rw[Lib.count_miss h1,h2];rfl
  ·have hm:¬(Lib.index s [47]== -1)=true:=fun e=>by have:=beq_iff_eq.1 e;omega
   have e:(Lib.index s [47]).toNat=i:=by omega
   rw[Lib.count_hit (by simp) h1,Nat.add_comm,Lib.splitK,if_neg hm,e,h3];have:=splitK_pieces n (s.drop (i+1)) (by simp;omega);simp only[List.length_cons,List.length_nil,Nat.zero_add,Nat.add_zero] at this⊢;rw[this]
theorem bt_data(s:ByteArray)(i:Nat)(h:i<s.data.toList.length):bt s (i:Int)=((s.data.toList[i]).toNat:Int):=by
 have h2:i<s.size:=by rw[<-size_l];exact h
 unfold bt;rw[dif_pos (by simpa using h2)];rfl
theorem ext_data(s:ByteArray)(a i:Nat):(s.extract a i).data.toList=(s.data.toList.take i).drop a:=by
 rw[Lib.extract_data];simp[List.extract_eq_take_drop,List.drop_take]
theorem segOk_pieces(s:ByteArray):∀d a i n,s.size=i+d->a<=i->∀p ps,pieces (s.data.toList.drop i)=p::ps->
 segOk s d a i n=(nameOk (mk ((s.data.toList.take i).drop a++p)) && ps.all (fun q=>nameOk (mk q)) && decide (n+ps.length<8))
 |0,a,i,n,h,ha,p,ps,hp=>by
  have hl:=size_l s;rw[List.drop_of_length_le yo_] at hp;obtain⟨rfl,rfl⟩:p=[]/\ps=[]:=by simpa[pieces,eq_comm] using hp
  have e:s.extract a i=mk ((s.data.toList.take i).drop a):=by rw[<-ext_data,mk_toList]
  simp[segOk,e]
 |d+1,a,i,n,h,ha,p,ps,hp=>by
  have hl:=size_l s;have hi:i<s.data.toList.length:=by omega
  have hb:=bt_data s i hi;rw[List.drop_eq_getElem_cons hi] at hp;have ht:s.data.toList.take (i+1)=s.data.toList.take i++[s.data.toList[i]]:=by rw[List.take_add_one,List.getElem?_eq_getElem hi];rfl
  obtain⟨q,qs,hq⟩:=pieces_ne (s.data.toList.drop (i+1));by_cases hc:s.data.toList[i]=47
  ·have hb':bt s (i:Int)=47:=by rw[hb,hc];rfl
   unfold pieces at hp;rw[if_pos hc] at hp;injection hp with h1 h2
   subst h1;subst h2;have ih:=segOk_pieces s d (i+1) (i+1) (n+1) yo_ (Nat.le_refl _) q qs hq;have e:s.extract a i=mk ((s.data.toList.take i).drop a):=by rw[<-ext_data,mk_toList]
   have e0:(s.data.toList.take (i+1)).drop (i+1)=[]:=List.drop_of_length_le (by simp;omega);simp only[segOk,if_pos hb',ih,e,hq,e0,List.nil_append,List.append_nil,List.all_cons,List.length_cons];by_cases hn:n<8
   ·by_cases hn2:n+1+qs.length<8
    ·simp[hn,hn2,show n+(qs.length+1)<8 by omega]
    ·simp[hn,hn2,show¬n+(qs.length+1)<8 by omega]
   ·simp[hn,show¬n+(qs.length+1)<8 by omega]
  ·have hb':¬bt s (i:Int)=47:=by
    rw[hb];intro e;apply hc;have:(s.data.toList[i]).toNat=47:=by omega
    exact UInt8.toNat_inj.1 (by rw[this];rfl)
   unfold pieces at hp;rw[if_neg hc,hq] at hp;have hp:(s.data.toList[i]::q)::qs=p::ps:=hp;injection hp with h1 h2
   subst h1;subst h2;have ih:=segOk_pieces s d a (i+1) n yo_ yo_ q qs hq;simp only[segOk,if_neg hb',ih,ht];rw[List.drop_append_of_le_length (by simp;omega)];simp
theorem eSegS(s:ByteArray)(hs:s.size<=1048576):∀(d a i:Nat) (l:List ByteArray),s.size=i+d->a<=i->l.length<=8->∃l',Ev (fun k=>spec_l10Names.l0 k s l (a:Int) (i:Int)) (l',segOk s d a i l.length)
 |0,a,i,l,h,ha,hl=>by
  by_cases hn:nameOk (s.extract a i)=true
  ·by_cases h8:l.length=8
   ·refine⟨l,Ev.step (fun k=>by rw[spec_l10Names.l0]) ?_⟩;simp only[if_pos (show(i:Int)<=s.size by omega),if_pos (show(i:Int)=s.size by omega)];refine Ev.step (fun k=>by rw[spec_l10Names.j1]) ?_;simp only[if_true,if_pos (show(0:Int)<=a by omega),if_pos (show(a:Int)<=i by omega),if_pos (show(i:Int)<=s.size by omega),Int.toNat_natCast];refine Ev.bind (eNameS _) ?_;simp only[hn,if_true,if_pos (show(l.length:Int)=8 by omega),segOk,Bool.true_and,decide_eq_false (show¬l.length<8 by omega)];exact Ev.now _
   ·refine⟨l++[s.extract a i],Ev.step (fun k=>by rw[spec_l10Names.l0]) ?_⟩;simp only[if_pos (show(i:Int)<=s.size by omega),if_pos (show(i:Int)=s.size by omega)];refine Ev.step (fun k=>by rw[spec_l10Names.j1]) ?_;simp only[if_true,if_pos (show(0:Int)<=a by omega),if_pos (show(a:Int)<=i by omega),if_pos (show(i:Int)<=s.size by omega),Int.toNat_natCast];refine Ev.bind (eNameS _) ?_;simp only[hn,if_true,if_neg (show¬(l.length:Int)=8 by omega),if_pos (show l.length<8796093022208 by omega),segOk,Bool.true_and,decide_eq_true (show l.length<8 by omega)];rw[w64n yo_];refine Ev.step (fun k=>by rw[spec_l10Names.l0]) ?_;simp only[if_neg (show¬((i+1:Nat):Int)<=s.size by omega)];exact Ev.now _
  ·have hn':nameOk (s.extract a i)=false:=by simpa using hn
   refine⟨l,Ev.step (fun k=>by rw[spec_l10Names.l0]) ?_⟩;simp only[if_pos (show(i:Int)<=s.size by omega),if_pos (show(i:Int)=s.size by omega)];refine Ev.step (fun k=>by rw[spec_l10Names.j1]) ?_;simp only[if_true,if_pos (show(0:Int)<=a by omega),if_pos (show(a:Int)<=i by omega),if_pos (show(i:Int)<=s.size by omega),Int.toNat_natCast];refine Ev.bind (eNameS _) ?_;simp only[hn',Bool.false_eq_true,if_false,segOk,Bool.false_and];exact Ev.now _
 |d+1,a,i,l,h,ha,hl=>by
  have h1:(i:Int)<=s.size:=by omega
  have h2:¬(i:Int)=s.size:=by omega
  by_cases hb:bt s i=47
  ·have hb':(bt s i==47)=true:=by simpa using hb
   by_cases hn:nameOk (s.extract a i)=true
   ·by_cases h8:l.length=8
    ·refine⟨l,Ev.step (fun k=>by rw[spec_l10Names.l0]) ?_⟩;simp only[if_pos h1,if_neg h2,if_pos (show(0:Int)<=i by omega),if_pos (show(i:Int)<s.size by omega),hb'];refine Ev.step (fun k=>by rw[spec_l10Names.j1]) ?_;simp only[if_true,if_pos (show(0:Int)<=a by omega),if_pos (show(a:Int)<=i by omega),if_pos h1,Int.toNat_natCast];refine Ev.bind (eNameS _) ?_;simp only[hn,if_true,if_pos (show(l.length:Int)=8 by omega),segOk,if_pos hb,Bool.true_and,decide_eq_false (show¬l.length<8 by omega),Bool.false_and];exact Ev.now _
    ·obtain⟨l',ih⟩:=eSegS s hs d (i+1) (i+1) (l++[s.extract a i]) yo_ (Nat.le_refl _) (by simp;omega);refine⟨l',Ev.step (fun k=>by rw[spec_l10Names.l0]) ?_⟩;simp only[if_pos h1,if_neg h2,if_pos (show(0:Int)<=i by omega),if_pos (show(i:Int)<s.size by omega),hb'];refine Ev.step (fun k=>by rw[spec_l10Names.j1]) ?_;simp only[if_true,if_pos (show(0:Int)<=a by omega),if_pos (show(a:Int)<=i by omega),if_pos h1,Int.toNat_natCast];refine Ev.bind (eNameS _) ?_;simp only[hn,if_true,if_neg (show¬(l.length:Int)=8 by omega),if_pos (show l.length<8796093022208 by omega),segOk,if_pos hb,Bool.true_and,decide_eq_true (show l.length<8 by omega)];rw[w64n yo_];simpa using ih
   ·have hn':nameOk (s.extract a i)=false:=by simpa using hn
    refine⟨l,Ev.step (fun k=>by rw[spec_l10Names.l0]) ?_⟩;simp only[if_pos h1,if_neg h2,if_pos (show(0:Int)<=i by omega),if_pos (show(i:Int)<s.size by omega),hb'];refine Ev.step (fun k=>by rw[spec_l10Names.j1]) ?_;simp only[if_true,if_pos (show(0:Int)<=a by omega),if_pos (show(a:Int)<=i by omega),if_pos h1,Int.toNat_natCast];refine Ev.bind (eNameS _) ?_;simp only[hn',Bool.false_eq_true,if_false,segOk,if_pos hb,Bool.false_and];exact Ev.now _
  ·have hb':(bt s i==47)=false:=by simpa using hb
   obtain⟨l',ih⟩:=eSegS s hs d a (i+1) l yo_ yo_ hl;refine⟨l',Ev.step (fun k=>by rw[spec_l10Names.l0]) ?_⟩;simp only[if_pos h1,if_neg h2,if_pos (show(0:Int)<=i by omega),if_pos (show(i:Int)<s.size by omega),hb'];refine Ev.step (fun k=>by rw[spec_l10Names.j1]) ?_;simp only[Bool.false_eq_true,if_false,segOk,if_neg hb];rw[w64n yo_];exact ih
theorem ePathS(s:ByteArray)(hs:s.size<=1048576):∃l,Ev (fun k=>spec_l10Names.f k s) (l,pathOk s):=eSegS s hs s.size 0 0 [] yo_ (Nat.le_refl _) (by simp)
theorem eNamesI(t:List ByteArray):∀d i,t.length=i+d->t.length<=8->Ev (fun k=>impl_pathOk.l0 k t (t.length:Int) (i:Int)) ((t.drop i).all nameOk)
 |0,i,h,h8=>by
  refine Ev.step (fun k=>by rw[impl_pathOk.l0]) ?_;simp only[if_neg (show¬(i:Int)<t.length by omega),List.drop_of_length_le (show t.length<=i by omega)];exact Ev.now _
 |d+1,i,h,h8=>by
  have hi:i<t.length:=by omega
  have e:rdOf ByteArray.empty t (i:Int)=t[i]:=by simp[rdOf,List.getD_eq_getElem?_getD,List.getElem?_eq_getElem hi]
  refine Ev.step (fun k=>by rw[impl_pathOk.l0]) ?_;simp only[if_pos (show(i:Int)<t.length by omega),if_pos (show(0:Int)<=i by omega),e];refine Ev.bind (eNameI _) ?_;rw[List.drop_eq_getElem_cons hi,List.all_cons];cases hn:nameOk t[i] with
  |false=>simp only[Bool.false_eq_true,if_false,Bool.false_and];exact Ev.now _
  |true=>
   simp only[if_true,Bool.true_and];rw[w64n yo_];exact eNamesI t d (i+1) yo_ h8
theorem ePathI(s:ByteArray)(hs:s.size<=1048576):Ev (fun k=>impl_pathOk.f k s) (pathOk s):=by
 unfold impl_pathOk.f;have h0:strings_Split.f s ⟨#[47]⟩=some (Lib.splitB ⟨#[47]⟩ 0 (Lib.countB s ⟨#[47]⟩) s):=by
  unfold strings_Split.f;rw[if_pos ⟨by decide,by omega⟩]
 refine Ev.bind (ev_eq h0) ?_;generalize hB:Lib.splitB ⟨#[47]⟩ 0 (Lib.countB s ⟨#[47]⟩) s=B;have hd:B.map (·.data.toList)=pieces s.data.toList:=by
  rw[<-hB,Lib.splitB_data];exact splitK_pieces s.size _ (by rw[size_l];exact Nat.le_refl _)
 have hlen:B.length=(pieces s.data.toList).length:=by rw[<-hd,List.length_map]
 obtain⟨p,ps,hp⟩:=pieces_ne s.data.toList;have hseg:=segOk_pieces s s.size 0 0 0 yo_ (Nat.le_refl _) p ps (by simpa using hp);simp only[List.take_zero,List.drop_nil,List.nil_append,Nat.zero_add] at hseg;have hall:B.all nameOk=(nameOk (mk p) && ps.all (fun q=>nameOk (mk q))):=by
  have:B.all nameOk=(B.map (·.data.toList)).all (fun q=>nameOk (mk q)):=by
   rw[List.all_map];congr 1
  rw[this,hd,hp,List.all_cons]
 rw[hp,List.length_cons] at hlen;unfold pathOk;rw[hseg];by_cases h8:(B.length:Int)>8
 ·simp only[if_pos h8,decide_eq_false (show¬ps.length<8 by omega),Bool.and_false];exact Ev.now _
 ·simp only[if_neg h8,decide_eq_true (show ps.length<8 by omega),Bool.and_true];have:=eNamesI B B.length 0 yo_ yo_;rw[List.drop_zero,hall] at this;exact this
def lastS(s:ByteArray):Nat->Option Nat
 |0=>none
 |i+1=>if bt s i=47 then some i else lastS s i
theorem lastS_lt(s:ByteArray):∀n j,lastS s n=some j->j<n
 |0,j,h=>by simp[lastS] at h
 |n+1,j,h=>by
  unfold lastS at h;split at h
  ·injection h with h;omega
  ·have:=lastS_lt s n j h;omega
theorem lastS_47(s:ByteArray):∀n j,lastS s n=some j->bt s (j:Int)=47
 |0,j,h=>by simp[lastS] at h
 |n+1,j,h=>by
  unfold lastS at h;split at h
  ·injection h with h;subst h;assumption
  ·exact lastS_47 s n j h
theorem w64m{i:Nat}(h:i<4611686018427387904):wrap64 ((i:Int) - 1)=(i:Int) - 1:=wrap64_small yo_ yo_
theorem eLastI(s:ByteArray)(hs:s.size<=1048576):∀n:Nat,n<=s.size->Ev (fun k=>bytealg_LastIndexByteString.l0 k s 47 ((n:Int) - 1)) (match lastS s n with|some j=>(j:Int)|none=> -1)
 |0,h=>by
  refine Ev.step (fun k=>by rw[bytealg_LastIndexByteString.l0]) ?_;simp only[if_neg (show¬(((0:Nat):Int) - 1>=0) by omega),lastS];exact Ev.now _
 |n+1,h=>by
  have e:((n+1:Nat):Int) - 1=(n:Int):=by omega
  rw[e];refine Ev.step (fun k=>by rw[bytealg_LastIndexByteString.l0]) ?_;simp only[if_pos (show(n:Int)>=0 by omega),if_pos (show 0<=(n:Int) by omega),if_pos (show(n:Int)<s.size by omega),lastS];by_cases hb:bt s n=47
  ·simp only[if_pos hb];exact Ev.now _
  ·simp only[if_neg hb];rw[w64m yo_];exact eLastI s hs n yo_
theorem eUpI(s:ByteArray)(hs:s.size<=1048576):Ev (fun k=>impl_upper.f k s) (match lastS s s.size with|some j=>(s.extract 0 j,true)|none=>(⟨#[]⟩,false)):=by
 have h:=eLastI s hs s.size (Nat.le_refl _);unfold impl_upper.f strings_LastIndexByte.f bytealg_LastIndexByteString.f;rw[w64m yo_];cases hl:lastS s s.size with
 |none=>
  rw[hl] at h;refine Ev.bind (Ev.bind h (Ev.now _)) ?_;simp only[if_pos (show(-1:Int)<0 by decide)];exact Ev.now _
 |some j=>
  rw[hl] at h;have:=lastS_lt s _ _ hl;refine Ev.bind (Ev.bind h (Ev.now _)) ?_;simp only[if_neg (show¬(j:Int)<0 by omega),if_pos (show 0<=(j:Int) by omega),if_pos (show(j:Int)<=s.size by omega),Int.toNat_natCast];exact Ev.now _
theorem eLastS(s:ByteArray)(hs:s.size<=1048576):∀n:Nat,n<=s.size->Ev (fun k=>spec_l10Up.l0 k s ((n:Int) - 1)) (match lastS s n with|some j=>s.extract 0 j|none=>⟨#[]⟩)
 |0,h=>by
  refine Ev.step (fun k=>by rw[spec_l10Up.l0]) ?_;simp only[if_neg (show¬(((0:Nat):Int) - 1>=0) by omega),lastS];exact Ev.now _
 |n+1,h=>by
  have e:((n+1:Nat):Int) - 1=(n:Int):=by omega
  rw[e];refine Ev.step (fun k=>by rw[spec_l10Up.l0]) ?_;simp only[if_pos (show(n:Int)>=0 by omega),if_pos (show 0<=(n:Int) by omega),if_pos (show(n:Int)<s.size by omega),if_pos (show(n:Int)<=s.size by omega),Int.toNat_natCast,lastS];by_cases hb:bt s n=47
  ·simp only[if_pos hb];exact Ev.now _
  ·simp only[if_neg hb];rw[w64m yo_];exact eLastS s hs n yo_
theorem eUpS(s:ByteArray)(hs:s.size<=1048576):Ev (fun k=>spec_l10Up.f k s) (match lastS s s.size with|some j=>s.extract 0 j|none=>⟨#[]⟩):=by
 unfold spec_l10Up.f;rw[w64m yo_];exact eLastS s hs s.size (Nat.le_refl _)
def eOk(e:Entry):Bool:=pathOk e.f0 && decide (e.f2.size<=20000) && (if e.f1=1 then decide (e.f2.size=0) && !e.f3 else if e.f1=2 then true else if e.f1=3 then !decide (e.f2.size=0) && !e.f3 else false)
theorem eEntryS(e:Entry)(hs:e.f0.size<=1048576):Ev (fun k=>spec_l10EntryOk.f k e.f0 e.f1 e.f2 e.f3) (eOk e):=by
 unfold spec_l10EntryOk.f eOk;obtain⟨l,hl⟩:=ePathS e.f0 hs;refine Ev.bind hl ?_;cases hp:pathOk e.f0 with
 |false=>simp only[Bool.false_eq_true,if_false,Bool.false_and];exact Ev.now _
 |true=>
  by_cases h2:(e.f2.size:Int)>20000
  ·simp only[if_true,if_pos h2,decide_eq_false (show¬e.f2.size<=20000 by omega),Bool.and_false,Bool.false_and];exact Ev.now _
  ·simp only[if_true,if_neg h2,decide_eq_true (show e.f2.size<=20000 by omega),Bool.true_and];by_cases h1:e.f1=1
   ·simp only[if_pos h1];by_cases h3:e.f2.size=0
    ·simp only[if_pos (tl_nil.2 h3),decide_eq_true h3,Bool.true_and];exact Ev.now _
    ·simp only[if_neg (fun h=>h3 (tl_nil.1 h)),decide_eq_false h3,Bool.false_and];exact Ev.now _
   ·by_cases h1':e.f1=2
    ·simp only[if_neg h1,if_pos h1'];exact Ev.now _
    ·by_cases h1'':e.f1=3
     ·simp only[if_neg h1,if_neg h1',if_pos h1''];by_cases h3:e.f2.size=0
      ·simp only[if_pos (tl_nil.2 h3),decide_eq_true h3,Bool.not_true,Bool.false_and];exact Ev.now _
      ·simp only[if_neg (fun h=>h3 (tl_nil.1 h)),decide_eq_false h3,Bool.not_false,Bool.true_and];exact Ev.now _
     ·simp only[if_neg h1,if_neg h1',if_neg h1''];exact Ev.now _
def lessB(a b:Entry):Bool:=Op.bytesLess a.f0.toList b.f0.toList
theorem lessB_iff{a b:Entry}:lessB a b=true↔a.f0.toList<b.f0.toList:=by simp[lessB,bl_eq]
def asc(t:List Entry)(i:Nat):Bool:=decide (i=0)||lessB (rdE t ((i - 1:Nat):Int)) (rdE t i)
def scan(t:List Entry):Nat->Nat->Bool
 |0,_=>true
 |d+1,i=>eOk (rdE t i) && asc t i && scan t d (i+1)
def same(u v:ByteArray):Bool:=decide (u.data.toList=v.data.toList)
def dirIn(t:List Entry)(u:ByteArray):Bool:=t.any fun e=>decide (e.f1=1) && same u e.f0
def upOk(t:List Entry)(e:Entry):Bool:=match lastS e.f0 e.f0.size with|some j=>dirIn t (e.f0.extract 0 j)|none=>true
def ups(t:List Entry):Nat->Nat->Bool
 |0,_=>true
 |d+1,i=>upOk t (rdE t i) && ups t d (i+1)
def treeOk(t:List Entry):Bool:=decide (t.length<=500) && scan t t.length 0 && ups t t.length 0
def eSmall(e:Entry):Prop:=e.f0.size<=1048576/\e.f2.size<=1048576
def tSmall(t:List Entry):Prop:=∀e ∈ t,eSmall e
theorem tSmall_at{t:List Entry}(h:tSmall t){i:Nat}(hi:i<t.length):eSmall (rdE t (i:Int)):=by
 rw[rdE_at t i hi];exact h _ (List.getElem_mem hi)
def dirsOf(t:List Entry)(i:Nat):List ByteArray:=((t.take i).filter fun e=>decide (e.f1=1)).map (·.f0)|>.reverse
theorem dirsOf_succ(t:List Entry)(i:Nat)(h:i<t.length):dirsOf t (i+1)=if(rdE t i).f1=1 then(rdE t i).f0::dirsOf t i else dirsOf t i:=by
 have e:t.take (i+1)=t.take i++[t[i]]:=by rw[List.take_add_one,List.getElem?_eq_getElem h];rfl
 unfold dirsOf;rw[e,List.filter_append,List.map_append,List.reverse_append,rdE_at t i h];by_cases hk:t[i].f1=1<;>simp[hk]
theorem has_dirs(t:List Entry)(u:ByteArray):MapSet.has u (dirsOf t t.length)=dirIn t u:=by
 unfold MapSet.has dirsOf dirIn same;rw[List.any_reverse,List.take_length,List.any_map,List.any_filter];rfl
theorem eGet(ds:List ByteArray)(u:ByteArray)(h:u.size<=1048576):MapSet.get ds u=some (if MapSet.has u ds then 1 else 0):=by
 unfold MapSet.get;rw[if_pos yo_]
theorem ePut(ds:List ByteArray)(u:ByteArray)(h:u.size<=1048576)(hd:ds.length<=1000000):MapSet.put ds u=some (u::ds):=by
 unfold MapSet.put;rw[if_pos ⟨by omega,by omega⟩]
theorem eUpsI(t:List Entry)(ht:tSmall t)(hl:t.length<=500)(ds:List ByteArray)(hd:∀u,MapSet.has u ds=dirIn t u):∀d i,t.length=i+d->Ev (fun k=>impl_TreeOk.l1 k ds t (t.length:Int) (i:Int)) (ups t d i)
 |0,i,h=>by
  refine Ev.step (fun k=>by rw[impl_TreeOk.l1]) ?_;simp only[if_neg (show¬(i:Int)<t.length by omega),ups];exact Ev.now _
 |d+1,i,h=>by
  have hs:=tSmall_at ht (show i<t.length by omega);refine Ev.step (fun k=>by rw[impl_TreeOk.l1]) ?_;simp only[if_pos (show(i:Int)<t.length by omega),if_pos (show(0:Int)<=i by omega),ups,upOk];refine Ev.bind (eUpI _ hs.1) ?_;have ih:=eUpsI t ht hl ds hd d (i+1) yo_;rw[w64n yo_];cases lastS (rdE t i).f0 (rdE t i).f0.size with
  |none=>simp only[Bool.false_eq_true,if_false,Bool.true_and];exact ih
  |some j=>
   simp only[if_true];refine Ev.bind (ev_eq (eGet ds _ (by rw[ByteArray.size_extract];exact Nat.le_trans (Nat.le_trans (Nat.sub_le _ _) (Nat.min_le_right _ _)) hs.1))) ?_;rw[hd];cases dirIn t ((rdE t i).f0.extract 0 j) with
   |false=>simp only[Bool.false_eq_true,if_false,if_true,Bool.false_and];exact Ev.now _
   |true=>simp only[if_true,Bool.true_and,if_neg (show¬(1:Int)=0 by decide)];exact ih
def kindOk(e:Entry):Bool:=if e.f1=1 then decide (e.f2.size=0) && !e.f3 else if e.f1=2 then true else if e.f1=3 then !decide (e.f2.size=0) && !e.f3 else false
def tailI(k:Nat)(t:List Entry)(ds:List ByteArray)(e:Entry)(n i:Int):Option Bool:=
 if e.f3=true then(if e.f1=2 then(if e.f1=1 then(if e.f2.toList=([]:List UInt8) then((MapSet.put ds e.f0).bind fun ds'=>impl_TreeOk.l0 k t ds' t n i) else some false) else(if(e.f2.size:Int)>20000 then some false else impl_TreeOk.l0 k t ds t n i)) else some false)
 else(if e.f1=1 then(if e.f2.toList=([]:List UInt8) then((MapSet.put ds e.f0).bind fun ds'=>impl_TreeOk.l0 k t ds' t n i) else some false) else(if e.f1=2 then(if(e.f2.size:Int)>20000 then some false else impl_TreeOk.l0 k t ds t n i) else(if e.f1=3 then(if(e.f2.size:Int)<1 then some false else(if(e.f2.size:Int)>20000 then some false else impl_TreeOk.l0 k t ds t n i)) else some false)))
theorem eTail(t:List Entry)(ds:List ByteArray)(e:Entry)(he:eSmall e)(hd:ds.length<=1000000)(n i:Int)(r:Bool)(ih:Ev (fun k=>impl_TreeOk.l0 k t (if e.f1=1 then e.f0::ds else ds) t n i) r):
 Ev (fun k=>tailI k t ds e n i) (decide (e.f2.size<=20000) && kindOk e && r):=by
 unfold tailI kindOk;by_cases hx:e.f3=true
 ·simp only[if_pos hx,hx,Bool.not_true,Bool.and_false];by_cases k2:e.f1=2
  ·have k1:¬e.f1=1:=by omega
   simp only[if_neg k1] at ih;simp only[if_pos k2,if_neg k1,Bool.and_true];by_cases h3:(e.f2.size:Int)>20000
   ·simp only[if_pos h3,decide_eq_false (show¬e.f2.size<=20000 by omega),Bool.false_and];exact Ev.now _
   ·simp only[if_neg h3,decide_eq_true (show e.f2.size<=20000 by omega),Bool.true_and];exact ih
  ·have hf:(if e.f1=1 then false else if e.f1=2 then true else if e.f1=3 then false else false)=false:=by simp[k2]
   simp only[if_neg k2];rw[show(if e.f1=1 then false else if e.f1=3 then false else false)=false by simp,Bool.and_false,Bool.false_and];exact Ev.now _
 ·have hx':e.f3=false:=by simpa using hx
  simp only[if_neg hx,hx',Bool.not_false,Bool.and_true];by_cases k1:e.f1=1
  ·simp only[if_pos k1] at ih;simp only[if_pos k1];by_cases h3:e.f2.size=0
   ·simp only[if_pos (tl_nil.2 h3),decide_eq_true h3,decide_eq_true (show e.f2.size<=20000 by omega),Bool.true_and];refine Ev.bind (ev_eq (ePut ds _ he.1 hd)) ?_;exact ih
   ·simp only[if_neg (fun h=>h3 (tl_nil.1 h)),decide_eq_false h3,Bool.and_false,Bool.false_and];exact Ev.now _
  ·simp only[if_neg k1] at ih;by_cases k2:e.f1=2
   ·simp only[if_neg k1,if_pos k2,Bool.and_true];by_cases h3:(e.f2.size:Int)>20000
    ·simp only[if_pos h3,decide_eq_false (show¬e.f2.size<=20000 by omega),Bool.false_and];exact Ev.now _
    ·simp only[if_neg h3,decide_eq_true (show e.f2.size<=20000 by omega),Bool.true_and];exact ih
   ·by_cases k3:e.f1=3
    ·simp only[if_neg k1,if_neg k2,if_pos k3];by_cases h4:(e.f2.size:Int)<1
     ·simp only[if_pos h4,decide_eq_true (show e.f2.size=0 by omega),Bool.not_true,Bool.and_false,Bool.false_and];exact Ev.now _
     ·by_cases h3:(e.f2.size:Int)>20000
      ·simp only[if_neg h4,if_pos h3,decide_eq_false (show¬e.f2.size<=20000 by omega),Bool.false_and];exact Ev.now _
      ·simp only[if_neg h4,if_neg h3,decide_eq_true (show e.f2.size<=20000 by omega),decide_eq_false (show¬e.f2.size=0 by omega),Bool.not_false,Bool.true_and];exact ih
    ·simp only[if_neg k1,if_neg k2,if_neg k3,Bool.and_false,Bool.false_and];exact Ev.now _
theorem dirsOf_len(t:List Entry)(i:Nat):(dirsOf t i).length<=i:=by
 unfold dirsOf;rw[List.length_reverse,List.length_map];exact Nat.le_trans (List.length_filter_le _ _) (by simp;omega)
theorem eScanI(t:List Entry)(ht:tSmall t)(hl:t.length<=500):∀d i,t.length=i+d->Ev (fun k=>impl_TreeOk.l0 k t (dirsOf t i) t (t.length:Int) (i:Int)) (scan t d i && ups t t.length 0)
 |0,i,h=>by
  refine Ev.step (fun k=>by rw[impl_TreeOk.l0]) ?_;have hi:i=t.length:=by omega
  subst hi;simp only[if_neg (show¬(t.length:Int)<t.length by omega),scan,Bool.true_and];exact eUpsI t ht hl _ (has_dirs t) t.length 0 yo_
 |d+1,i,h=>by
  have hi:i<t.length:=by omega
  have hs:=tSmall_at ht hi;have ih:=eScanI t ht hl d (i+1) yo_;rw[dirsOf_succ t i hi] at ih;have hdl:=dirsOf_len t i;have hT:=eTail t (dirsOf t i) (rdE t i) hs yo_ _ _ _ ih;have hE:eOk (rdE t i)=(pathOk (rdE t i).f0 && (decide ((rdE t i).f2.size<=20000) && kindOk (rdE t i))):=by unfold eOk kindOk;rw[Bool.and_assoc]
  refine Ev.step (fun k=>by rw[impl_TreeOk.l0]) ?_;simp only[if_pos (show(i:Int)<t.length by omega),if_pos (show(0:Int)<=i by omega),scan,hE];refine Ev.bind (ePathI _ hs.1) ?_;rw[w64n yo_];cases hp:pathOk (rdE t i).f0 with
  |false=>simp only[Bool.false_eq_true,if_false,Bool.false_and];exact Ev.now _
  |true=>
   simp only[if_true,Bool.true_and];cases i with
   |zero=>
    have e:asc t 0=true:=by simp[asc]
    simp only[if_neg (show¬((0:Nat):Int)>0 by decide),e,Bool.and_true];rw[Bool.and_assoc];exact hT
   |succ i=>
    have e:asc t (i+1)=Op.bytesLess (rdE t (i:Int)).f0.toList (rdE t ((i+1:Nat):Int)).f0.toList:=by simp[asc,lessB]
    simp only[w64p (show i<4611686018427387904 by omega),if_pos (show((i+1:Nat):Int)>0 by omega),if_pos (show(0:Int)<=(i:Int) by omega),if_pos (show(i:Int)<t.length by omega),e];cases Op.bytesLess (rdE t (i:Int)).f0.toList (rdE t ((i+1:Nat):Int)).f0.toList with
    |false=>simp only[Bool.false_eq_true,if_false,Bool.and_false,Bool.false_and];exact Ev.now _
    |true=>
     simp only[if_true,Bool.and_true];rw[Bool.and_assoc];exact hT
theorem eTreeI(t:List Entry)(ht:tSmall t):Ev (fun k=>impl_TreeOk.f k t) (treeOk t):=by
 unfold impl_TreeOk.f treeOk;by_cases hl:(t.length:Int)>500
 ·simp only[if_pos hl,decide_eq_false (show¬t.length<=500 by omega),Bool.false_and];exact Ev.now _
 ·simp only[if_neg hl,decide_eq_true (show t.length<=500 by omega),Bool.true_and];exact eScanI t ht yo_ t.length 0 yo_
theorem same_iff{u v:ByteArray}:same u v=true↔u.toList=v.toList:=by simp[same,ByteArray.toList_eq]
def Asc(x:List Entry)(n:Nat):Prop:=∀i j:Nat,i<j->j<n->(rdE x i).f0.toList<(rdE x j).f0.toList
theorem rdE_take(t:List Entry)(n j:Nat)(h:j<n):rdE (t.take n) (j:Int)=rdE t (j:Int):=by
 show(t.take n).getD j zEntry=t.getD j zEntry
 simp[List.getD_eq_getElem?_getD,List.getElem?_take,h]
theorem eFind(x:List Entry)(u:ByteArray)(hl:x.length<=1048576)(ha:Asc x x.length):∀(d lo hi:Nat),hi<=lo+d->lo<=hi->hi<=x.length->(∀j:Nat,j<lo->(rdE x j).f0.toList<u.toList)->(∀j:Nat,hi<=j->j<x.length->¬(rdE x j).f0.toList<u.toList)->
 ∃r:Int,Ev (fun k=>spec_l10Find.l0 k x u (lo:Int) (hi:Int)) r/\((0<=r/\r<x.length/\(rdE x r).f0.toList=u.toList)\/(r= -1/\∀j:Nat,j<x.length->(rdE x j).f0.toList≠u.toList))
 |d,lo,hi,hd,h1,h2,h3,h4=>by
  by_cases hlt:lo<hi
  ·obtain⟨d,rfl⟩:∃e,d=e+1:=⟨d - 1,by omega⟩
   have hm:wrap64 (Int.tdiv (wrap64 ((lo:Int)+(hi:Int))) 2)=(((lo+hi) / 2:Nat):Int):=by
    rw[wrap64_small (n:=(lo:Int)+(hi:Int)) yo_ yo_,Int.tdiv_eq_ediv_of_nonneg yo_,wrap64_small yo_ yo_];omega
   generalize hM:(lo+hi) / 2=m at hm;have hm1:lo<=m:=by omega
   have hm2:m<hi:=by omega
   by_cases hc:(rdE x m).f0.toList<u.toList
   ·obtain⟨r,ih,hr⟩:=eFind x u hl ha d (m+1) hi yo_ yo_ h2 (fun j hj=>by
     rcases Nat.lt_or_eq_of_le (Nat.le_of_lt_succ hj) with h|h
     ·exact List.lt_trans (ha j m h yo_) hc
     ·subst h;exact hc) h4
    refine⟨r,Ev.step (fun k=>by rw[spec_l10Find.l0]) ?_,hr⟩;have hb:Op.bytesLess (rdE x (m:Int)).f0.toList u.toList=true:=by rw[bl_eq];exact decide_eq_true hc
    simp only[if_pos (show(lo:Int)<hi by omega),hm,if_pos (show(0:Int)<=m by omega),if_pos (show(m:Int)<x.length by omega),if_pos hb];rw[w64n yo_];exact ih
   ·obtain⟨r,ih,hr⟩:=eFind x u hl ha d lo m yo_ hm1 yo_ h3 (fun j hj hjl=>by
     rcases Nat.lt_or_eq_of_le hj with h|h
     ·intro h5;exact hc (List.lt_trans (ha m j h hjl) h5)
     ·subst h;exact hc)
    refine⟨r,Ev.step (fun k=>by rw[spec_l10Find.l0]) ?_,hr⟩;have hb:¬Op.bytesLess (rdE x (m:Int)).f0.toList u.toList=true:=by rw[bl_eq];simpa using hc
    simp only[if_pos (show(lo:Int)<hi by omega),hm,if_pos (show(0:Int)<=m by omega),if_pos (show(m:Int)<x.length by omega),if_neg hb];exact ih
  ·obtain rfl:hi=lo:=by omega
   by_cases hin:hi<x.length
   ·by_cases he:(rdE x hi).f0.toList=u.toList
    ·refine⟨hi,Ev.step (fun k=>by rw[spec_l10Find.l0]) ?_,Or.inl ⟨by omega,by omega,he⟩⟩;simp only[if_neg (show¬(hi:Int)<hi by omega),if_pos (show(hi:Int)<x.length by omega),if_pos (show(0:Int)<=hi by omega),if_pos he];exact Ev.now _
    ·refine⟨-1,Ev.step (fun k=>by rw[spec_l10Find.l0]) ?_,Or.inr ⟨rfl,fun j hj=>?_⟩⟩
     ·simp only[if_neg (show¬(hi:Int)<hi by omega),if_pos (show(hi:Int)<x.length by omega),if_pos (show(0:Int)<=hi by omega),if_neg he];exact Ev.now _
     ·intro e;rcases Nat.lt_trichotomy j hi with h|h|h
      ·exact List.lt_irrefl _ (e ▸ h3 j h)
      ·subst h;exact he e
      ·exact h4 hi (Nat.le_refl _) hin (e ▸ ha hi j h hj)
   ·refine⟨-1,Ev.step (fun k=>by rw[spec_l10Find.l0]) ?_,Or.inr ⟨rfl,fun j hj e=>?_⟩⟩
    ·simp only[if_neg (show¬(hi:Int)<hi by omega),if_neg (show¬(hi:Int)<x.length by omega)];exact Ev.now _
    ·exact List.lt_irrefl _ (e ▸ h3 j yo_)
theorem eDir(x:List Entry)(u:ByteArray)(hl:x.length<=1048576)(ha:Asc x x.length):Ev (fun k=>spec_l10Dir.f k x u) (dirIn x u):=by
 unfold spec_l10Dir.f spec_l10Find.f;obtain⟨r,h,hr⟩:=eFind x u hl ha x.length 0 x.length yo_ yo_ (Nat.le_refl _) (fun j h=>absurd h (Nat.not_lt_zero _)) (fun j h1 h2=>by omega);refine Ev.bind h ?_;rcases hr with⟨h0,h1,h2⟩|⟨h0,h1⟩
 ·simp only[if_pos (show r>=0 from h0),if_pos h0,if_pos h1];obtain⟨n,rfl⟩:=Int.eq_ofNat_of_zero_le h0;have hn:n<x.length:=by omega
  have e:dirIn x u=((rdE x (n:Int)).f1==1):=by
   rw[Bool.eq_iff_iff];unfold dirIn;rw[List.any_eq_true];constructor
   ·rintro⟨e,he,hh⟩;obtain⟨j,hj,rfl⟩:=List.mem_iff_getElem.1 he;rw[Bool.and_eq_true,same_iff,<-rdE_at x j hj] at hh;have:j=n:=by
     rcases Nat.lt_trichotomy j n with h|h|h
     ·exact absurd (ha j n h hn) (by rw[h2,<-hh.2];exact List.lt_irrefl _)
     ·exact h
     ·exact absurd (ha n j h hj) (by rw[h2,<-hh.2];exact List.lt_irrefl _)
    subst this;simpa using hh.1
   ·intro hk;refine⟨rdE x (n:Int),by rw[rdE_at x n hn];exact List.getElem_mem hn,?_⟩;rw[Bool.and_eq_true,same_iff];exact⟨by simpa using hk,h2.symm⟩
  rw[e];exact Ev.now _
 ·subst h0;have e:dirIn x u=false:=by
   unfold dirIn;rw[List.any_eq_false];intro e he;obtain⟨j,hj,rfl⟩:=List.mem_iff_getElem.1 he;rw[Bool.and_eq_true,same_iff,<-rdE_at x j hj];exact fun hh=>h1 j hj hh.2.symm
  rw[e];simp only[if_neg (show¬(-1:Int)>=0 by decide)];exact Ev.now _
theorem pathOk_slash{s:ByteArray}(hp:pathOk s=true){j:Nat}(hj:lastS s s.size=some j):j≠0:=by
 rintro rfl;have h1:=lastS_lt s _ _ hj;have h2:=lastS_47 s _ _ hj;unfold pathOk at hp;obtain⟨d,hd⟩:∃d,s.size=d+1:=⟨s.size - 1,by omega⟩
 rw[hd] at hp;simp only[segOk,if_pos h2] at hp;have:nameOk (s.extract 0 0)=false:=by simp[nameOk]
 rw[this] at hp;simp at hp
theorem up_less(s:ByteArray)(j:Nat)(h:j<s.size):(s.extract 0 j).toList<s.toList:=by
 rw[ByteArray.toList_eq,ByteArray.toList_eq,ext_data,List.drop_zero];have hl:=size_l s;have:s.data.toList=s.data.toList.take j++s.data.toList.drop j:=(List.take_append_drop j _).symm;have hne:s.data.toList.drop j≠[]:=by
  intro e;have:=congrArg List.length e;simp at this;rw[<-hl] at h;simp at h;omega
 conv=>rhs;rw[this]
 generalize s.data.toList.take j=a;generalize s.data.toList.drop j=b at hne;clear this;induction a with
 |nil=>cases b with
  |nil=>exact absurd rfl hne
  |cons c b=>exact List.nil_lt_cons c b
 |cons c a ih=>simpa[List.cons_lt_cons_iff] using ih
theorem dir_take(t:List Entry)(i:Nat)(u:ByteArray)(ha:∀j:Nat,i<=j->j<t.length->u.toList<(rdE t j).f0.toList):dirIn (t.take i) u=dirIn t u:=by
 rw[Bool.eq_iff_iff];unfold dirIn;rw[List.any_eq_true,List.any_eq_true];constructor
 ·rintro⟨e,he,hh⟩;exact⟨e,List.mem_of_mem_take he,hh⟩
 ·rintro⟨e,he,hh⟩;obtain⟨j,hj,rfl⟩:=List.mem_iff_getElem.1 he;refine⟨_,?_,hh⟩;by_cases hji:j<i
  ·have:(t.take i)[j]'(by simp;omega)=t[j]:=by simp
   rw[<-this];exact List.getElem_mem _
  ·rw[Bool.and_eq_true,same_iff,<-rdE_at t j hj] at hh;exact absurd (ha j yo_ hj) (by rw[hh.2];exact List.lt_irrefl _)
theorem asc_chain(t:List Entry)(n:Nat)(h:∀i:Nat,i<n->asc t i=true):Asc t n:=by
 intro i j hij hj;induction j with
 |zero=>omega
 |succ j ih=>
  have h1:=h (j+1) hj;unfold asc at h1;rw[decide_eq_false yo_,Bool.false_or,lessB_iff] at h1;simp only[Nat.add_sub_cancel] at h1;rcases Nat.lt_or_eq_of_le (Nat.le_of_lt_succ hij) with h2|h2
  ·exact List.lt_trans (ih h2 yo_) h1
  ·subst h2;exact h1
theorem scan_all(t:List Entry):∀d i,t.length=i+d->scan t d i=true->∀j:Nat,i<=j->j<t.length->eOk (rdE t j)=true/\asc t j=true
 |0,i,h,hs,j,h1,h2=>by omega
 |d+1,i,h,hs,j,h1,h2=>by
  simp only[scan,Bool.and_eq_true] at hs;rcases Nat.lt_or_eq_of_le h1 with h3|h3
  ·exact scan_all t d (i+1) yo_ hs.2 j h3 h2
  ·subst h3;exact hs.1
theorem eScanS(t:List Entry)(ht:tSmall t)(hl:t.length<=500):∀d i,t.length=i+d->(∀j:Nat,j<i->eOk (rdE t j)=true/\asc t j=true)->
 ∃b,Ev (fun k=>spec_TreeOk.l0 k t (i:Int)) b/\(scan t d i=false->b=false)/\(scan t d i=true->b=ups t d i)
 |0,i,h,hb=>by
  refine⟨true,Ev.step (fun k=>by rw[spec_TreeOk.l0]) ?_,by simp[scan],by simp[ups]⟩;simp only[if_neg (show¬(i:Int)<t.length by omega)];exact Ev.now _
 |d+1,i,h,hb=>by
  have hi:i<t.length:=by omega
  have hs:=tSmall_at ht hi;cases he:eOk (rdE t i) with
  |false=>
   refine⟨false,Ev.step (fun k=>by rw[spec_TreeOk.l0]) ?_,fun _=>rfl,by simp[scan,he]⟩;simp only[if_pos (show(i:Int)<t.length by omega),if_pos (show(0:Int)<=i by omega)];refine Ev.bind (eEntryS _ hs.1) ?_;simp only[he,Bool.false_eq_true,if_false];refine Ev.step (fun k=>by rw[spec_TreeOk.j1]) ?_;simp only[if_true];exact Ev.now _
  |true=>
   have hj:∀b,Ev (fun k=>spec_TreeOk.j1 k t (i:Int) (!(asc t i))) b->Ev (fun k=>spec_TreeOk.l0 k t (i:Int)) b:=by
    intro b hb;refine Ev.step (fun k=>by rw[spec_TreeOk.l0]) ?_;simp only[if_pos (show(i:Int)<t.length by omega),if_pos (show(0:Int)<=i by omega)];refine Ev.bind (eEntryS _ hs.1) ?_;simp only[he,if_true];cases i with
    |zero=>
     have:asc t 0=true:=by simp[asc]
     rw[this] at hb;simp only[if_neg (show¬((0:Nat):Int)>0 by decide)];exact hb
    |succ i=>
     have e:asc t (i+1)=Op.bytesLess (rdE t (i:Int)).f0.toList (rdE t ((i+1:Nat):Int)).f0.toList:=by simp[asc,lessB]
     rw[e] at hb;simp only[w64p (show i<4611686018427387904 by omega),if_pos (show((i+1:Nat):Int)>0 by omega),if_pos (show(0:Int)<=(i:Int) by omega),if_pos (show(i:Int)<t.length by omega)];exact hb
   cases hc:asc t i with
   |false=>
    refine⟨false,hj _ ?_,fun _=>rfl,by simp[scan,hc]⟩;rw[hc];refine Ev.step (fun k=>by rw[spec_TreeOk.j1]) ?_;simp only[Bool.not_false,if_true];exact Ev.now _
   |true=>
    obtain⟨b,ih,h1,h2⟩:=eScanS t ht hl d (i+1) yo_ (fun j hj=>by
     rcases Nat.lt_or_eq_of_le (Nat.le_of_lt_succ hj) with h|h
     ·exact hb j h
     ·subst h;exact⟨he,hc⟩)
    have hp:pathOk (rdE t i).f0=true:=by
     unfold eOk at he;simp only[Bool.and_eq_true] at he;exact he.1.1
    cases hL:lastS (rdE t i).f0 (rdE t i).f0.size with
    |none=>
     refine⟨b,hj _ ?_,by simpa[scan,he,hc] using h1,by simpa[scan,ups,upOk,he,hc,hL] using h2⟩;rw[hc];refine Ev.step (fun k=>by rw[spec_TreeOk.j1]) ?_;simp only[Bool.not_true,Bool.false_eq_true,if_false,if_pos (show(i:Int)<t.length by omega),if_pos (show(0:Int)<=i by omega)];have hu:=eUpS (rdE t i).f0 hs.1;rw[hL] at hu;refine Ev.bind hu ?_;refine Ev.congr (fun k=>if_pos (tl_nil.2 rfl)) ?_;rw[w64n yo_];exact ih
    |some j=>
     have hj0:=pathOk_slash hp hL;have hjl:=lastS_lt _ _ _ hL;have hAsc:Asc t i:=asc_chain t i fun j hj=>(hb j hj).2;have hAt:Asc (t.take i) (t.take i).length:=by
      intro a b hab hbl;simp at hbl;rw[rdE_take t i a yo_,rdE_take t i b yo_];exact hAsc a b hab yo_
     have hdir:=eDir (t.take i) ((rdE t i).f0.extract 0 j) (by simp;omega) hAt;cases hD:dirIn (t.take i) ((rdE t i).f0.extract 0 j) with
     |false=>
      refine⟨false,hj _ ?_,fun _=>rfl,fun hsc=>?_⟩
      ·rw[hc];refine Ev.step (fun k=>by rw[spec_TreeOk.j1]) ?_;simp only[Bool.not_true,Bool.false_eq_true,if_false,if_pos (show(i:Int)<t.length by omega),if_pos (show(0:Int)<=i by omega)];have hu:=eUpS (rdE t i).f0 hs.1;rw[hL] at hu;refine Ev.bind hu ?_;refine Ev.congr (fun k=>if_neg (fun h=>by have:=tl_nil.1 h;rw[ByteArray.size_extract] at this;omega)) ?_;refine Ev.congr (fun k=>if_pos (show(i:Int)<=t.length by omega)) ?_;refine Ev.bind (by simpa using hdir) ?_;rw[hD];exact Ev.now _
      ·have hall:=scan_all t (d+1) i h hsc;have hfull:Asc t t.length:=asc_chain t _ fun j hj=>by
        by_cases h:j<i
        ·exact(hb j h).2
        ·exact(hall j yo_ hj).2
       have:upOk t (rdE t i)=false:=by
        unfold upOk;rw[hL,<-hD];exact(dir_take t i _ fun j' h1 h2=>by
         have:=up_less (rdE t i).f0 j hjl;rcases Nat.lt_or_eq_of_le h1 with h|h
         ·exact List.lt_trans this (hfull i j' h h2)
         ·subst h;exact this).symm
       simp[ups,this]
     |true=>
      refine⟨b,hj _ ?_,by simpa[scan,he,hc] using h1,fun hsc=>?_⟩
      ·rw[hc];refine Ev.step (fun k=>by rw[spec_TreeOk.j1]) ?_;simp only[Bool.not_true,Bool.false_eq_true,if_false,if_pos (show(i:Int)<t.length by omega),if_pos (show(0:Int)<=i by omega)];have hu:=eUpS (rdE t i).f0 hs.1;rw[hL] at hu;refine Ev.bind hu ?_;refine Ev.congr (fun k=>if_neg (fun h=>by have:=tl_nil.1 h;rw[ByteArray.size_extract] at this;omega)) ?_;refine Ev.congr (fun k=>if_pos (show(i:Int)<=t.length by omega)) ?_;refine Ev.bind (by simpa using hdir) ?_;rw[hD,w64n yo_];exact ih
      ·have:upOk t (rdE t i)=true:=by
        unfold upOk;rw[hL];show dirIn t _=true
        unfold dirIn at hD⊢;rw[List.any_eq_true] at hD⊢;obtain⟨e,he,hh⟩:=hD;exact⟨e,List.mem_of_mem_take he,hh⟩
       simp only[ups,this,Bool.true_and];exact h2 (by simpa[scan,he,hc] using hsc)
theorem eTreeS(t:List Entry)(ht:tSmall t):Ev (fun k=>spec_TreeOk.f k t) (treeOk t):=by
 unfold spec_TreeOk.f treeOk;by_cases hl:(t.length:Int)>500
 ·simp only[if_pos hl,decide_eq_false (show¬t.length<=500 by omega),Bool.false_and];exact Ev.now _
 ·simp only[if_neg hl,decide_eq_true (show t.length<=500 by omega),Bool.true_and];obtain⟨b,h,h1,h2⟩:=eScanS t ht yo_ t.length 0 yo_ (fun j h=>absurd h (Nat.not_lt_zero _));have e:b=(scan t t.length 0 && ups t t.length 0):=by
   cases hs:scan t t.length 0 with
   |false=>rw[h1 hs];rfl
   |true=>rw[h2 hs];rfl
  rw[<-e];exact h
end P
end Go.Proofs.YtgccknmddhbdgaaGreatDoor.Q
