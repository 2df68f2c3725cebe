import Derived.Test.YtgccknmddhbdgaaGreatDoorE04
namespace Go.Proofs.YtgccknmddhbdgaaGreatDoor.Q
open Go.RowKit W1 W2 W3
namespace P
def isL(c:Int):Bool:=decide (97<=c/\c<=122)||decide (65<=c/\c<=90)
def isD(c:Int):Bool:=decide (48<=c/\c<=57)
def isX(c:Int):Bool:=c==45||c==95||c==46||c==43
def okRun(s:ByteArray):Nat->Nat->Bool
 |0,_=>true
 |r+1,i=>(isL (bt s i)||isD (bt s i)||isX (bt s i)) && okRun s r (i+1)
def nameOk(s:ByteArray):Bool:=decide (1<=s.size) && decide (s.size<=60) && !(bt s 0==46) && okRun s s.size 0
theorem wrap64_small{n:Int}(h0: -9223372036854775808<=n)(h1:n<9223372036854775808):wrap64 n=n:=by
 unfold wrap64;omega
theorem wrap32_small{n:Int}(h0: -2147483648<=n)(h1:n<2147483648):wrap32 n=n:=by
 unfold wrap32;omega
theorem iletter(c:Int):impl_letter.f c=some (isL c):=by
 unfold impl_letter.f isL
 repeat' split
 all_goals(congr 1;rw[Bool.eq_iff_iff];simp;try omega)
theorem sletter(c:Int):spec_l1Letter.f c=some (isL c):=by
 unfold spec_l1Letter.f isL
 repeat' split
 all_goals(congr 1;rw[Bool.eq_iff_iff];simp;try omega)
theorem idigit(c:Int):impl_digit.f c=some (isD c):=by
 unfold impl_digit.f isD
 repeat' split
 all_goals(congr 1;rw[Bool.eq_iff_iff];simp;try omega)
theorem sdigit(c:Int):spec_l1Digit.f c=some (isD c):=by
 unfold spec_l1Digit.f isD
 repeat' split
 all_goals(congr 1;rw[Bool.eq_iff_iff];simp;try omega)
theorem irune(c:Int)(h0:0<=c)(h1:c<=255):strings_ContainsRune.f (⟨#[45,95,46,43]⟩:ByteArray) (wrap32 c)=some (isX c):=by
 rw[wrap32_small yo_ yo_];obtain⟨n,rfl⟩:=Int.eq_ofNat_of_zero_le h0;have hn:n<256:=by omega
 have:=(by decide+kernel:∀m:Fin 256,strings_ContainsRune.f (⟨#[45,95,46,43]⟩:ByteArray) ((m.val:Nat):Int)=some (isX ((m.val:Nat):Int))) ⟨n,hn⟩
 exact this
theorem iloop(s:ByteArray)(hs:s.size<=1048576):∀r i k,s.size=i+r->r<k->impl_NameOk.l0 k s (s.size:Int) (i:Int)=some (okRun s r i)
 |0,i,k+1,h,_=>by
  simp only[impl_NameOk.l0,okRun];rw[if_neg yo_]
 |r+1,i,k+1,h,hk=>by
  have hb:=bt_range s i;have ih:=iloop s hs r (i+1) k yo_ yo_;have hw:wrap64 ((i:Int)+1)=((i+1:Nat):Int):=by rw[wrap64_small yo_ yo_];omega
  simp only[impl_NameOk.l0,okRun];rw[if_pos yo_,if_pos yo_,if_pos yo_,iletter,idigit,irune _ hb.1 hb.2,hw,ih];cases isL (bt s i)<;>cases isD (bt s i)<;>cases isX (bt s i)<;>simp
theorem sloop(s:ByteArray)(hs:s.size<=1048576):∀r i k,s.size=i+r->r<k->spec_NameOk.l0 k s (i:Int)=some (okRun s r i)
 |0,i,k+1,h,_=>by
  simp only[spec_NameOk.l0,okRun];rw[if_neg yo_]
 |r+1,i,k+1,h,hk=>by
  have ih:=sloop s hs r (i+1) k yo_ yo_;have hw:wrap64 ((i:Int)+1)=((i+1:Nat):Int):=by rw[wrap64_small yo_ yo_];omega
  simp only[spec_NameOk.l0,okRun];rw[if_pos yo_,if_pos yo_,sletter,sdigit,hw,ih];cases isL (bt s i)<;>cases isD (bt s i)<;>simp[isX]<;>repeat' split
  all_goals simp_all
theorem iNameOk(s:ByteArray)(k:Nat)(hk:63<=k):impl_NameOk.f k s=some (nameOk s):=by
 obtain⟨k,rfl⟩:∃j,k=j+1:=⟨k - 1,by omega⟩
 unfold impl_NameOk.f nameOk;by_cases h1:(s.size:Int)<1
 ·rw[if_pos h1];simp[impl_NameOk.j0];omega
 ·rw[if_neg h1];by_cases h2:(s.size:Int)>60
  ·rw[if_pos h2];simp[impl_NameOk.j0];omega
  ·rw[if_neg h2,if_pos yo_];simp only[impl_NameOk.j0];rw[show(0:Int)=((0:Nat):Int) from rfl,iloop s yo_ s.size 0 k yo_ yo_];have e1:decide (1<=s.size)=true:=decide_eq_true yo_;have e2:decide (s.size<=60)=true:=decide_eq_true yo_;rw[e1,e2];cases bt s ((0:Nat):Int)==46<;>simp
theorem sNameOk(s:ByteArray)(k:Nat)(hk:63<=k):spec_NameOk.f k s=some (nameOk s):=by
 obtain⟨k,rfl⟩:∃j,k=j+1:=⟨k - 1,by omega⟩
 unfold spec_NameOk.f nameOk;by_cases h1:(s.size:Int)<1
 ·rw[if_pos h1];simp[spec_NameOk.j0];omega
 ·rw[if_neg h1];by_cases h2:(s.size:Int)>60
  ·rw[if_pos h2];simp[spec_NameOk.j0];omega
  ·rw[if_neg h2,if_pos yo_];simp only[spec_NameOk.j0];rw[show(0:Int)=((0:Nat):Int) from rfl,sloop s yo_ s.size 0 k yo_ yo_];have e1:decide (1<=s.size)=true:=decide_eq_true yo_;have e2:decide (s.size<=60)=true:=decide_eq_true yo_;rw[e1,e2];cases bt s ((0:Nat):Int)==46<;>simp
theorem ev_eq{α:Type}{x:Option α}{r:α}(h:x=some r):Ev (fun _=>x) r:=⟨0,fun _ _=>h⟩
theorem ev_at{α:Type}{g:Nat->Option α}{r:α}(K:Nat)(h:∀k,K<=k->g k=some r):Ev g r:=⟨K,h⟩
theorem w64n{i:Nat}(h:i<4611686018427387904):wrap64 ((i:Int)+1)=((i+1:Nat):Int):=by rw[wrap64_small yo_ yo_];omega
theorem w64p{i:Nat}(h:i<4611686018427387904):wrap64 (((i+1:Nat):Int) - 1)=(i:Int):=by rw[wrap64_small yo_ yo_];omega
theorem eNameI(s:ByteArray):Ev (fun k=>impl_NameOk.f k s) (nameOk s):=ev_at 63 fun k hk=>iNameOk s k hk
theorem eNameS(s:ByteArray):Ev (fun k=>spec_NameOk.f k s) (nameOk s):=ev_at 63 fun k hk=>sNameOk s k hk
def alpha:ByteArray:=⟨#[48,49,50,51,52,53,54,55,56,57,97,98,99,100,102,103,104,105,106,107,108,109,110,112,113,114,115,118,119,120,121,122]⟩
def ix(c:Int):Int:=Lib.indexByte alpha.data.toList c.toNat.toUInt8
theorem ix_spec:∀m:Fin 256,spec_l1Index.f 40 ((m.val:Nat):Int)=some (ix ((m.val:Nat):Int))/\ -1<=ix ((m.val:Nat):Int)/\ix ((m.val:Nat):Int)<=31:=by decide+kernel
theorem ix_range(c:Int)(h0:0<=c)(h1:c<=255): -1<=ix c/\ix c<=31:=by
 obtain⟨n,rfl⟩:=Int.eq_ofNat_of_zero_le h0;exact(ix_spec ⟨n,by omega⟩).2
theorem eIndexS(c:Int)(h0:0<=c)(h1:c<=255):Ev (fun k=>spec_l1Index.f k c) (ix c):=by
 obtain⟨n,rfl⟩:=Int.eq_ofNat_of_zero_le h0;exact Ev.of (fun k=>spec_l1Index.mono _ k) (ix_spec ⟨n,by omega⟩).1
theorem eIndexI(c:Int):strings_IndexByte.f alpha c=some (ix c):=rfl
def rwOk(s:ByteArray):Nat->Nat->Bool
 |0,_=>true
 |r+1,i=>decide (0<=ix (bt s i)) && (decide (i≠0)||decide (ix (bt s i)<=15)) && rwOk s r (i+1)
theorem eRwI(s:ByteArray)(hs:s.size=13):∀(r i:Nat) (x:Int),13=i+r->∃v,Ev (fun k=>impl_ReadWord32.l0 k s x (s.size:Int) (i:Int)) (v,rwOk s r i)
 |0,i,x,h=>⟨x,by
  refine Ev.step (fun k=>by rw[impl_ReadWord32.l0]) ?_;simp only[if_neg (show¬((i:Int)<(s.size:Int)) by omega),rwOk];exact Ev.now _⟩
 |r+1,i,x,h=>by
  have hb:=bt_range s i;have hx:=ix_range _ hb.1 hb.2;by_cases h1:ix (bt s i)<0
  ·refine⟨0,?_⟩;refine Ev.step (fun k=>by rw[impl_ReadWord32.l0]) ?_;simp only[if_pos (show((i:Int)<(s.size:Int)) by omega),if_pos (show(0:Int)<=i by omega)];refine Ev.bind (ev_eq (eIndexI _)) ?_;simp only[if_pos h1,rwOk,decide_eq_false (show¬(0<=ix (bt s i)) by omega),Bool.false_and];exact Ev.now _
  ·by_cases h2:i=0/\ix (bt s i)>15
   ·refine⟨0,?_⟩;refine Ev.step (fun k=>by rw[impl_ReadWord32.l0]) ?_;simp only[if_pos (show((i:Int)<(s.size:Int)) by omega),if_pos (show(0:Int)<=i by omega)];refine Ev.bind (ev_eq (eIndexI _)) ?_;have e1:decide (i≠0)=false:=decide_eq_false yo_;have e2:decide (ix (bt s i)<=15)=false:=decide_eq_false yo_;simp only[if_neg h1,if_pos (show(i:Int)=0 by omega),if_pos h2.2,rwOk,e1,e2,Bool.or_false,Bool.and_false,Bool.false_and];exact Ev.now _
   ·obtain⟨v,ih⟩:=eRwI s hs r (i+1) (Go.bits .or .u64 (IntKind.u64.wrap (x*32)) (IntKind.u64.wrap (ix (bt s i)))) yo_;refine⟨v,?_⟩;refine Ev.step (fun k=>by rw[impl_ReadWord32.l0]) ?_;simp only[if_pos (show((i:Int)<(s.size:Int)) by omega),if_pos (show(0:Int)<=i by omega)];refine Ev.bind (ev_eq (eIndexI _)) ?_;have e1:decide (0<=ix (bt s i))=true:=decide_eq_true yo_;have e2:(decide (i≠0)||decide (ix (bt s i)<=15))=true:=by simp;omega
    simp only[if_neg h1,rwOk,e1,e2,Bool.and_self,Bool.true_and];rw[w64n yo_];by_cases h3:i=0
    ·simp only[if_pos (show(i:Int)=0 by omega),if_neg (show¬ix (bt s i)>15 by omega)];exact ih
    ·simp only[if_neg (show¬(i:Int)=0 by omega)];exact ih
theorem eRwS(s:ByteArray)(hs:s.size=13):∀(r i:Nat) (x:Int),13=i+r->∃v,Ev (fun k=>spec_ReadWord32.l0 k s x (i:Int)) (v,rwOk s r i)
 |0,i,x,h=>⟨x,by
  refine Ev.step (fun k=>by rw[spec_ReadWord32.l0]) ?_;simp only[if_neg (show¬((i:Int)<13) by omega),rwOk];exact Ev.now _⟩
 |r+1,i,x,h=>by
  have hb:=bt_range s i;have hx:=ix_range _ hb.1 hb.2;by_cases h1:ix (bt s i)<0
  ·refine⟨0,?_⟩;refine Ev.step (fun k=>by rw[spec_ReadWord32.l0]) ?_;simp only[if_pos (show((i:Int)<13) by omega),if_pos (show(i:Int)<s.size by omega),if_pos (show(0:Int)<=i by omega)];refine Ev.bind (eIndexS _ hb.1 hb.2) ?_;simp only[if_pos h1,rwOk,decide_eq_false (show¬(0<=ix (bt s i)) by omega),Bool.false_and];exact Ev.now _
  ·by_cases h2:i=0/\ix (bt s i)>15
   ·refine⟨0,?_⟩;refine Ev.step (fun k=>by rw[spec_ReadWord32.l0]) ?_;simp only[if_pos (show((i:Int)<13) by omega),if_pos (show(i:Int)<s.size by omega),if_pos (show(0:Int)<=i by omega)];refine Ev.bind (eIndexS _ hb.1 hb.2) ?_;have e1:decide (i≠0)=false:=decide_eq_false yo_;have e2:decide (ix (bt s i)<=15)=false:=decide_eq_false yo_;simp only[if_neg h1,if_pos (show(i:Int)=0 by omega),if_pos h2.2,rwOk,e1,e2,Bool.or_false,Bool.and_false,Bool.false_and];exact Ev.now _
   ·obtain⟨v,ih⟩:=eRwS s hs r (i+1) (IntKind.u64.wrap ((IntKind.u64.wrap (x*32))+(IntKind.u64.wrap (ix (bt s i))))) yo_;refine⟨v,?_⟩;refine Ev.step (fun k=>by rw[spec_ReadWord32.l0]) ?_;simp only[if_pos (show((i:Int)<13) by omega),if_pos (show(i:Int)<s.size by omega),if_pos (show(0:Int)<=i by omega)];refine Ev.bind (eIndexS _ hb.1 hb.2) ?_;have e1:decide (0<=ix (bt s i))=true:=decide_eq_true yo_;have e2:(decide (i≠0)||decide (ix (bt s i)<=15))=true:=by simp;omega
    simp only[if_neg h1,rwOk,e1,e2,Bool.and_self,Bool.true_and];rw[w64n yo_];by_cases h3:i=0
    ·simp only[if_pos (show(i:Int)=0 by omega),if_neg (show¬ix (bt s i)>15 by omega)];exact ih
    ·simp only[if_neg (show¬(i:Int)=0 by omega)];exact ih
def wordOk(s:ByteArray):Bool:=decide (s.size=13) && rwOk s 13 0
theorem eWordI(s:ByteArray):∃v,Ev (fun k=>impl_ReadWord32.f k s) (v,wordOk s):=by
 unfold impl_ReadWord32.f wordOk;by_cases h:s.size=13
 ·obtain⟨v,hv⟩:=eRwI s h 13 0 0 rfl;refine⟨v,?_⟩;simp only[if_pos (show(s.size:Int)=13 by omega),decide_eq_true h,Bool.true_and];exact hv
 ·refine⟨0,?_⟩;simp only[if_neg (show¬(s.size:Int)=13 by omega),decide_eq_false h,Bool.false_and];exact Ev.now _
theorem eWordS(s:ByteArray):∃v,Ev (fun k=>spec_ReadWord32.f k s) (v,wordOk s):=by
 unfold spec_ReadWord32.f wordOk;by_cases h:s.size=13
 ·obtain⟨v,hv⟩:=eRwS s h 13 0 0 rfl;refine⟨v,?_⟩;simp only[if_pos (show(s.size:Int)=13 by omega),decide_eq_true h,Bool.true_and];exact hv
 ·refine⟨0,?_⟩;simp only[if_neg (show¬(s.size:Int)=13 by omega),decide_eq_false h,Bool.false_and];exact Ev.now _
def addrOk(s:ByteArray):Bool:=decide (15<=s.size) && bt s 13==45 && wordOk (s.extract 0 13) && nameOk (s.extract 14 s.size)
theorem eAddrI(s:ByteArray):Ev (fun k=>impl_AddressOk.f k s) (addrOk s):=by
 unfold impl_AddressOk.f addrOk;by_cases h1:(s.size:Int)<14
 ·simp only[if_pos h1,decide_eq_false (show¬15<=s.size by omega),Bool.false_and];exact Ev.now _
 ·simp only[if_neg h1,if_pos (show(13:Int)<(s.size:Int) by omega)];by_cases h2:bt s 13=45
  ·have e2:(bt s 13==45)=true:=by simpa using h2
   simp only[if_pos h2,if_pos (show(14:Int)<=(s.size:Int) by omega),e2];refine Ev.bind (eNameI _) ?_;by_cases h3:nameOk (s.extract 14 s.size)=true
   ·have h4:15<=s.size:=by
     by_cases h:15<=s.size
     ·exact h
     ·have:s.size=14:=by omega
      unfold nameOk at h3;simp[ByteArray.size_extract,this] at h3
    obtain⟨v,hv⟩:=eWordI (s.extract 0 13);simp only[h3,if_true,if_pos (show(0:Int)<=13 by decide),if_pos (show(13:Int)<=(s.size:Int) by omega),decide_eq_true h4,Bool.true_and,Bool.and_true];refine Ev.bind hv ?_;exact Ev.now _
   ·have h3':nameOk (s.extract 14 s.size)=false:=by simpa using h3
    simp only[h3',Bool.and_false];exact Ev.now _
  ·have e2:(bt s 13==45)=false:=by simpa using h2
   simp only[if_neg h2,e2,Bool.and_false,Bool.false_and];exact Ev.now _
theorem eAddrS(s:ByteArray):Ev (fun k=>spec_AddressOk.f k s) (addrOk s):=by
 unfold spec_AddressOk.f addrOk;by_cases h1:(s.size:Int)<15
 ·simp only[if_pos h1,decide_eq_false (show¬15<=s.size by omega),Bool.false_and];refine Ev.step (fun k=>by rw[spec_AddressOk.j0]) ?_;simp only[if_true];exact Ev.now _
 ·simp only[if_neg h1,if_pos (show(13:Int)<(s.size:Int) by omega),decide_eq_true (show 15<=s.size by omega),Bool.true_and];refine Ev.step (fun k=>by rw[spec_AddressOk.j0]) ?_;by_cases h2:bt s 13=45
  ·have e2:(bt s 13 !=45)=false:=by simp[h2]
   have e3:(bt s 13==45)=true:=by simpa using h2
   simp only[e2,e3,Bool.false_eq_true,if_false,if_pos (show(0:Int)<=13 by decide),if_pos (show(13:Int)<=(s.size:Int) by omega),Bool.true_and];obtain⟨v,hv⟩:=eWordS (s.extract 0 13);refine Ev.bind hv ?_;by_cases h3:wordOk (s.extract 0 13)=true
   ·simp only[h3,if_true,if_pos (show(14:Int)<=(s.size:Int) by omega),Bool.true_and];refine Ev.bind (eNameS _) ?_;exact Ev.now _
   ·have h3':wordOk (s.extract 0 13)=false:=by simpa using h3
    simp only[h3',Bool.false_eq_true,if_false,Bool.false_and];exact Ev.now _
  ·have e2:(bt s 13 !=45)=true:=by simp[h2]
   have e3:(bt s 13==45)=false:=by simpa using h2
   simp only[e2,e3,if_true,Bool.false_and];exact Ev.now _
end P
end Go.Proofs.YtgccknmddhbdgaaGreatDoor.Q
