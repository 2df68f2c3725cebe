import Derived.Test.YtgccknmddhbdgaaGreatDoorE23
import Derived.Test.YtgccknmddhbdgaaGreatDoorE32
namespace Go.Proofs.YtgccknmddhbdgaaGreatDoor.Q
open Go.RowKit W1 W2 W3
namespace P
theorem mText(n:Nat)(h:n<=4611686018427387904):∃s,Ev (fun k=>laws_markText.f k (n:Int)) s:=by
 rcases Nat.eq_zero_or_pos n with rfl|h0
 ·exact⟨_,Ev.congr (fun k=>by unfold laws_markText.f;rw[if_pos yd_]) (Ev.now _)⟩
 ·obtain⟨s,hs⟩:=Mk.textEv n ⟨#[]⟩ (by show 0+n<=_;omega);exact⟨s,Ev.congr (fun k=>by unfold laws_markText.f;rw[if_neg yo_]) hs⟩
theorem set_get{α:Type}(z:α){M X:List α}{i:Nat}{s:α}(h:M.take (i+1)=(X.set i s).take (i+1))(hi:i<X.length)(hl:M.length=X.length):M.getD i z=s/\M.take i=X.take i:=by
 refine⟨?_,?_⟩
 ·have e:=congrArg (fun l=>l[i]?) h;simp only[List.getElem?_take,show i<i+1 by omega,if_true,List.getElem?_set,hi] at e;rw[List.getD_eq_getElem?_getD,e];rfl
 ·have e:=congrArg (fun l=>l.take i) h;simp only[List.take_take,Nat.min_eq_left (Nat.le_succ i),List.take_set_of_le (Nat.le_refl i)] at e;exact e
theorem get_set{α:Type}(z:α){X:List α}{i:Nat}(s:α)(hi:i<X.length):(X.set i s).getD i z=s:=by
 rw[List.getD_eq_getElem?_getD,List.getElem?_set_self hi];rfl
theorem w1{k:Nat}(h:k<4611686018427387905):wrap64 ((k:Int)+1)=((k+1:Nat):Int):=by rw[wrap64_small yo_ yo_];omega
theorem mhEntry:∀(d i k:Nat) (X:List Entry),X.length=i+d->X.length<=1048576->k+d*4<=4611686018427387904->∃(n:Nat) (M:List Entry),Ev (fun r=>laws_markEntryS.l0 r X (k:Int) (i:Int)) ((n:Int),M)/\
 Ev (fun r=>laws_heldEntryS.l0 r M (k:Int) (i:Int)) (n:Int)/\M.length=X.length/\M.take i=X.take i/\n<=k+d*4
 |0,i,k,X,h,hl,hk=>by
  refine⟨k,X,Ev.step (fun r=>by rw[laws_markEntryS.l0]) ?_,Ev.step (fun r=>by rw[laws_heldEntryS.l0]) ?_,rfl,rfl,Nat.le_refl _⟩
  ·simp only[if_neg (show¬(i:Int)<X.length by omega)];exact Ev.now _
  ·simp only[if_neg (show¬(i:Int)<X.length by omega)];exact Ev.now _
 |d+1,i,k,X,h,hl,hk=>by
  obtain⟨s,hs⟩:=mText k yo_;obtain⟨s',hs'⟩:=mText (k+1+1) yo_;obtain⟨v,hv⟩:∃v:Entry,v=⟨s,((k+1:Nat):Int),s',(Int.tmod ((k+1+1+1:Nat):Int) 3)==0⟩:=⟨_,rfl⟩
  obtain⟨n,M,h1,h2,h3,h4,h5⟩:=mhEntry d (i+1) (k+1+1+1+1) (X.set i v) (by rw[List.length_set];omega) (by rw[List.length_set];omega) yo_;rw[List.length_set] at h3;obtain⟨hM,hT⟩:=set_get z63 h4 yo_ h3;replace hM:rdE M i=v:=hM;have hg:∀s,rdE (X.set i s) i=s:=fun s=>get_set _ s yo_;refine⟨n,M,Ev.step (fun r=>by rw[laws_markEntryS.l0]) ?_,Ev.step (fun r=>by rw[laws_heldEntryS.l0]) ?_,h3,hT,by omega⟩
  ·simp only[if_pos (show(i:Int)<X.length by omega)];refine Ev.bind hs ?_;simp only[if_pos (show(0:Int)<=i by omega),Int.toNat_natCast,Option.bind_some,List.set_set,hg,w1 (show k<4611686018427387905 by omega),w1 (show k+1<4611686018427387905 by omega),w1 (show k+1+1<4611686018427387905 by omega),w1 (show k+1+1+1<4611686018427387905 by omega),w1 (show i<4611686018427387905 by omega)];refine Ev.bind hs' ?_;rw[<-hv];exact h1
  ·simp only[if_pos (show(i:Int)<M.length by omega),if_pos (show(0:Int)<=i by omega)];refine Ev.bind hs ?_;simp only[hM,hv,if_true,bne_self_eq_false,Bool.false_eq_true,if_false,w1 (show k<4611686018427387905 by omega),w1 (show k+1<4611686018427387905 by omega),w1 (show k+1+1<4611686018427387905 by omega),w1 (show k+1+1+1<4611686018427387905 by omega),w1 (show i<4611686018427387905 by omega)];refine Ev.bind hs' ?_;simp only[if_true];exact h2
end P
end Go.Proofs.YtgccknmddhbdgaaGreatDoor.Q
