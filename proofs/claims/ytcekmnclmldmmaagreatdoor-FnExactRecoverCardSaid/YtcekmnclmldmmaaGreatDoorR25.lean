import Derived.Test.YtcekmnclmldmmaaGreatDoorR18
import Derived.Test.YtcekmnclmldmmaaGreatDoorR24
set_option linter.unusedVariables false
set_option linter.unusedSimpArgs false
namespace Go.Proofs.YtcekmnclmldmmaaGreatDoor.Q
open Go.RowKit W1 W2 W3
namespace P
theorem mText(n:Nat)(h:n≤4611686018427387904):∃s,Ev (fun k=>laws_markText.f k (n:Int)) s:=by
 rcases Nat.eq_zero_or_pos n with rfl|h0
 ·exact⟨_,Ev.congr (fun k=>by unfold laws_markText.f;rw[if_pos (by decide)]) (Ev.now _)⟩
 ·obtain⟨s,hs⟩:=Mk.textEv n ⟨#[]⟩ (by show 0+n≤_;omega)
  exact⟨s,Ev.congr (fun k=>by unfold laws_markText.f;rw[if_neg (by omega)]) hs⟩
theorem set_get{α:Type}(z:α){M X:List α}{i:Nat}{s:α}(h:M.take (i+1)=(X.set i s).take (i+1))(hi:i<X.length)(hl:M.length=X.length):M.getD i z=s∧M.take i=X.take i:=by
 refine⟨?_,?_⟩
 ·have e:=congrArg (fun l=>l[i]?) h
  simp only[List.getElem?_take,show i<i+1 by omega,if_true,List.getElem?_set,hi] at e
  rw[List.getD_eq_getElem?_getD,e];rfl
 ·have e:=congrArg (fun l=>l.take i) h
  simp only[List.take_take,Nat.min_eq_left (Nat.le_succ i),List.take_set_of_le (Nat.le_refl i)] at e
  exact e
theorem get_set{α:Type}(z:α){X:List α}{i:Nat}(s:α)(hi:i<X.length):(X.set i s).getD i z=s:=by
 rw[List.getD_eq_getElem?_getD,List.getElem?_set_self hi];rfl
theorem w1{k:Nat}(h:k<4611686018427387905):wrap64 ((k:Int)+1)=((k+1:Nat):Int):=by rw[wrap64_small (by omega) (by omega)];omega
theorem mhString:∀(d i k:Nat) (X:List ByteArray),X.length=i+d→X.length≤1048576→k+d≤4611686018427387904→∃(n:Nat) (M:List ByteArray),Ev (fun r=>laws_markStringS.l0 r X (k:Int) (i:Int)) ((n:Int),M)∧
 Ev (fun r=>laws_heldStringS.l0 r M (k:Int) (i:Int)) (n:Int)∧M.length=X.length∧M.take i=X.take i∧n≤k+d
 |0,i,k,X,h,hl,hk=>by
  refine⟨k,X,Ev.step (fun r=>by rw[laws_markStringS.l0]) ?_,Ev.step (fun r=>by rw[laws_heldStringS.l0]) ?_,rfl,rfl,Nat.le_refl _⟩
  ·simp only[if_neg (show¬(i:Int)<X.length by omega)];exact Ev.now _
  ·simp only[if_neg (show¬(i:Int)<X.length by omega)];exact Ev.now _
 |d+1,i,k,X,h,hl,hk=>by
  obtain⟨s,hs⟩:=mText k (by omega)
  obtain⟨n,M,h1,h2,h3,h4,h5⟩:=mhString d (i+1) (k+1) (X.set i s) (by rw[List.length_set];omega) (by rw[List.length_set];omega) (by omega)
  rw[List.length_set] at h3
  obtain⟨hM,hT⟩:=set_get ByteArray.empty h4 (by omega) h3
  replace hM:rdT M i=s:=hM
  refine⟨n,M,Ev.step (fun r=>by rw[laws_markStringS.l0]) ?_,Ev.step (fun r=>by rw[laws_heldStringS.l0]) ?_,h3,hT,by omega⟩
  ·simp only[if_pos (show(i:Int)<X.length by omega)]
   refine Ev.bind hs ?_
   simp only[if_pos (show(0:Int)≤i by omega),Int.toNat_natCast,w1 (show k<4611686018427387905 by omega),w1 (show i<4611686018427387905 by omega)]
   exact h1
  ·simp only[if_pos (show(i:Int)<M.length by omega),if_pos (show(0:Int)≤i by omega)]
   refine Ev.bind hs ?_
   simp only[hM,if_true,w1 (show k<4611686018427387905 by omega),w1 (show i<4611686018427387905 by omega)]
   exact h2
theorem mhEntry:∀(d i k:Nat) (X:List Entry),X.length=i+d→X.length≤1048576→k+d*4≤4611686018427387904→∃(n:Nat) (M:List Entry),Ev (fun r=>laws_markEntryS.l0 r X (k:Int) (i:Int)) ((n:Int),M)∧
 Ev (fun r=>laws_heldEntryS.l0 r M (k:Int) (i:Int)) (n:Int)∧M.length=X.length∧M.take i=X.take i∧n≤k+d*4
 |0,i,k,X,h,hl,hk=>by
  refine⟨k,X,Ev.step (fun r=>by rw[laws_markEntryS.l0]) ?_,Ev.step (fun r=>by rw[laws_heldEntryS.l0]) ?_,rfl,rfl,Nat.le_refl _⟩
  ·simp only[if_neg (show¬(i:Int)<X.length by omega)];exact Ev.now _
  ·simp only[if_neg (show¬(i:Int)<X.length by omega)];exact Ev.now _
 |d+1,i,k,X,h,hl,hk=>by
  obtain⟨s,hs⟩:=mText k (by omega)
  obtain⟨s',hs'⟩:=mText (k+1+1) (by omega)
  obtain⟨v,hv⟩:∃v:Entry,v=⟨s,((k+1:Nat):Int),s',(Int.tmod ((k+1+1+1:Nat):Int) 3)==0⟩:=⟨_,rfl⟩
  obtain⟨n,M,h1,h2,h3,h4,h5⟩:=mhEntry d (i+1) (k+1+1+1+1) (X.set i v) (by rw[List.length_set];omega) (by rw[List.length_set];omega) (by omega)
  rw[List.length_set] at h3
  obtain⟨hM,hT⟩:=set_get z96 h4 (by omega) h3
  replace hM:rdE M i=v:=hM
  have hg:∀s,rdE (X.set i s) i=s:=fun s=>get_set _ s (by omega)
  refine⟨n,M,Ev.step (fun r=>by rw[laws_markEntryS.l0]) ?_,Ev.step (fun r=>by rw[laws_heldEntryS.l0]) ?_,h3,hT,by omega⟩
  ·simp only[if_pos (show(i:Int)<X.length by omega)]
   refine Ev.bind hs ?_
   simp only[if_pos (show(0:Int)≤i by omega),Int.toNat_natCast,Option.bind_some,List.set_set,hg,w1 (show k<4611686018427387905 by omega),w1 (show k+1<4611686018427387905 by omega),w1 (show k+1+1<4611686018427387905 by omega),w1 (show k+1+1+1<4611686018427387905 by omega),w1 (show i<4611686018427387905 by omega)]
   refine Ev.bind hs' ?_
   rw[←hv]
   exact h1
  ·simp only[if_pos (show(i:Int)<M.length by omega),if_pos (show(0:Int)≤i by omega)]
   refine Ev.bind hs ?_
   simp only[hM,hv,if_true,bne_self_eq_false,Bool.false_eq_true,if_false,w1 (show k<4611686018427387905 by omega),w1 (show k+1<4611686018427387905 by omega),w1 (show k+1+1<4611686018427387905 by omega),w1 (show k+1+1+1<4611686018427387905 by omega),w1 (show i<4611686018427387905 by omega)]
   refine Ev.bind hs' ?_
   simp only[if_true]
   exact h2
theorem mhGen:∀(d i k:Nat) (X:List Gen),X.length=i+d→X.length≤1048576→k+d*2≤4611686018427387904→∃(n:Nat) (M:List Gen),Ev (fun r=>laws_markGenS.l0 r X (k:Int) (i:Int)) ((n:Int),M)∧
 Ev (fun r=>laws_heldGenS.l0 r M (k:Int) (i:Int)) (n:Int)∧M.length=X.length∧M.take i=X.take i∧n≤k+d*2
 |0,i,k,X,h,hl,hk=>by
  refine⟨k,X,Ev.step (fun r=>by rw[laws_markGenS.l0]) ?_,Ev.step (fun r=>by rw[laws_heldGenS.l0]) ?_,rfl,rfl,Nat.le_refl _⟩
  ·simp only[if_neg (show¬(i:Int)<X.length by omega)];exact Ev.now _
  ·simp only[if_neg (show¬(i:Int)<X.length by omega)];exact Ev.now _
 |d+1,i,k,X,h,hl,hk=>by
  obtain⟨s,hs⟩:=mText (k+1) (by omega)
  obtain⟨v,hv⟩:∃v:Gen,v=⟨(k:Int),s⟩:=⟨_,rfl⟩
  obtain⟨n,M,h1,h2,h3,h4,h5⟩:=mhGen d (i+1) (k+1+1) (X.set i v) (by rw[List.length_set];omega) (by rw[List.length_set];omega) (by omega)
  rw[List.length_set] at h3
  obtain⟨hM,hT⟩:=set_get z70 h4 (by omega) h3
  replace hM:rdG M i=v:=hM
  have hg:∀s,rdG (X.set i s) i=s:=fun s=>get_set _ s (by omega)
  refine⟨n,M,Ev.step (fun r=>by rw[laws_markGenS.l0]) ?_,Ev.step (fun r=>by rw[laws_heldGenS.l0]) ?_,h3,hT,by omega⟩
  ·simp only[if_pos (show(i:Int)<X.length by omega),if_pos (show(0:Int)≤i by omega),Int.toNat_natCast,Option.bind_some,List.set_set,hg,w1 (show k<4611686018427387905 by omega),w1 (show k+1<4611686018427387905 by omega),w1 (show i<4611686018427387905 by omega)]
   refine Ev.bind hs ?_
   rw[←hv]
   exact h1
  ·simp only[if_pos (show(i:Int)<M.length by omega),if_pos (show(0:Int)≤i by omega),hM,hv,if_true,w1 (show k<4611686018427387905 by omega),w1 (show k+1<4611686018427387905 by omega),w1 (show i<4611686018427387905 by omega)]
   refine Ev.bind hs ?_
   simp only[if_true]
   exact h2
theorem mhItem:∀(d i k:Nat) (X:List Item),X.length=i+d→X.length≤1048576→(∀x ∈ X,x.f2.length≤1048576∧x.f4.length≤1048576)→k+d*10000000≤4611686018427387904→∃(n:Nat) (M:List Item),Ev (fun r=>laws_markItemS.l0 r X (k:Int) (i:Int)) ((n:Int),M)∧
 Ev (fun r=>laws_heldItemS.l0 r M (k:Int) (i:Int)) (n:Int)∧M.length=X.length∧M.take i=X.take i∧n≤k+d*10000000
 |0,i,k,X,h,hl,hx,hk=>by
  refine⟨k,X,Ev.step (fun r=>by rw[laws_markItemS.l0]) ?_,Ev.step (fun r=>by rw[laws_heldItemS.l0]) ?_,rfl,rfl,Nat.le_refl _⟩
  ·simp only[if_neg (show¬(i:Int)<X.length by omega)];exact Ev.now _
  ·simp only[if_neg (show¬(i:Int)<X.length by omega)];exact Ev.now _
 |d+1,i,k,X,h,hl,hx,hk=>by
  have hX:(rdI X i).f2.length≤1048576∧(rdI X i).f4.length≤1048576:=by rw[rdI_at X i (by omega)];exact hx _ (List.getElem_mem _)
  obtain⟨s0,hs0⟩:=mText k (by omega)
  obtain⟨s1,hs1⟩:=mText (k+1) (by omega)
  obtain⟨n2,M2,a1,a2,a3,_,a5⟩:=mhString (rdI X i).f2.length 0 (k+1+1) (rdI X i).f2 (by omega) hX.1 (by omega)
  obtain⟨s3,hs3⟩:=mText n2 (by omega)
  obtain⟨n4,M4,b1,b2,b3,_,b5⟩:=mhEntry (rdI X i).f4.length 0 (n2+1) (rdI X i).f4 (by omega) hX.2 (by omega)
  obtain⟨v,hv⟩:∃v:Item,v=⟨s0,s1,M2,s3,M4⟩:=⟨_,rfl⟩
  obtain⟨n,M,h1,h2,h3,h4,h5⟩:=mhItem d (i+1) n4 (X.set i v) (by rw[List.length_set];omega) (by rw[List.length_set];omega) (fun x h=>by
   rcases List.mem_or_eq_of_mem_set h with h|rfl
   ·exact hx x h
   ·rw[hv];exact⟨by show M2.length≤_;omega,by show M4.length≤_;omega⟩) (by omega)
  rw[List.length_set] at h3
  obtain⟨hM,hT⟩:=set_get z94 h4 (by omega) h3
  replace hM:rdI M i=v:=hM
  refine⟨n,M,Ev.step (fun r=>by rw[laws_markItemS.l0]) ?_,Ev.step (fun r=>by rw[laws_heldItemS.l0]) ?_,h3,hT,by omega⟩
  ·simp only[if_pos (show(i:Int)<X.length by omega),Int.toNat_natCast,w1 (show k<4611686018427387905 by omega),w1 (show k+1<4611686018427387905 by omega),w1 (show i<4611686018427387905 by omega)]
   refine Ev.bind hs0 (Ev.bind hs1 (Ev.bind a1 (Ev.bind hs3 ?_)))
   simp only[w1 (show n2<4611686018427387905 by omega)]
   refine Ev.bind b1 ?_
   simp only[←hv]
   exact h1
  ·simp only[if_pos (show(i:Int)<M.length by omega),if_pos (show(0:Int)≤i by omega),hM,hv,w1 (show k<4611686018427387905 by omega),w1 (show k+1<4611686018427387905 by omega),w1 (show i<4611686018427387905 by omega)]
   refine Ev.bind hs0 ?_
   simp only[if_true]
   refine Ev.bind hs1 ?_
   simp only[if_true]
   refine Ev.bind a2 ?_
   simp only[if_neg (show¬(n2:Int)<0 by omega)]
   refine Ev.bind hs3 ?_
   simp only[if_true,w1 (show n2<4611686018427387905 by omega)]
   refine Ev.bind b2 ?_
   simp only[if_neg (show¬(n4:Int)<0 by omega)]
   exact h2
theorem mhProfile:∀(d i k:Nat) (X:List Prof),X.length=i+d→X.length≤1048576→(∀x ∈ X,x.f2.length≤1048576)→k+d*10000000≤4611686018427387904→∃(n:Nat) (M:List Prof),Ev (fun r=>laws_markProfileS.l0 r X (k:Int) (i:Int)) ((n:Int),M)∧
 Ev (fun r=>laws_heldProfileS.l0 r M (k:Int) (i:Int)) (n:Int)∧M.length=X.length∧M.take i=X.take i∧n≤k+d*10000000
 |0,i,k,X,h,hl,hx,hk=>by
  refine⟨k,X,Ev.step (fun r=>by rw[laws_markProfileS.l0]) ?_,Ev.step (fun r=>by rw[laws_heldProfileS.l0]) ?_,rfl,rfl,Nat.le_refl _⟩
  ·simp only[if_neg (show¬(i:Int)<X.length by omega)];exact Ev.now _
  ·simp only[if_neg (show¬(i:Int)<X.length by omega)];exact Ev.now _
 |d+1,i,k,X,h,hl,hx,hk=>by
  have hX:(rdP X i).f2.length≤1048576:=by rw[rdP_at X i (by omega)];exact hx _ (List.getElem_mem _)
  obtain⟨s0,hs0⟩:=mText k (by omega)
  obtain⟨n2,M2,a1,a2,a3,_,a5⟩:=mhGen (rdP X i).f2.length 0 (k+1+1) (rdP X i).f2 (by omega) hX (by omega)
  obtain⟨v,hv⟩:∃v:Prof,v=⟨s0,((k+1:Nat):Int),M2⟩:=⟨_,rfl⟩
  obtain⟨n,M,h1,h2,h3,h4,h5⟩:=mhProfile d (i+1) n2 (X.set i v) (by rw[List.length_set];omega) (by rw[List.length_set];omega) (fun x h=>by
   rcases List.mem_or_eq_of_mem_set h with h|rfl
   ·exact hx x h
   ·rw[hv];show M2.length≤_;omega) (by omega)
  rw[List.length_set] at h3
  obtain⟨hM,hT⟩:=set_get z67 h4 (by omega) h3
  replace hM:rdP M i=v:=hM
  refine⟨n,M,Ev.step (fun r=>by rw[laws_markProfileS.l0]) ?_,Ev.step (fun r=>by rw[laws_heldProfileS.l0]) ?_,h3,hT,by omega⟩
  ·simp only[if_pos (show(i:Int)<X.length by omega),Int.toNat_natCast,w1 (show k<4611686018427387905 by omega),w1 (show k+1<4611686018427387905 by omega),w1 (show i<4611686018427387905 by omega)]
   refine Ev.bind hs0 (Ev.bind a1 ?_)
   simp only[←hv]
   exact h1
  ·simp only[if_pos (show(i:Int)<M.length by omega),if_pos (show(0:Int)≤i by omega),hM,hv,w1 (show k<4611686018427387905 by omega),w1 (show k+1<4611686018427387905 by omega),w1 (show i<4611686018427387905 by omega)]
   refine Ev.bind hs0 ?_
   simp only[if_true]
   refine Ev.bind a2 ?_
   simp only[if_neg (show¬(n2:Int)<0 by omega)]
   exact h2
theorem mhWorld(st:List Item)(ps:List Prof)(h1:st.length≤1048576)(h2:∀x ∈ st,x.f2.length≤1048576∧x.f4.length≤1048576)(h3:ps.length≤1048576)(h4:∀x ∈ ps,x.f2.length≤1048576):
 ∃(n1 n2:Nat) (M0:List Item) (M1:List Prof),Ev (fun r=>laws_markItemS.f r st 1) ((n1:Int),M0)∧Ev (fun r=>laws_markProfileS.f r ps (n1:Int)) ((n2:Int),M1)∧Ev (fun r=>laws_heldWorld.f r M0 M1 [] [] 1) (n2:Int)∧n2≤4611686018427387904:=by
 obtain⟨n1,M0,a1,a2,_,_,a5⟩:=mhItem st.length 0 1 st (by omega) h1 h2 (by omega)
 obtain⟨n2,M1,b1,b2,_,_,b5⟩:=mhProfile ps.length 0 n1 ps (by omega) h3 h4 (by omega)
 refine⟨n1,n2,M0,M1,a1,b1,?_,by omega⟩
 unfold laws_heldWorld.f
 refine Ev.bind a2 ?_
 simp only[if_neg (show¬(n1:Int)<0 by omega)]
 refine Ev.bind b2 ?_
 simp only[if_neg (show¬(n2:Int)<0 by omega)]
 have p:Ev (fun r=>laws_heldPendingS.l0 r [] (n2:Int) 0) (n2:Int):=by
  refine Ev.step (fun r=>by rw[laws_heldPendingS.l0]) ?_
  simp only[if_neg (show¬(0:Int)<([]:List Pend).length by decide)];exact Ev.now _
 have q:Ev (fun r=>laws_heldNextS.l0 r [] (n2:Int) 0) (n2:Int):=by
  refine Ev.step (fun r=>by rw[laws_heldNextS.l0]) ?_
  simp only[if_neg (show¬(0:Int)<([]:List Next).length by decide)];exact Ev.now _
 refine Ev.bind p ?_
 simp only[if_neg (show¬(n2:Int)<0 by omega)]
 refine Ev.bind q ?_
 simp only[if_neg (show¬(n2:Int)<0 by omega)]
 exact Ev.now _
end P
end Go.Proofs.YtcekmnclmldmmaaGreatDoor.Q
