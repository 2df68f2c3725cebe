/- Proved: at every run the law FnExactNeeded returns true (impl.Needed answers as spec.Needed does, leaves its arguments as they were, and its answer owns its memory), under no condition but the card's own: the variables that the row lists read as the program's text lays them. -/
import Derived.Test.YtcekmnclmldmmaaGreatDoorN22
import Derived.Test.YtcekmnclmldmmaaGreatDoorN26
import Derived.Test.YtcekmnclmldmmaaGreatDoorN27
import Derived.Lib.SmallJoins
import Derived.SizedLaws
import Derived.Test.YtcekmnclmldmmaaGreatDoorCards
import Derived.Test.YtcekmnclmldmmaaGreatDoorTie
import Derived.ProofKit
import Derived.OpenShut
import Derived.Lay
import Derived.LaidOnce
import Derived.SevenTiedAt
import Derived.Handed
import Derived.Shelf.Vars
set_option linter.unusedVariables false
set_option linter.unusedSimpArgs false
namespace Go.Proofs.YtcekmnclmldmmaaGreatDoor.Q
open Go.RowKit W1 W2 W3
namespace P
structure SmallW(a:List LItem)(b:List LProfile)(c:List LPending)(d:List LNext):Prop where
 a:SmallItemS a
 b:SmallProfileS b
 c:SmallPendingS c
 d:SmallNextS d
theorem szWorld_ok(a:List LItem)(b:List LProfile)(c:List LPending)(d:List LNext)(ha:BItemS a)(hb:BProfileS b)(hc:BPendingS c)(hd:BNextS d):Sz (fun k=>laws_szWorld.f k a b c d 1048576) 1048576 (SmallW a b c d):=by
 refine Sz.sub (G:=fun l k=>(laws_szProfileS.f k b l).bind fun t=>if t<0 then some (-1) else((laws_szPendingS.f k c t).bind fun t=>if t<0 then some (-1) else((laws_szNextS.f k d t).bind fun t=>if t<0 then some (-1) else some t))) (szItemS_ok a ha 1048576 (by decide) (by decide)) (fun k=>rfl) fun l a0 b0 c0=>?_
 refine Sz.sub (G:=fun l k=>(laws_szPendingS.f k c l).bind fun t=>if t<0 then some (-1) else((laws_szNextS.f k d t).bind fun t=>if t<0 then some (-1) else some t)) (szProfileS_ok b hb l a0 (by omega)) (fun k=>rfl) fun l1 a1 b1 c1=>?_
 refine Sz.sub (G:=fun l k=>(laws_szNextS.f k d l).bind fun t=>if t<0 then some (-1) else some t) (szPendingS_ok c hc l1 a1 (by omega)) (fun k=>rfl) fun l2 a2 b2 c2=>?_
 refine Sz.sub (G:=fun l k=>some l) (szNextS_ok d hd l2 a2 (by omega)) (fun k=>rfl) fun l3 a3 b3 c3=>?_
 exact Sz.yes a3 (Int.le_refl _) ⟨c0,c1,c2,c3⟩
theorem tree_small(t:List LEntry)(h:SmallEntryS t):tSmall (t.map cpEntry):=by
 intro e he
 obtain⟨y,hy,rfl⟩:=List.mem_map.1 he
 exact⟨(h.all y hy).f0,(h.all y hy).f2⟩
section
variable {a : List LItem} {b : List LProfile} {c : List LPending} {d : List LNext}
theorem toWorld_ok(H:SmallW a b c d):Ev (fun k=>laws_toWorld.f k a b c d) (a.map cpItem,b.map cpProfile,c.map cpPending,d.map cpNext):=by
 unfold laws_toWorld.f
 exact Ev.bind (toItemS_ok a H.a) (Ev.bind (toProfileS_ok b H.b) (Ev.bind (toPendingS_ok c H.c) (Ev.bind (toNextS_ok d H.d) (Ev.now _))))
theorem eqWorld_ok(H:SmallW a b c d):Ev (fun k=>laws_eqWorld.f k (a.map cpItem) (b.map cpProfile) (c.map cpPending) (d.map cpNext) (a.map cpItem) (b.map cpProfile) (c.map cpPending) (d.map cpNext)) true:=by
 unfold laws_eqWorld.f
 refine Ev.bind (eqItemS_ok _ (by simpa using H.a.len) (fun x hx=>by obtain⟨y,hy,rfl⟩:=List.mem_map.1 hx;exact fitItem y (H.a.all y hy))) ?_
 simp only[if_true]
 refine Ev.bind (eqProfileS_ok _ (by simpa using H.b.len) (fun x hx=>by obtain⟨y,hy,rfl⟩:=List.mem_map.1 hx;exact fitProfile y (H.b.all y hy))) ?_
 simp only[if_true]
 refine Ev.bind (eqPendingS_ok _ (by simpa using H.c.len) (fun x hx=>by obtain⟨y,hy,rfl⟩:=List.mem_map.1 hx;exact fitPending y (H.c.all y hy))) ?_
 simp only[if_true]
 refine Ev.bind (eqNextS_ok _ (by simpa using H.d.len) (fun x hx=>by obtain⟨y,hy,rfl⟩:=List.mem_map.1 hx;exact fitNext y (H.d.all y hy))) ?_
 simp only[if_true]
 exact Ev.now _
theorem sized(H:SmallW a b c d):Sized (a.map cpItem) (b.map cpProfile) (c.map cpPending) (d.map cpNext) where
 sts:=fun x hx=>by
  obtain⟨y,hy,rfl⟩:=List.mem_map.1 hx
  exact⟨tree_small y.f4 (H.a.all y hy).f4,(H.a.all y hy).f2.len⟩
 stl:=by simpa using H.a.len
 psl:=by simpa using H.b.len
 gs:=fun x hx=>by
  obtain⟨y,hy,rfl⟩:=List.mem_map.1 hx
  simpa[cpProfile] using(H.b.all y hy).f2.len
 qs:=fun x hx=>by
  obtain⟨y,hy,rfl⟩:=List.mem_map.1 hx
  exact tree_small y.f1 (H.c.all y hy).f1
end
theorem eText(n:Nat)(h:n≤1000000):∃s,Ev (fun k=>laws_markText.f k ((n+1:Nat):Int)) s:=by
 obtain⟨s,hs⟩:=Mk.textEv (n+1) ⟨#[]⟩ (by show 0+(n+1)≤_;omega)
 refine⟨s,Ev.congr (fun k=>?_) hs⟩
 unfold laws_markText.f
 rw[if_neg (by omega)]
theorem eMark:∀(d i:Nat) (X:List ByteArray),X.length=i+d→X.length≤1000→∃M:List ByteArray,Ev (fun k=>laws_markStringS.l0 k X ((i+1:Nat):Int) (i:Int)) (((X.length+1:Nat):Int),M)∧M.length=X.length∧M.take i=X.take i∧
 ∀j,i≤j→j<M.length→Ev (fun k=>laws_markText.f k ((j+1:Nat):Int)) (rdT M j)
 |0,i,X,h,hl=>by
  refine⟨X,Ev.step (fun k=>by rw[laws_markStringS.l0]) ?_,rfl,rfl,fun j h1 h2=>by omega⟩
  simp only[if_neg (show¬(i:Int)<X.length by omega)]
  rw[show X.length=i by omega]
  exact Ev.now _
 |d+1,i,X,h,hl=>by
  obtain⟨s,hs⟩:=eText i (by omega)
  obtain⟨M,h1,h2,h3,h4⟩:=eMark d (i+1) (X.set i s) (by rw[List.length_set];omega) (by rw[List.length_set];omega)
  rw[List.length_set] at h1 h2
  have hi:i<M.length:=by omega
  have hMi:rdT M i=s:=by
   have e:=congrArg (fun l=>l[i]?) h3
   simp only[List.getElem?_take,show i<i+1 by omega,if_true,List.getElem?_set,show i<X.length by omega] at e
   rw[List.getElem?_eq_getElem hi] at e
   rw[rdT_at M i hi]
   exact Option.some.inj e
  refine⟨M,Ev.step (fun k=>by rw[laws_markStringS.l0]) ?_,h2,?_,fun j hj1 hj2=>?_⟩
  ·simp only[if_pos (show(i:Int)<X.length by omega)]
   refine Ev.bind hs ?_
   simp only[if_pos (show(0:Int)≤i by omega),Int.toNat_natCast]
   rw[w64n (by omega),w64n (by omega)]
   exact h1
  ·have e:=congrArg (fun l=>l.take i) h3
   simp only[List.take_take,Nat.min_eq_left (Nat.le_succ i),List.take_set_of_le (Nat.le_refl i)] at e
   exact e
  ·rcases Nat.lt_or_ge i j with q|q
   ·exact h4 j q hj2
   ·rw[show j=i by omega,hMi]
    exact hs
theorem eHeld(M:List ByteArray)(hl:M.length≤1000)(hM:∀j,j<M.length→Ev (fun k=>laws_markText.f k ((j+1:Nat):Int)) (rdT M j)):∀d i:Nat,M.length=i+d→Ev (fun k=>laws_heldStringS.l0 k M ((i+1:Nat):Int) (i:Int)) ((M.length+1:Nat):Int)
 |0,i,h=>by
  refine Ev.step (fun k=>by rw[laws_heldStringS.l0]) ?_
  simp only[if_neg (show¬(i:Int)<M.length by omega)]
  rw[show M.length=i by omega]
  exact Ev.now _
 |d+1,i,h=>by
  refine Ev.step (fun k=>by rw[laws_heldStringS.l0]) ?_
  simp only[if_pos (show(i:Int)<M.length by omega),if_pos (show(0:Int)≤i by omega)]
  refine Ev.bind (hM i (by omega)) ?_
  simp only[if_true]
  rw[w64n (by omega),w64n (by omega)]
  exact eHeld M hl hM d (i+1) (by omega)
section
variable {a : List LItem} {b : List LProfile} {c : List LPending} {d : List LNext}
theorem few(H:SmallW a b c d):1+Mk.tot (Mk.sItemS (Nd.i2 (a.map cpItem)) (Nd.i4 (a.map cpItem))) (a.map cpItem).length+Mk.tot (Mk.sProfileS (Nd.p2 (b.map cpProfile))) (b.map cpProfile).length+Mk.tot (Mk.sPendingS (Nd.q1 (c.map cpPending))) (c.map cpPending).length+Mk.tot Mk.sNextS (d.map cpNext).length≤4611686018427387904:=by
 have one:∀n,Mk.tot Mk.sStringS n≤n*1:=Mk.tot_mul (fun i=>by unfold Mk.sStringS;omega)
 have four:∀n,Mk.tot Mk.sEntryS n≤n*4:=Mk.tot_mul (fun i=>by unfold Mk.sEntryS;omega)
 have two:∀n,Mk.tot Mk.sGenS n≤n*2:=Mk.tot_mul (fun i=>by unfold Mk.sGenS;omega)
 have l2:∀i,Nd.i2 (a.map cpItem) i≤1048576:=fun i=>by
  unfold Nd.i2
  rw[List.getD_eq_getElem?_getD,List.getElem?_map]
  cases h:a[i]? with
  |none=>exact Nat.zero_le _
  |some y=>exact(H.a.all y (List.mem_of_getElem? h)).f2.len
 have l4:∀i,Nd.i4 (a.map cpItem) i≤1048576:=fun i=>by
  unfold Nd.i4
  rw[List.getD_eq_getElem?_getD,List.getElem?_map]
  cases h:a[i]? with
  |none=>exact Nat.zero_le _
  |some y=>simpa[cpItem] using(H.a.all y (List.mem_of_getElem? h)).f4.len
 have lp:∀i,Nd.p2 (b.map cpProfile) i≤1048576:=fun i=>by
  unfold Nd.p2
  rw[List.getD_eq_getElem?_getD,List.getElem?_map]
  cases h:b[i]? with
  |none=>exact Nat.zero_le _
  |some y=>simpa[cpProfile] using(H.b.all y (List.mem_of_getElem? h)).f2.len
 have lq:∀i,Nd.q1 (c.map cpPending) i≤1048576:=fun i=>by
  unfold Nd.q1
  rw[List.getD_eq_getElem?_getD,List.getElem?_map]
  cases h:c[i]? with
  |none=>exact Nat.zero_le _
  |some y=>simpa[cpPending] using(H.c.all y (List.mem_of_getElem? h)).f1.len
 have t0:=Mk.tot_mul (f:=Mk.sItemS (Nd.i2 (a.map cpItem)) (Nd.i4 (a.map cpItem))) (B:=10000000) (fun i=>by unfold Mk.sItemS;have:=one (Nd.i2 (a.map cpItem) i);have:=four (Nd.i4 (a.map cpItem) i);have:=l2 i;have:=l4 i;omega) (a.map cpItem).length
 have t1:=Mk.tot_mul (f:=Mk.sProfileS (Nd.p2 (b.map cpProfile))) (B:=10000000) (fun i=>by unfold Mk.sProfileS;have:=two (Nd.p2 (b.map cpProfile) i);have:=lp i;omega) (b.map cpProfile).length
 have t2:=Mk.tot_mul (f:=Mk.sPendingS (Nd.q1 (c.map cpPending))) (B:=10000000) (fun i=>by unfold Mk.sPendingS;have:=four (Nd.q1 (c.map cpPending) i);have:=lq i;omega) (c.map cpPending).length
 have t3:=Mk.tot_mul (f:=Mk.sNextS) (B:=2) (fun i=>by unfold Mk.sNextS;omega) (d.map cpNext).length
 have e0:(a.map cpItem).length≤1048576:=by simpa using H.a.len
 have e1:(b.map cpProfile).length≤1048576:=by simpa using H.b.len
 have e2:(c.map cpPending).length≤1048576:=by simpa using H.c.len
 have e3:(d.map cpNext).length≤1048576:=by simpa using H.d.len
 omega
end
theorem needLaw(a:List LItem)(b:List LProfile)(c:List LPending)(d:List LNext)(ha:BItemS a)(hb:BProfileS b)(hc:BPendingS c)(hd:BNextS d){A0 A1 A2 A3:Option Addr}{c0 c1 c2 c3:Nat}{w:World}(u:ByteArray)
 (hL:Nd.L4 w A0 c0 A1 c1 A2 c2 A3 c3 a b c d) (hG:GOK w):Calls Tryz.prog 4 #[.agg #[.slice A0 a.length c0,.slice A1 b.length c1,.slice A2 c.length c2,.slice A3 d.length c3],.string u] w fun e w'=>e= .returned (.bool true)∧Below w.heap.size w w':=by
 by_cases hn:(u.size:Int)>1048576
 ·exact laws_FnExactNeeded.long hn
 obtain⟨r,e,hr⟩:=szWorld_ok a b c d ha hb hc hd
 obtain⟨kz,hz⟩:=e.rounds
 by_cases h0:r<0
 ·exact laws_FnExactNeeded.much hL hn hz h0
 obtain⟨_,_,H⟩:=hr.resolve_left h0
 obtain⟨kt,ht⟩:=(toWorld_ok H).rounds
 obtain⟨kw,hw⟩:=(eqWorld_ok H).rounds
 obtain⟨R,e1,e2,hR⟩:=eNeed (sized H) u
 obtain⟨ki,hi⟩:=e1.rounds
 obtain⟨ks,hs⟩:=e2.rounds
 obtain⟨ke,he⟩:=(eqStringS_ok R (by omega)).rounds
 obtain⟨M,m1,m2,_,m4⟩:=eMark R.length 0 R (by omega) (by omega)
 obtain⟨km,hm⟩:=m1.rounds
 obtain⟨kh,hh⟩:=(eHeld M (by omega) (fun j hj=>m4 j (Nat.zero_le _) hj) M.length 0 (by omega)).rounds
 rw[m2] at hh
 have hf:=few H
 exact laws_FnExactNeeded.calls hL hG hn hz h0 ht hs hi he hw (show laws_markStringS.f km R 1=_ from hm) (show laws_heldStringS.f kh M 1=_ from hh) (by omega) (by omega)
end P
end Go.Proofs.YtcekmnclmldmmaaGreatDoor.Q
namespace Go.Proofs.YtcekmnclmldmmaaGreatDoor.Q
open Go.RowKit W1 W2 W3
open Go.Deep
namespace P
def vK{H:Type}(enc:TypeId×Value→H)(W:World)(t:TypeId){α:Type}(k:Kd α)(B:α→Prop):Prop:=
 ∀fuel cs x,DataW.trod enc Tryz.prog W 0 (fun _=>true) true fuel t cs=some x→(∀n ∈ x.1.weights Tryz.prog t,n≤reachBytes)→∃a,k.K W a cs∧B a
def OpensF{H:Type}(enc:TypeId×Value→H)(W:World)(N:Nat)(fs:List Field)(off:Nat){α:Type}(k:Kd α)(B:α→Prop):Prop:=
 ∀(n:Nat) (cs:List Value) (xs:List (DataW H×List MemPlace)),cs.length=N→xs.length=fs.length→
  (∀(i:Nat) (f:Field),fs[i]?=some f→DataW.trod enc Tryz.prog W 0 (fun _=>true) true n f.type ((cs.drop f.offset).take (Tryz.prog.cellsOf f.type))=xs[i]?)→
  (∀m ∈ DataW.weightsEach Tryz.prog (fs.map (·.type)) (xs.map (·.1)),m≤reachBytes)→∃a,k.K W a (cs.drop off)∧B a
section
variable {H : Type} {enc : TypeId × Value → H} {W : World}
theorem reach_big{n:Nat}(h:n≤reachBytes):n≤big:=by have:=reachBytes_lt;unfold big;omega
theorem vK.str{t:TypeId}(ht:Tryz.prog.underlying t=some .string):vK enc W t Kd.string (fun s=>s.size≤big):=by
 intro fuel cs x h hw
 obtain⟨s,rfl,rfl,_⟩:=DataW.trod_string ht h
 refine⟨s,rfl,reach_big ?_⟩
 have:=hw s.data.toList.length (by simp[DataW.weights])
 rwa [Array.length_toList] at this
theorem vK.num{t:TypeId}{k:IntKind}(ht:Tryz.prog.underlying t=some (.int k)):vK enc W t (Kd.int k) (fun _=>True):=by
 intro fuel cs x h hw
 obtain⟨n,rfl,rfl,_⟩:=DataW.trod_int ht h
 exact⟨n,rfl,trivial⟩
theorem vK.bool{t:TypeId}(ht:Tryz.prog.underlying t=some .bool):vK enc W t Kd.bool (fun _=>True):=by
 intro fuel cs x h hw
 obtain⟨n,rfl,rfl⟩:=DataW.trod_bool ht h
 exact⟨n,rfl,trivial⟩
theorem list_lt{α:Type}{p:Nat→α→Prop}:∀n:Nat,(∀i,i<n→∃x,p i x)→∃l:List α,l.length=n∧∀i x,l[i]?=some x→p i x
 |0,_=>⟨[],rfl,fun i x h=>by simp at h⟩
 |n+1,h=>by
  obtain⟨l,hl,hp⟩:=list_lt n (fun i hi=>h i (by omega))
  obtain⟨x,hx⟩:=h n (by omega)
  refine⟨l++[x],by simp[hl],fun i y hy=>?_⟩
  by_cases hi:i<l.length
  ·rw[List.getElem?_append_left hi] at hy;exact hp i y hy
  ·rw[List.getElem?_append_right (by omega)] at hy
   have h0:i - l.length=0:=by
    rcases Nat.eq_zero_or_pos (i - l.length) with h0|h0
    ·exact h0
    ·rw[List.getElem?_eq_none (by simp;omega)] at hy;cases hy
   rw[h0] at hy
   obtain rfl:x=y:=by simpa using hy
   rw[show i=n by omega];exact hx
theorem all_mem{P:Program}{e:TypeId}{b:Nat}:∀(l:List (DataW H)),(∀n ∈ DataW.weightsAll P e l,n≤b)→∀d ∈ l,∀n ∈ d.weights P e,n≤b
 |[],_,d,hd=>by cases hd
 |x::l,h,d,hd=>by
  intro n hn
  rcases List.mem_cons.1 hd with rfl|hd
  ·exact h n (by simp[DataW.weightsAll,hn])
  ·exact all_mem l (fun m hm=>h m (by simp[DataW.weightsAll,hm])) d hd n hn
theorem vK.slice{t e:TypeId}{α:Type}{k:Kd α}{B:α→Prop}(ht:Tryz.prog.underlying t=some (.slice e))(hc:Tryz.prog.cellsOf e=k.sz)(hb:1≤Tryz.prog.bytesOf e)(h:vK enc W e k B):
 vK enc W t (Kd.slice e k) (fun l=>l.length≤big∧∀x ∈ l,B x):=by
 intro fuel cs x hx hw
 rcases open_slice ht hx with⟨rfl,_⟩|⟨a,len,cap,m,n,D,Pl,rfl,_,hl,hm,hmm,rfl,hD⟩
 ·exact⟨[],⟨none,0,rfl,Nat.le_refl _,rfl,Nat.zero_le _,fun hp=>absurd hp (Nat.lt_irrefl _)⟩,Nat.zero_le _,fun x hx=>by cases hx⟩
 ·obtain rfl:m=cap:=by simpa using hmm
  simp only[DataW.weights,ht] at hw
  have hlen:len≤big:=by
   have h1:=hw _ (List.mem_cons_self ..)
   simp only[List.length_map,List.length_range] at h1
   refine reach_big (Nat.le_trans ?_ h1)
   calc len≤len+(m - len):=by omega
    _=(len+(m - len))*1:=by omega
    _≤_:=Nat.mul_le_mul_left _ hb
  have hall:∀i,i<len→∀n ∈ (D i).weights Tryz.prog e,n≤reachBytes:=fun i hi=>
   all_mem ((List.range len).map D) (fun n hn=>hw n (List.mem_cons_of_mem _ (List.mem_append_left _ hn))) (D i) (List.mem_map.2 ⟨i,List.mem_range.2 hi,rfl⟩)
  obtain⟨l,hll,hp⟩:=list_lt (p:=fun i (x:α)=>∃cs',W.cells? 0 (a.add (i*Tryz.prog.cellsOf e)) (Tryz.prog.cellsOf e)=some cs'∧k.K W x cs'∧B x) len (fun i hi=>by
   obtain⟨cs',h1,h2⟩:=hD i (by omega)
   obtain⟨y,h3,h4⟩:=h _ _ _ h2 (hall i hi)
   exact⟨y,cs',h1,h3,h4⟩)
  refine⟨l,⟨some a,m,by rw[hll],by omega,rfl,by unfold big at hlen;omega,fun hpos=>⟨a,rfl,fun j p hj=>?_⟩⟩,by omega,fun x hxm=>?_⟩
  ·obtain⟨cs',h1,h2,_⟩:=hp j p hj
   obtain⟨_,h3,h4⟩:=World.cells?_some h1
   refine⟨cs',h3.trans hc,h2,fun i u hu=>?_⟩
   have hi:i<cs'.length:=(List.getElem?_eq_some_iff.1 hu).1
   rw[←hu,←h4 i (by omega),Deep.add_add,hc]
  ·obtain⟨j,hj⟩:=List.getElem?_of_mem hxm
   obtain⟨_,_,_,h3⟩:=hp j x hj
   exact h3
theorem vK.last{N:Nat}{f:Field}{off:Nat}{α:Type}{k:Kd α}{B:α→Prop}(ho:f.offset=off)(hn:off+Tryz.prog.cellsOf f.type=N)(h:vK enc W f.type k B):OpensF enc W N [f] off k B:=by
 intro n cs xs hl hx hf hw
 match xs,hx with
 |[x],_=>
  have h0:=hf 0 f rfl
  rw[ho,List.take_of_length_le (by rw[List.length_drop];omega)] at h0
  exact h n _ x h0 (fun m hm=>hw m (by simp[DataW.weightsEach,hm]))
theorem vK.cons{N:Nat}{f:Field}{fs:List Field}{off:Nat}{α β:Type}{k:Kd α}{k':Kd β}{B:α→Prop}{B':β→Prop}(ho:f.offset=off)(h:vK enc W f.type k B)(hs:OpensF enc W N fs (off+Tryz.prog.cellsOf f.type) k' B'):
 OpensF enc W N (f::fs) off (Kd.pair k k') (fun p=>B p.1∧B' p.2):=by
 intro n cs xs hl hx hf hw
 match xs,hx with
 |x::xs,hx=>
  have h0:=hf 0 f rfl
  rw[ho] at h0
  obtain⟨a,h1,h2⟩:=h n _ x h0 (fun m hm=>hw m (by simp only[List.map_cons,DataW.weightsEach];exact List.mem_append_left _ hm))
  obtain⟨b,h3,h4⟩:=hs n cs xs hl (by simpa using hx) (fun i g hg=>hf (i+1) g hg) (fun m hm=>hw m (by simp only[List.map_cons,DataW.weightsEach];exact List.mem_append_right _ hm))
  refine⟨(a,b),⟨_,_,?_,h1,h3⟩,h2,h4⟩
  rw[←List.drop_drop,List.take_append_drop]
theorem vK.struct{t:TypeId}{fs:Array Field}{α β:Type}{k:Kd α}{B:α→Prop}{f:β→α}(ht:Tryz.prog.underlying t=some (.struct fs))(h:OpensF enc W (Tryz.prog.cellsOf t) fs.toList 0 k B)(g:α→β)(hg:∀a,f (g a)=a):
 vK enc W t (Kd.iso k f) (fun x=>B (f x)):=by
 intro fuel cs x hx hw
 obtain⟨xs,n,_,rfl,hl,hlen,hf⟩:=DataW.trod_struct ht hx
 simp only[DataW.weights,ht] at hw
 obtain⟨a,h1,h2⟩:=h n cs xs hl (by simpa using hlen) (fun i f hf'=>hf i f (by simpa using hf')) hw
 refine⟨g a,?_,?_⟩
 ·show k.K W (f (g a)) cs
  rw[hg];simpa using h1
 ·show B (f (g a))
  rw[hg];exact h2
theorem vK.imp{t:TypeId}{α:Type}{k:Kd α}{B B':α→Prop}(h:vK enc W t k B)(hi:∀a,B a→B' a):vK enc W t k B':=fun n cs x hx hw=>by
 obtain⟨a,h1,h2⟩:=h n cs x hx hw
 exact⟨a,h1,hi a h2⟩
end
end P
end Go.Proofs.YtcekmnclmldmmaaGreatDoor.Q
namespace Go.Proofs.YtcekmnclmldmmaaGreatDoor.Law
open Go.ChangeShapes Go.WideShapes Go.ChangeAt Go.RowKit Go.Deep
open Q Q.P W1 W2 W3
section
variable {H : Type} {enc : TypeId × Value → H} {W : World}
theorem oStr:vK enc W 9 Kd.string (fun s=>s.size≤big):=vK.str Tryz.underlying9
theorem oEntry:vK enc W 159 k159 BEntry:=
 (vK.struct Tryz.underlying159 (vK.cons rfl oStr (vK.cons (by kernel_rfl) (vK.num Tryz.underlying2) (vK.cons (by kernel_rfl) oStr (vK.last (by kernel_rfl) (by kernel_rfl) (vK.bool Tryz.underlying4)))))
  (fun p=>⟨p.1,p.2.1,p.2.2.1,p.2.2.2⟩) (fun _=>rfl)).imp fun a h=>⟨h.1,h.2.2.1⟩
theorem oEntryS:vK enc W 101 (Kd.slice 159 k159) BEntryS:=
 (vK.slice Tryz.underlying101 (by kernel_rfl) (of_decide_eq_true (by kernel_rfl)) oEntry).imp fun a h=>⟨h.1,h.2⟩
theorem oStringS:vK enc W 39 (Kd.slice 9 Kd.string) BStringS:=
 (vK.slice Tryz.underlying39 (by kernel_rfl) (of_decide_eq_true (by kernel_rfl)) oStr).imp fun a h=>⟨h.1,h.2⟩
theorem oItem:vK enc W 103 k103 BItem:=
 (vK.struct Tryz.underlying103 (vK.cons rfl oStr (vK.cons (by kernel_rfl) oStr (vK.cons (by kernel_rfl) oStringS (vK.cons (by kernel_rfl) oStr (vK.last (by kernel_rfl) (by kernel_rfl) oEntryS)))))
  (fun p=>⟨p.1,p.2.1,p.2.2.1,p.2.2.2.1,p.2.2.2.2⟩) (fun _=>rfl)).imp fun a h=>⟨h.1,h.2.1,h.2.2.1,h.2.2.2.1,h.2.2.2.2⟩
theorem oGen:vK enc W 161 k161 BGen:=
 (vK.struct Tryz.underlying161 (vK.cons rfl (vK.num Tryz.underlying2) (vK.last (by kernel_rfl) (by kernel_rfl) oStr)) (fun p=>⟨p.1,p.2⟩) (fun _=>rfl)).imp fun a h=>⟨h.2⟩
theorem oGenS:vK enc W 105 (Kd.slice 161 k161) BGenS:=
 (vK.slice Tryz.underlying105 (by kernel_rfl) (of_decide_eq_true (by kernel_rfl)) oGen).imp fun a h=>⟨h.1,h.2⟩
theorem oProfile:vK enc W 107 k107 BProfile:=
 (vK.struct Tryz.underlying107 (vK.cons rfl oStr (vK.cons (by kernel_rfl) (vK.num Tryz.underlying2) (vK.last (by kernel_rfl) (by kernel_rfl) oGenS))) (fun p=>⟨p.1,p.2.1,p.2.2⟩) (fun _=>rfl)).imp fun a h=>⟨h.1,h.2.2⟩
theorem oPending:vK enc W 110 k110 BPending:=
 (vK.struct Tryz.underlying110 (vK.cons rfl oStr (vK.cons (by kernel_rfl) oEntryS (vK.last (by kernel_rfl) (by kernel_rfl) oStr))) (fun p=>⟨p.1,p.2.1,p.2.2⟩) (fun _=>rfl)).imp fun a h=>⟨h.1,h.2.1,h.2.2⟩
theorem oNext:vK enc W 112 k112 BNext:=
 (vK.struct Tryz.underlying112 (vK.cons rfl oStr (vK.last (by kernel_rfl) (by kernel_rfl) oStr)) (fun p=>⟨p.1,p.2⟩) (fun _=>rfl)).imp fun a h=>⟨h.1,h.2⟩
theorem oItemS:vK enc W 22 (Kd.slice 103 k103) BItemS:=
 (vK.slice Tryz.underlying22 (by kernel_rfl) (of_decide_eq_true (by kernel_rfl)) oItem).imp fun a h=>⟨h.1,h.2⟩
theorem oProfileS:vK enc W 23 (Kd.slice 107 k107) BProfileS:=
 (vK.slice Tryz.underlying23 (by kernel_rfl) (of_decide_eq_true (by kernel_rfl)) oProfile).imp fun a h=>⟨h.1,h.2⟩
theorem oPendingS:vK enc W 24 (Kd.slice 110 k110) BPendingS:=
 (vK.slice Tryz.underlying24 (by kernel_rfl) (of_decide_eq_true (by kernel_rfl)) oPending).imp fun a h=>⟨h.1,h.2⟩
theorem oNextS:vK enc W 25 (Kd.slice 112 k112) BNextS:=
 (vK.slice Tryz.underlying25 (by kernel_rfl) (of_decide_eq_true (by kernel_rfl)) oNext).imp fun a h=>⟨h.1,h.2⟩
end
theorem own:ownKnob Tryz.prog.godebug=none:=by kernel_rfl
theorem laidOut:laidOutB Tryz.prog=true:=by kernel_rfl
def laid:List (String×DataW Unit):=Rows.fnExactNeededRow.laid
theorem wrap{H:Type}{enc:TypeId×Value→H}{a:Assume}{C:Checked}{os:Os}{f:FuncId}{fn:Func}{s:ChangeSpec}{apart fresh handsOn again:Bool}{X:World→Array Value→Prop}
 (own:ownKnob C.prog.godebug=none) (started:os.Started) (noInit:C.prog.inits.idxOf? f=none) (hfn:C.prog.funcs[f]?=some fn)
 (witness:∃(w:World) (tape:Tape) (i:Input),w.os=os∧(w.forCall tape i).Shaped C.prog∧i.vars=[]∧Input.okWide C.prog (w.forCall tape i) .any w.heap.size f i∧
  ((s.pre enc C.prog fn [] apart (w.forCall tape i).memory i.args∧X (w.forCall tape i).memory i.args)∧sizedMet enc C.prog fn (OpenSpec.ofChange s) apart (w.forCall tape i).memory i.args)∧a.holds C.prog (lone (Frame.enter C.prog f i.args .normal) [] (w.forCall tape i)))
 (contract:∀(W:World) (base:Nat) (args:Array Value) (ds gs:List (DataW H)) (before:List MemPlace),
  (∀(j:Nat) t v,fn.params[j]?=some t→args[j]?=some v→Value.okWide C.prog W .any base t v)→
  DataW.Whole enc C.prog fn.params.toList s.vars apart W args.toList ds gs before→
  (DataW.weightsEach C.prog (fn.params.toList++s.plain.varTypes C.prog) (ds++gs)).all (· ≤reachBytes)=true→
  W.ShapedOpen C.prog→
  Calls C.prog f args W fun e W'=>∃v,e= .returned v∧s.post enc C.prog fn apart fresh handsOn again W args v W'):
 ReturnsInHanded a C os f .any (fun w args=>(s.pre enc C.prog fn [] apart w args∧X w args)∧sizedMet enc C.prog fn (OpenSpec.ofChange s) apart w args) (s.post enc C.prog fn apart fresh handsOn again):=by
 refine returnsInHanded_of_calls own started noInit witness ?_
 intro w tape i _ hsh _ hok hpre _
 obtain⟨_,_,_,fn',hfn',_,_,_,_,hval⟩:=hok
 have e:fn'=fn:=Option.some.inj (hfn'.symm.trans hfn)
 subst e
 obtain⟨⟨⟨ds,gs,before,hw,_⟩,_⟩,hz⟩:=hpre
 have hw':=DataW.Whole.of_heap (w':=w.forCall tape i) (by rfl) hw
 refine(contract (w.forCall tape i) w.heap.size i.args ds gs before hval hw' (hz.weights hw) hsh).mono fun e W' ⟨v,he,hp⟩=>?_
 subst he
 exact ChangeSpec.post_blind hp
set_option maxRecDepth 100000 in
set_option maxHeartbeats 1000000 in
theorem lifted(os:Os)(started:os.Started)(H:Type)(enc:TypeId×Value→H):
 ReturnsInHanded {} Tryz.checked os 4 .any (fun w args=>(Rows.fnExactNeededSpec.pre enc Tryz.prog Tryz.f4 [] false w args∧laidMetH Tryz.prog laid w)∧sizedMet enc Tryz.prog Tryz.f4 (OpenSpec.ofChange Rows.fnExactNeededSpec) false w args)
  (Rows.fnExactNeededSpec.post enc Tryz.prog Tryz.f4 false true false false):=by
 refine wrap (C:=Tryz.checked) (X:=fun w _=>laidMetH Tryz.prog laid w) own started (by kernel_rfl) Tryz.func4
  (ChangeSpec.witness_shaped (enc:=enc) (C:=Tryz.checked) (os:=os) (X:=fun w _=>laidMetH Tryz.prog laid w) false (World.laidAll Tryz.prog os laid) #[.agg #[.slice none 0 0,.slice none 0 0,.slice none 0 0,.slice none 0 0],.string ⟨#[]⟩] 8 (World.laidAll_os _ _ _)
   (World.shaped_of_ZipB (by kernel_rfl) (by kernel_rfl)) (by kernel_rfl) (by kernel_rfl) (by kernel_rfl)
   (by rw[MakeChecks.laidMetH_plain _ _ _ (by kernel_rfl)];exact laidMet_laidAll _ (by kernel_rfl) (by kernel_rfl))) ?_
 intro W base args ds gs before hval0 hW hsz0 hsh
 have hsz:(DataW.weightsEach Tryz.prog (Tryz.f4.params.toList++Rows.fnExactNeededSpec.plain.varTypes Tryz.prog) (ds++gs)).all (· ≤reachBytes)=true:=hsz0
 have hval:∀(j:Nat) t v,Tryz.f4.params[j]?=some t→args[j]?=some v→Value.okWide Tryz.prog W .any base t v:=hval0
 have hW':=hW
 obtain⟨p,q,hA0,hV,rfl,_,_⟩:=hW
 have hA:DataW.TrodAll enc Tryz.prog W 0 (fun _=>true) true Tryz.f4.params.toList args.toList ds p:=hA0
 rw[Tryz.params4] at hA hval hsz
 obtain⟨v0,v1,d0,d1,p0,p1,rfl,rfl,rfl,h0,h1⟩:=trodAll_two hA
 obtain⟨rfl,rfl⟩:=trodVars_none hV
 have h0k:=h0
 have h1k:=h1
 have lt0:∀x ∈ p0,x.block<W.heap.size:=by obtain⟨m,hm⟩:=h0k;exact DataW.trod_lt m _ _ _ hm
 have lt1:∀x ∈ p1,x.block<W.heap.size:=by obtain⟨m,hm⟩:=h1k;exact DataW.trod_lt m _ _ _ hm
 obtain⟨u,rfl⟩:=okWide_string Tryz.underlying9 (hval 1 9 v1 rfl rfl)
 obtain⟨w0,w1,w2,w3,y0,y1,y2,y3,n,rfl,rfl,rfl,h0a,h0b,h0c,h0d⟩:=Joins.open_agg4 Tryz.underlying27 (by kernel_rfl) (by kernel_rfl) (hval 0 27 v0 rfl rfl) h0
 have hz:∀m ∈ DataW.weightsEach Tryz.prog [22,23,24,25] [y0.1,y1.1,y2.1,y3.1],m≤reachBytes:=fun m hm=>by
  have:=List.all_eq_true.1 hsz m (DataW.weights_mem_each (j:=0) (t:=27) (d:= .agg [y0.1,y1.1,y2.1,y3.1]) rfl rfl m (by simp only[DataW.weights,Tryz.underlying27];exact hm))
  simpa using this
 simp only[DataW.weightsEach,List.mem_append] at hz
 obtain⟨l0,⟨A0,c0,e0,hc0,hr0⟩,b0⟩:=oItemS (enc:=enc) (W:=W) n [w0] y0 h0a (fun m hm=>hz m (.inl hm))
 obtain⟨l1,⟨A1,c1,e1,hc1,hr1⟩,b1⟩:=oProfileS (enc:=enc) (W:=W) n [w1] y1 h0b (fun m hm=>hz m (.inr (.inl hm)))
 obtain⟨l2,⟨A2,c2,e2,hc2,hr2⟩,b2⟩:=oPendingS (enc:=enc) (W:=W) n [w2] y2 h0c (fun m hm=>hz m (.inr (.inr (.inl hm))))
 obtain⟨l3,⟨A3,c3,e3,hc3,hr3⟩,b3⟩:=oNextS (enc:=enc) (W:=W) n [w3] y3 h0d (fun m hm=>hz m (.inr (.inr (.inr (.inl hm)))))
 simp only[List.cons.injEq,and_true] at e0 e1 e2 e3
 subst e0 e1 e2 e3
 obtain⟨m,hm⟩:=cell_of_shapedOpen_int (P:=Tryz.prog) (g:=0) (t:=3) (zero:= #[.int .i64 0]) hsh (of_decide_eq_true (by kernel_rfl)) (by kernel_rfl) rfl (by kernel_rfl) (by kernel_rfl) Tryz.underlying3
 refine(needLaw l0 l1 l2 l3 b0 b1 b2 b3 u ⟨hr0,hc0,hr1,hc1,hr2,hc2,hr3,hc3⟩ ⟨m,hm⟩).mono fun e W' ⟨he,bel⟩=>?_
 subst he
 refine⟨_,rfl,_,_,_,[],_,[],hW',trodAll_mk1 (shut_bool Tryz.underlying4 _),trodAll_mk2 (Below.trod laidOut (by kernel_rfl) (of_decide_eq_true (by kernel_rfl)) h0k bel lt0) (Below.trod laidOut (by kernel_rfl) (of_decide_eq_true (by kernel_rfl)) h1k bel lt1),rfl,bel.frame _,fun h=>by cases h⟩
theorem holds:Rows.fnExactNeededRow.holds Tryz.pinned (OpenSpec.ofChange Rows.fnExactNeededSpec):=
 OpenClaim.holds_of_wide 4 Tryz.f4 rfl rfl rfl rfl rfl rfl rfl ⟨rfl,rfl,rfl,rfl,rfl⟩ rfl rfl rfl rfl rfl (by kernel_rfl) Tryz.func4 (by kernel_rfl)
  (of_decide_eq_true (by kernel_rfl)) (by unfold Func.isWrapper;first|(rw[if_pos (by decide+kernel)];kernel_rfl)|(rw[if_neg (by decide+kernel)];exact⟨rfl,rfl⟩))
  (fun os started H enc _=>lifted os started H enc)
theorem card_holds:Rows.FnExactNeededCardSaid:=
 Claim7.holds_tied_plain_at .later [] [.data,.pinned] true (true,"99afc5a29af5a04db0b6d2a0182420a6ca6179fab8d5add1538c5249fd447804") false holds (fun _ h=>by cases h) (by kernel_rfl) (fun _ h=>by cases h) fnExactNeeded_row_tie rfl ⟨rfl,rfl⟩ (by kernel_rfl) rfl
  (fun f fn hf hfn=>by
   obtain rfl:f=4:=Option.some.inj ((show Tryz.prog.funcNamed "loop.example/g00023/laws.FnExactNeeded"=some 4 by kernel_rfl).symm.trans hf)|>.symm
   obtain rfl:fn=Tryz.f4:=(Option.some.inj (Tryz.func4.symm.trans hfn)).symm
   exact⟨by kernel_rfl,fun j t ht=>by
    rw[Tryz.params4] at ht
    have hm:t ∈ [27,9]:=by simpa using Array.mem_of_getElem? ht
    have hall:([27,9].all fun u=> !Tryz.prog.wantsStandIn u)=true:=by kernel_rfl
    exact(show Tryz.prog.wantsStandIn t=false by simpa using List.all_eq_true.1 hall t hm)⟩)
  (by kernel_rfl)
#print axioms card_holds
end Go.Proofs.YtcekmnclmldmmaaGreatDoor.Law
