/- Proved: at every run the law FnExactRecover returns true (impl.Recover answers as spec.Recover does, leaves its argument as it was, and its answer owns its memory), under no condition but the card's own: the variables that the row lists read as the program's text lays them. -/
import Derived.Test.YtcekmnclmldmmaaGreatDoorR23
import Derived.Test.YtcekmnclmldmmaaGreatDoorR25
import Derived.Test.YtcekmnclmldmmaaGreatDoorR27
import Derived.Lib.SmallJoins
import Derived.SizedLaws
import Derived.Test.YtcekmnclmldmmaaGreatDoorCards
import Derived.Test.YtcekmnclmldmmaaGreatDoorTie
import Derived.ProofKit
import Derived.OpenShut
import Derived.Lay
import Derived.LaidOnce
import Derived.SevenTiedAt
import Derived.Handed
import Derived.Shelf.Vars
set_option linter.unusedVariables false
set_option linter.unusedSimpArgs false
namespace Go.Proofs.YtcekmnclmldmmaaGreatDoor.Q
open Go.RowKit W1 W2 W3
namespace P
theorem take_push{α:Type}(X:List α)(i:Nat)(h:i<X.length):X.take i++[X[i]]=X.take (i+1):=by
 rw[List.take_add_one,List.getElem?_eq_getElem h];rfl
theorem cpTreeI(t:List Entry)(h:t.length≤1048576):impl_copyTree.f t=some t:=by
 unfold impl_copyTree.f
 simp only[Option.bind_some,List.length_nil,List.nil_append,if_pos (show 0+t.length<2932031007402 by omega)]
theorem cpTreeS(t:List Entry)(h:t.length≤1048576):spec_l10Copy.f t=some t:=by
 unfold spec_l10Copy.f
 simp only[Option.bind_some,List.length_nil,List.nil_append,if_pos (show 0+t.length<2932031007402 by omega)]
theorem cpItemI(x:Item)(h:x.f2.length≤1048576)(h':x.f4.length≤1048576):impl_copyItem.f x.f0 x.f1 x.f2 x.f3 x.f4=some (x.f0,x.f1,x.f2,x.f3,x.f4):=by
 unfold impl_copyItem.f
 simp only[Option.bind_some,List.length_nil,List.nil_append,if_pos (show 0+x.f2.length<8796093022208 by omega),cpTreeI _ h']
theorem cpItemS(x:Item)(h:x.f2.length≤1048576)(h':x.f4.length≤1048576):spec_l12Copy.f x.f0 x.f1 x.f2 x.f3 x.f4=some (x.f0,x.f1,x.f2,x.f3,x.f4):=by
 unfold spec_l12Copy.f
 simp only[Option.bind_some,List.length_nil,List.nil_append,if_pos (show 0+x.f2.length<8796093022208 by omega),cpTreeS _ h']
section
variable (st : List Item) (hs : st.length ≤ 1048576) (hi : ∀ x ∈ st, x.f2.length ≤ 1048576 ∧ x.f4.length ≤ 1048576)
include hs hi
theorem cpStoreI:∀d i:Nat,st.length=i+d→Ev (fun k=>impl_copyStore.l0 k (st.take i) st (st.length:Int) (i:Int)) st
 |0,i,h=>by
  refine Ev.step (fun k=>by rw[impl_copyStore.l0]) ?_
  simp only[if_neg (show¬(i:Int)<st.length by omega),List.take_of_length_le (show st.length≤i by omega)]
  exact Ev.now _
 |d+1,i,h=>by
  have ih:=cpStoreI d (i+1) (by omega)
  have hm:=hi _ (List.getElem_mem (show i<st.length by omega))
  have hl:(st.take i).length=i:=by rw[List.length_take];omega
  refine Ev.step (fun k=>by rw[impl_copyStore.l0]) ?_
  have e:rdI st i=st[i]:=rdI_at st i (by omega)
  simp only[if_pos (show(i:Int)<st.length by omega),if_pos (show(0:Int)≤i by omega),e,cpItemI _ hm.1 hm.2,Option.bind_some,hl,if_pos (show i<1466015503701 by omega),w1 (show i<4611686018427387905 by omega)]
  rw[←take_push st i (by omega)] at ih
  exact ih
theorem cpStoreS:∀d i:Nat,st.length=i+d→Ev (fun k=>spec_l12Copies.l0 k st (st.take i) (i:Int)) st
 |0,i,h=>by
  refine Ev.step (fun k=>by rw[spec_l12Copies.l0]) ?_
  simp only[if_neg (show¬(i:Int)<st.length by omega),List.take_of_length_le (show st.length≤i by omega)]
  exact Ev.now _
 |d+1,i,h=>by
  have ih:=cpStoreS d (i+1) (by omega)
  have hm:=hi _ (List.getElem_mem (show i<st.length by omega))
  have hl:(st.take i).length=i:=by rw[List.length_take];omega
  refine Ev.step (fun k=>by rw[spec_l12Copies.l0]) ?_
  have e:rdI st i=st[i]:=rdI_at st i (by omega)
  simp only[if_pos (show(i:Int)<st.length by omega),if_pos (show(0:Int)≤i by omega),e,cpItemS _ hm.1 hm.2,Option.bind_some,hl,if_pos (show i<1466015503701 by omega),w1 (show i<4611686018427387905 by omega)]
  rw[←take_push st i (by omega)] at ih
  exact ih
end
section
variable (ps : List Prof) (hs : ps.length ≤ 1048576) (hi : ∀ x ∈ ps, x.f2.length ≤ 1048576)
include hs hi
theorem cpProfsI:∀d i:Nat,ps.length=i+d→Ev (fun k=>impl_copyProfiles.l0 k (ps.take i) ps (ps.length:Int) (i:Int)) ps
 |0,i,h=>by
  refine Ev.step (fun k=>by rw[impl_copyProfiles.l0]) ?_
  simp only[if_neg (show¬(i:Int)<ps.length by omega),List.take_of_length_le (show ps.length≤i by omega)]
  exact Ev.now _
 |d+1,i,h=>by
  have ih:=cpProfsI d (i+1) (by omega)
  have hm:=hi _ (List.getElem_mem (show i<ps.length by omega))
  have hl:(ps.take i).length=i:=by rw[List.length_take];omega
  refine Ev.step (fun k=>by rw[impl_copyProfiles.l0]) ?_
  have e:rdP ps i=ps[i]:=rdP_at ps i (by omega)
  simp only[if_pos (show(i:Int)<ps.length by omega),if_pos (show(0:Int)≤i by omega),e,Option.bind_some,List.length_nil,List.nil_append,if_pos (show 0+ps[i].f2.length<5864062014805 by omega),hl,if_pos (show i<2932031007402 by omega),w1 (show i<4611686018427387905 by omega)]
  rw[←take_push ps i (by omega)] at ih
  exact ih
theorem cpProfsS:∀d i:Nat,ps.length=i+d→Ev (fun k=>spec_l13Copy.l0 k ps (ps.take i) (i:Int)) ps
 |0,i,h=>by
  refine Ev.step (fun k=>by rw[spec_l13Copy.l0]) ?_
  simp only[if_neg (show¬(i:Int)<ps.length by omega),List.take_of_length_le (show ps.length≤i by omega)]
  exact Ev.now _
 |d+1,i,h=>by
  have ih:=cpProfsS d (i+1) (by omega)
  have hm:=hi _ (List.getElem_mem (show i<ps.length by omega))
  have hl:(ps.take i).length=i:=by rw[List.length_take];omega
  refine Ev.step (fun k=>by rw[spec_l13Copy.l0]) ?_
  have e:rdP ps i=ps[i]:=rdP_at ps i (by omega)
  simp only[if_pos (show(i:Int)<ps.length by omega),if_pos (show(0:Int)≤i by omega),e,Option.bind_some,List.length_nil,List.nil_append,if_pos (show 0+ps[i].f2.length<5864062014805 by omega),hl,if_pos (show i<2932031007402 by omega),w1 (show i<4611686018427387905 by omega)]
  rw[←take_push ps i (by omega)] at ih
  exact ih
end
section
variable (qs : List Pend) (hs : qs.length ≤ 1048576) (hi : ∀ x ∈ qs, x.f1.length ≤ 1048576) (a : List Item) (b : List Prof) (n : List Next)
include hs hi
theorem cpPendI:∀d i:Nat,qs.length=i+d→Ev (fun k=>impl_copyWorld.l0 k qs (qs.length:Int) (i:Int) a b (qs.take i) n) (a,b,qs,n)
 |0,i,h=>by
  refine Ev.step (fun k=>by rw[impl_copyWorld.l0]) ?_
  simp only[if_neg (show¬(i:Int)<qs.length by omega),List.take_of_length_le (show qs.length≤i by omega)]
  exact Ev.now _
 |d+1,i,h=>by
  have ih:=cpPendI d (i+1) (by omega)
  have hm:=hi _ (List.getElem_mem (show i<qs.length by omega))
  have hl:(qs.take i).length=i:=by rw[List.length_take];omega
  refine Ev.step (fun k=>by rw[impl_copyWorld.l0]) ?_
  have e:rdQ qs i=qs[i]:=rdQ_at qs i (by omega)
  simp only[if_pos (show(i:Int)<qs.length by omega),if_pos (show(0:Int)≤i by omega),e,cpTreeI _ hm,Option.bind_some,hl,if_pos (show i<2513169434916 by omega),w1 (show i<4611686018427387905 by omega)]
  rw[←take_push qs i (by omega)] at ih
  exact ih
theorem cpPendS(x y:List Item)(u v:List Prof)(m:List Next):∀d i:Nat,qs.length=i+d→Ev (fun k=>spec_l19Copy.l0 k (i:Int) x u qs m a b (qs.take i) n) (a,b,qs,n)
 |0,i,h=>by
  refine Ev.step (fun k=>by rw[spec_l19Copy.l0]) ?_
  simp only[if_neg (show¬(i:Int)<qs.length by omega),List.take_of_length_le (show qs.length≤i by omega)]
  exact Ev.now _
 |d+1,i,h=>by
  have ih:=cpPendS x y u v m d (i+1) (by omega)
  have hm:=hi _ (List.getElem_mem (show i<qs.length by omega))
  have hl:(qs.take i).length=i:=by rw[List.length_take];omega
  refine Ev.step (fun k=>by rw[spec_l19Copy.l0]) ?_
  have e:rdQ qs i=qs[i]:=rdQ_at qs i (by omega)
  simp only[if_pos (show(i:Int)<qs.length by omega),if_pos (show(0:Int)≤i by omega),e,cpTreeS _ hm,Option.bind_some,hl,if_pos (show i<2513169434916 by omega),w1 (show i<4611686018427387905 by omega)]
  rw[←take_push qs i (by omega)] at ih
  exact ih
end
section
variable {a : List LItem} {b : List LProfile} {c : List LPending} {d : List LNext}
theorem cpWorldI(H:SmallW a b c d):Ev (fun k=>impl_copyWorld.f k (a.map cpItem) (b.map vA) (c.map vL) (d.map cpNext)) (a.map cpItem,b.map vA,c.map vL,d.map cpNext):=by
 unfold impl_copyWorld.f
 have hd:=H.d.len
 refine Ev.bind (cpStoreI _ (by simpa using H.a.len) (fun x hx=>?_) (a.map cpItem).length 0 (by omega)) ?_
 ·obtain⟨y,hy,rfl⟩:=List.mem_map.1 hx
  exact⟨(H.a.all y hy).f2.len,by simpa[cpItem] using(H.a.all y hy).f4.len⟩
 refine Ev.bind (cpProfsI _ (by simpa using H.b.len) (fun x hx=>?_) (b.map vA).length 0 (by omega)) ?_
 ·obtain⟨y,hy,rfl⟩:=List.mem_map.1 hx
  simpa[vA] using(H.b.all y hy).f2.len
 simp only[Option.bind_some,List.length_nil,List.nil_append,if_pos (show 0+(d.map cpNext).length<4398046511104 by rw[List.length_map];omega)]
 refine cpPendI _ (by simpa using H.c.len) (fun x hx=>?_) _ _ _ (c.map vL).length 0 (by omega)
 obtain⟨y,hy,rfl⟩:=List.mem_map.1 hx
 simpa[vL] using(H.c.all y hy).f1.len
theorem cpWorldS(H:SmallW a b c d):Ev (fun k=>spec_l19Copy.f k (a.map cpItem) (b.map vA) (c.map vL) (d.map cpNext)) (a.map cpItem,b.map vA,c.map vL,d.map cpNext):=by
 unfold spec_l19Copy.f
 have hd:=H.d.len
 refine Ev.bind (cpStoreS _ (by simpa using H.a.len) (fun x hx=>?_) (a.map cpItem).length 0 (by omega)) ?_
 ·obtain⟨y,hy,rfl⟩:=List.mem_map.1 hx
  exact⟨(H.a.all y hy).f2.len,by simpa[cpItem] using(H.a.all y hy).f4.len⟩
 refine Ev.bind (cpProfsS _ (by simpa using H.b.len) (fun x hx=>?_) (b.map vA).length 0 (by omega)) ?_
 ·obtain⟨y,hy,rfl⟩:=List.mem_map.1 hx
  simpa[vA] using(H.b.all y hy).f2.len
 simp only[Option.bind_some,List.length_nil,List.nil_append,if_pos (show 0+(d.map cpNext).length<4398046511104 by rw[List.length_map];omega)]
 refine cpPendS _ (by simpa using H.c.len) (fun x hx=>?_) _ _ _ _ [] _ [] _ (c.map vL).length 0 (by omega)
 obtain⟨y,hy,rfl⟩:=List.mem_map.1 hx
 simpa[vL] using(H.c.all y hy).f1.len
theorem eRec(H:SmallW a b c d):∃(a':List LItem) (b':List LProfile),SmallW a' b' [] []∧Ev (fun k=>impl_Recover.f k (a.map cpItem) (b.map vA) (c.map vL) (d.map cpNext)) (a'.map cpItem,b'.map vA,[],[])∧
 Ev (fun k=>spec_Recover.f k (a.map cpItem) (b.map vA) (c.map vL) (d.map cpNext)) (a'.map cpItem,b'.map vA,[],[]):=by
 have hc:SmallPendingS []:=⟨by decide,fun x h=>by cases h⟩
 have hd:SmallNextS []:=⟨by decide,fun x h=>by cases h⟩
 have h1:=eWorldI (sized H)
 have h2:=eWorldS (sized H)
 cases hw:worldOk (a.map cpItem) (b.map vA) (c.map vL) (d.map cpNext) with
 |false=>
  rw[hw] at h1 h2
  refine⟨[],[],⟨⟨by decide,fun x h=>by cases h⟩,⟨by decide,fun x h=>by cases h⟩,hc,hd⟩,?_,?_⟩
  ·unfold impl_Recover.f
   refine Ev.bind h1 ?_
   simp only[Bool.false_eq_true,if_false]
   exact Ev.now _
  ·unfold spec_Recover.f
   refine Ev.bind h2 ?_
   simp only[Bool.false_eq_true,if_false]
   exact Ev.now _
 |true=>
  rw[hw] at h1 h2
  refine⟨a,b,⟨H.a,H.b,hc,hd⟩,?_,?_⟩
  ·unfold impl_Recover.f
   refine Ev.bind h1 ?_
   simp only[if_true]
   exact Ev.bind (cpWorldI H) (Ev.now _)
  ·unfold spec_Recover.f
   refine Ev.bind h2 ?_
   simp only[if_true]
   exact Ev.bind (cpWorldS H) (Ev.now _)
end
theorem recLaw(a:List LItem)(b:List LProfile)(c:List LPending)(d:List LNext)(ha:BItemS a)(hb:BProfileS b)(hc:BPendingS c)(hd:BNextS d){A0 A1 A2 A3:Option Addr}{c0 c1 c2 c3:Nat}{w:World}
 (hL:Nd.L4 w A0 c0 A1 c1 A2 c2 A3 c3 a b c d) (hG:GOK w):Calls Tryz.prog 6 #[.agg #[.slice A0 a.length c0,.slice A1 b.length c1,.slice A2 c.length c2,.slice A3 d.length c3]] w fun e w'=>e= .returned (.bool true)∧Below w.heap.size w w':=by
 obtain⟨r,e,hr⟩:=szWorld_ok a b c d ha hb hc hd
 obtain⟨kz,hz⟩:=e.rounds
 by_cases h0:r<0
 ·exact laws_FnExactRecover.much hL hz h0
 obtain⟨_,_,H⟩:=hr.resolve_left h0
 obtain⟨kt,ht⟩:=(toWorld_ok H).rounds
 obtain⟨kw,hw⟩:=(eqWorld_ok H).rounds
 obtain⟨a',b',H',e1,e2⟩:=eRec H
 obtain⟨ki,hi⟩:=e1.rounds
 obtain⟨ks,hs⟩:=e2.rounds
 obtain⟨ke,he⟩:=(eqWorld_ok H').rounds
 have l1:(a'.map cpItem).length≤1048576:=by simpa using H'.a.len
 have l2:(b'.map vA).length≤1048576:=by simpa using H'.b.len
 obtain⟨n1,n2,M0,M1,m1,m2,m3,m4⟩:=mhWorld (a'.map cpItem) (b'.map vA) l1 (fun x hx=>by
  obtain⟨y,hy,rfl⟩:=List.mem_map.1 hx
  exact⟨(H'.a.all y hy).f2.len,by simpa[cpItem] using(H'.a.all y hy).f4.len⟩) l2 (fun x hx=>by
  obtain⟨y,hy,rfl⟩:=List.mem_map.1 hx
  simpa[vA] using(H'.b.all y hy).f2.len)
 obtain⟨k1,hm0⟩:=m1.rounds
 obtain⟨k2,hm1⟩:=m2.rounds
 obtain⟨kh,hh⟩:=m3.rounds
 exact laws_FnExactRecover.calls hL hG hz h0 ht hs hi he hw hm0 hm1 hh (by omega) (by omega) (by omega) (by omega) (few H)
end P
end Go.Proofs.YtcekmnclmldmmaaGreatDoor.Q
namespace Go.Proofs.YtcekmnclmldmmaaGreatDoor.Q
open Go.RowKit W1 W2 W3
open Go.Deep
namespace P
def vP{H:Type}(enc:TypeId×Value→H)(W:World)(t:TypeId){α:Type}(k:Kd α)(B:α→Prop):Prop:=
 ∀fuel cs x,DataW.trod enc Tryz.prog W 0 (fun _=>true) true fuel t cs=some x→(∀n ∈ x.1.weights Tryz.prog t,n≤reachBytes)→∃a,k.K W a cs∧B a
def OpensF{H:Type}(enc:TypeId×Value→H)(W:World)(N:Nat)(fs:List Field)(off:Nat){α:Type}(k:Kd α)(B:α→Prop):Prop:=
 ∀(n:Nat) (cs:List Value) (xs:List (DataW H×List MemPlace)),cs.length=N→xs.length=fs.length→
  (∀(i:Nat) (f:Field),fs[i]?=some f→DataW.trod enc Tryz.prog W 0 (fun _=>true) true n f.type ((cs.drop f.offset).take (Tryz.prog.cellsOf f.type))=xs[i]?)→
  (∀m ∈ DataW.weightsEach Tryz.prog (fs.map (·.type)) (xs.map (·.1)),m≤reachBytes)→∃a,k.K W a (cs.drop off)∧B a
section
variable {H : Type} {enc : TypeId × Value → H} {W : World}
theorem reach_big{n:Nat}(h:n≤reachBytes):n≤big:=by have:=reachBytes_lt;unfold big;omega
theorem vP.str{t:TypeId}(ht:Tryz.prog.underlying t=some .string):vP enc W t Kd.string (fun s=>s.size≤big):=by
 intro fuel cs x h hw
 obtain⟨s,rfl,rfl,_⟩:=DataW.trod_string ht h
 refine⟨s,rfl,reach_big ?_⟩
 have:=hw s.data.toList.length (by simp[DataW.weights])
 rwa [Array.length_toList] at this
theorem vP.num{t:TypeId}{k:IntKind}(ht:Tryz.prog.underlying t=some (.int k)):vP enc W t (Kd.int k) (fun _=>True):=by
 intro fuel cs x h hw
 obtain⟨n,rfl,rfl,_⟩:=DataW.trod_int ht h
 exact⟨n,rfl,trivial⟩
theorem vP.bool{t:TypeId}(ht:Tryz.prog.underlying t=some .bool):vP enc W t Kd.bool (fun _=>True):=by
 intro fuel cs x h hw
 obtain⟨n,rfl,rfl⟩:=DataW.trod_bool ht h
 exact⟨n,rfl,trivial⟩
theorem list_lt{α:Type}{p:Nat→α→Prop}:∀n:Nat,(∀i,i<n→∃x,p i x)→∃l:List α,l.length=n∧∀i x,l[i]?=some x→p i x
 |0,_=>⟨[],rfl,fun i x h=>by simp at h⟩
 |n+1,h=>by
  obtain⟨l,hl,hp⟩:=list_lt n (fun i hi=>h i (by omega))
  obtain⟨x,hx⟩:=h n (by omega)
  refine⟨l++[x],by simp[hl],fun i y hy=>?_⟩
  by_cases hi:i<l.length
  ·rw[List.getElem?_append_left hi] at hy;exact hp i y hy
  ·rw[List.getElem?_append_right (by omega)] at hy
   have h0:i - l.length=0:=by
    rcases Nat.eq_zero_or_pos (i - l.length) with h0|h0
    ·exact h0
    ·rw[List.getElem?_eq_none (by simp;omega)] at hy;cases hy
   rw[h0] at hy
   obtain rfl:x=y:=by simpa using hy
   rw[show i=n by omega];exact hx
theorem all_mem{P:Program}{e:TypeId}{b:Nat}:∀(l:List (DataW H)),(∀n ∈ DataW.weightsAll P e l,n≤b)→∀d ∈ l,∀n ∈ d.weights P e,n≤b
 |[],_,d,hd=>by cases hd
 |x::l,h,d,hd=>by
  intro n hn
  rcases List.mem_cons.1 hd with rfl|hd
  ·exact h n (by simp[DataW.weightsAll,hn])
  ·exact all_mem l (fun m hm=>h m (by simp[DataW.weightsAll,hm])) d hd n hn
theorem vP.slice{t e:TypeId}{α:Type}{k:Kd α}{B:α→Prop}(ht:Tryz.prog.underlying t=some (.slice e))(hc:Tryz.prog.cellsOf e=k.sz)(hb:1≤Tryz.prog.bytesOf e)(h:vP enc W e k B):
 vP enc W t (Kd.slice e k) (fun l=>l.length≤big∧∀x ∈ l,B x):=by
 intro fuel cs x hx hw
 rcases open_slice ht hx with⟨rfl,_⟩|⟨a,len,cap,m,n,D,Pl,rfl,_,hl,hm,hmm,rfl,hD⟩
 ·exact⟨[],⟨none,0,rfl,Nat.le_refl _,rfl,Nat.zero_le _,fun hp=>absurd hp (Nat.lt_irrefl _)⟩,Nat.zero_le _,fun x hx=>by cases hx⟩
 ·obtain rfl:m=cap:=by simpa using hmm
  simp only[DataW.weights,ht] at hw
  have hlen:len≤big:=by
   have h1:=hw _ (List.mem_cons_self ..)
   simp only[List.length_map,List.length_range] at h1
   refine reach_big (Nat.le_trans ?_ h1)
   calc len≤len+(m - len):=by omega
    _=(len+(m - len))*1:=by omega
    _≤_:=Nat.mul_le_mul_left _ hb
  have hall:∀i,i<len→∀n ∈ (D i).weights Tryz.prog e,n≤reachBytes:=fun i hi=>
   all_mem ((List.range len).map D) (fun n hn=>hw n (List.mem_cons_of_mem _ (List.mem_append_left _ hn))) (D i) (List.mem_map.2 ⟨i,List.mem_range.2 hi,rfl⟩)
  obtain⟨l,hll,hp⟩:=list_lt (p:=fun i (x:α)=>∃cs',W.cells? 0 (a.add (i*Tryz.prog.cellsOf e)) (Tryz.prog.cellsOf e)=some cs'∧k.K W x cs'∧B x) len (fun i hi=>by
   obtain⟨cs',h1,h2⟩:=hD i (by omega)
   obtain⟨y,h3,h4⟩:=h _ _ _ h2 (hall i hi)
   exact⟨y,cs',h1,h3,h4⟩)
  refine⟨l,⟨some a,m,by rw[hll],by omega,rfl,by unfold big at hlen;omega,fun hpos=>⟨a,rfl,fun j p hj=>?_⟩⟩,by omega,fun x hxm=>?_⟩
  ·obtain⟨cs',h1,h2,_⟩:=hp j p hj
   obtain⟨_,h3,h4⟩:=World.cells?_some h1
   refine⟨cs',h3.trans hc,h2,fun i u hu=>?_⟩
   have hi:i<cs'.length:=(List.getElem?_eq_some_iff.1 hu).1
   rw[←hu,←h4 i (by omega),Deep.add_add,hc]
  ·obtain⟨j,hj⟩:=List.getElem?_of_mem hxm
   obtain⟨_,_,_,h3⟩:=hp j x hj
   exact h3
theorem vP.last{N:Nat}{f:Field}{off:Nat}{α:Type}{k:Kd α}{B:α→Prop}(ho:f.offset=off)(hn:off+Tryz.prog.cellsOf f.type=N)(h:vP enc W f.type k B):OpensF enc W N [f] off k B:=by
 intro n cs xs hl hx hf hw
 match xs,hx with
 |[x],_=>
  have h0:=hf 0 f rfl
  rw[ho,List.take_of_length_le (by rw[List.length_drop];omega)] at h0
  exact h n _ x h0 (fun m hm=>hw m (by simp[DataW.weightsEach,hm]))
theorem vP.cons{N:Nat}{f:Field}{fs:List Field}{off:Nat}{α β:Type}{k:Kd α}{k':Kd β}{B:α→Prop}{B':β→Prop}(ho:f.offset=off)(h:vP enc W f.type k B)(hs:OpensF enc W N fs (off+Tryz.prog.cellsOf f.type) k' B'):
 OpensF enc W N (f::fs) off (Kd.pair k k') (fun p=>B p.1∧B' p.2):=by
 intro n cs xs hl hx hf hw
 match xs,hx with
 |x::xs,hx=>
  have h0:=hf 0 f rfl
  rw[ho] at h0
  obtain⟨a,h1,h2⟩:=h n _ x h0 (fun m hm=>hw m (by simp only[List.map_cons,DataW.weightsEach];exact List.mem_append_left _ hm))
  obtain⟨b,h3,h4⟩:=hs n cs xs hl (by simpa using hx) (fun i g hg=>hf (i+1) g hg) (fun m hm=>hw m (by simp only[List.map_cons,DataW.weightsEach];exact List.mem_append_right _ hm))
  refine⟨(a,b),⟨_,_,?_,h1,h3⟩,h2,h4⟩
  rw[←List.drop_drop,List.take_append_drop]
theorem vP.struct{t:TypeId}{fs:Array Field}{α β:Type}{k:Kd α}{B:α→Prop}{f:β→α}(ht:Tryz.prog.underlying t=some (.struct fs))(h:OpensF enc W (Tryz.prog.cellsOf t) fs.toList 0 k B)(g:α→β)(hg:∀a,f (g a)=a):
 vP enc W t (Kd.iso k f) (fun x=>B (f x)):=by
 intro fuel cs x hx hw
 obtain⟨xs,n,_,rfl,hl,hlen,hf⟩:=DataW.trod_struct ht hx
 simp only[DataW.weights,ht] at hw
 obtain⟨a,h1,h2⟩:=h n cs xs hl (by simpa using hlen) (fun i f hf'=>hf i f (by simpa using hf')) hw
 refine⟨g a,?_,?_⟩
 ·show k.K W (f (g a)) cs
  rw[hg];simpa using h1
 ·show B (f (g a))
  rw[hg];exact h2
theorem vP.imp{t:TypeId}{α:Type}{k:Kd α}{B B':α→Prop}(h:vP enc W t k B)(hi:∀a,B a→B' a):vP enc W t k B':=fun n cs x hx hw=>by
 obtain⟨a,h1,h2⟩:=h n cs x hx hw
 exact⟨a,h1,hi a h2⟩
end
end P
end Go.Proofs.YtcekmnclmldmmaaGreatDoor.Q
namespace Go.Proofs.YtcekmnclmldmmaaGreatDoor.Law
open Go.ChangeShapes Go.WideShapes Go.ChangeAt Go.RowKit Go.Deep
open Q Q.P W1 W2 W3
section
variable {H : Type} {enc : TypeId × Value → H} {W : World}
theorem oStr:vP enc W 9 Kd.string (fun s=>s.size≤big):=vP.str Tryz.underlying9
theorem oEntry:vP enc W 159 k159 BEntry:=
 (vP.struct Tryz.underlying159 (vP.cons rfl oStr (vP.cons (by kernel_rfl) (vP.num Tryz.underlying2) (vP.cons (by kernel_rfl) oStr (vP.last (by kernel_rfl) (by kernel_rfl) (vP.bool Tryz.underlying4)))))
  (fun p=>⟨p.1,p.2.1,p.2.2.1,p.2.2.2⟩) (fun _=>rfl)).imp fun a h=>⟨h.1,h.2.2.1⟩
theorem oEntryS:vP enc W 101 (Kd.slice 159 k159) BEntryS:=
 (vP.slice Tryz.underlying101 (by kernel_rfl) (of_decide_eq_true (by kernel_rfl)) oEntry).imp fun a h=>⟨h.1,h.2⟩
theorem oStringS:vP enc W 39 (Kd.slice 9 Kd.string) BStringS:=
 (vP.slice Tryz.underlying39 (by kernel_rfl) (of_decide_eq_true (by kernel_rfl)) oStr).imp fun a h=>⟨h.1,h.2⟩
theorem oItem:vP enc W 103 k103 BItem:=
 (vP.struct Tryz.underlying103 (vP.cons rfl oStr (vP.cons (by kernel_rfl) oStr (vP.cons (by kernel_rfl) oStringS (vP.cons (by kernel_rfl) oStr (vP.last (by kernel_rfl) (by kernel_rfl) oEntryS)))))
  (fun p=>⟨p.1,p.2.1,p.2.2.1,p.2.2.2.1,p.2.2.2.2⟩) (fun _=>rfl)).imp fun a h=>⟨h.1,h.2.1,h.2.2.1,h.2.2.2.1,h.2.2.2.2⟩
theorem oGen:vP enc W 161 k161 BGen:=
 (vP.struct Tryz.underlying161 (vP.cons rfl (vP.num Tryz.underlying2) (vP.last (by kernel_rfl) (by kernel_rfl) oStr)) (fun p=>⟨p.1,p.2⟩) (fun _=>rfl)).imp fun a h=>⟨h.2⟩
theorem oGenS:vP enc W 105 (Kd.slice 161 k161) BGenS:=
 (vP.slice Tryz.underlying105 (by kernel_rfl) (of_decide_eq_true (by kernel_rfl)) oGen).imp fun a h=>⟨h.1,h.2⟩
theorem oProfile:vP enc W 107 k107 BProfile:=
 (vP.struct Tryz.underlying107 (vP.cons rfl oStr (vP.cons (by kernel_rfl) (vP.num Tryz.underlying2) (vP.last (by kernel_rfl) (by kernel_rfl) oGenS))) (fun p=>⟨p.1,p.2.1,p.2.2⟩) (fun _=>rfl)).imp fun a h=>⟨h.1,h.2.2⟩
theorem oPending:vP enc W 110 k110 BPending:=
 (vP.struct Tryz.underlying110 (vP.cons rfl oStr (vP.cons (by kernel_rfl) oEntryS (vP.last (by kernel_rfl) (by kernel_rfl) oStr))) (fun p=>⟨p.1,p.2.1,p.2.2⟩) (fun _=>rfl)).imp fun a h=>⟨h.1,h.2.1,h.2.2⟩
theorem oNext:vP enc W 112 k112 BNext:=
 (vP.struct Tryz.underlying112 (vP.cons rfl oStr (vP.last (by kernel_rfl) (by kernel_rfl) oStr)) (fun p=>⟨p.1,p.2⟩) (fun _=>rfl)).imp fun a h=>⟨h.1,h.2⟩
theorem oItemS:vP enc W 22 (Kd.slice 103 k103) BItemS:=
 (vP.slice Tryz.underlying22 (by kernel_rfl) (of_decide_eq_true (by kernel_rfl)) oItem).imp fun a h=>⟨h.1,h.2⟩
theorem oProfileS:vP enc W 23 (Kd.slice 107 k107) BProfileS:=
 (vP.slice Tryz.underlying23 (by kernel_rfl) (of_decide_eq_true (by kernel_rfl)) oProfile).imp fun a h=>⟨h.1,h.2⟩
theorem oPendingS:vP enc W 24 (Kd.slice 110 k110) BPendingS:=
 (vP.slice Tryz.underlying24 (by kernel_rfl) (of_decide_eq_true (by kernel_rfl)) oPending).imp fun a h=>⟨h.1,h.2⟩
theorem oNextS:vP enc W 25 (Kd.slice 112 k112) BNextS:=
 (vP.slice Tryz.underlying25 (by kernel_rfl) (of_decide_eq_true (by kernel_rfl)) oNext).imp fun a h=>⟨h.1,h.2⟩
end
theorem own:ownKnob Tryz.prog.godebug=none:=by kernel_rfl
theorem laidOut:laidOutB Tryz.prog=true:=by kernel_rfl
def laid:List (String×DataW Unit):=Rows.fnExactRecoverRow.laid
theorem wrap{H:Type}{enc:TypeId×Value→H}{a:Assume}{C:Checked}{os:Os}{f:FuncId}{fn:Func}{s:ChangeSpec}{apart fresh handsOn again:Bool}{X:World→Array Value→Prop}
 (own:ownKnob C.prog.godebug=none) (started:os.Started) (noInit:C.prog.inits.idxOf? f=none) (hfn:C.prog.funcs[f]?=some fn)
 (witness:∃(w:World) (tape:Tape) (i:Input),w.os=os∧(w.forCall tape i).Shaped C.prog∧i.vars=[]∧Input.okWide C.prog (w.forCall tape i) .any w.heap.size f i∧
  ((s.pre enc C.prog fn [] apart (w.forCall tape i).memory i.args∧X (w.forCall tape i).memory i.args)∧sizedMet enc C.prog fn (OpenSpec.ofChange s) apart (w.forCall tape i).memory i.args)∧a.holds C.prog (lone (Frame.enter C.prog f i.args .normal) [] (w.forCall tape i)))
 (contract:∀(W:World) (base:Nat) (args:Array Value) (ds gs:List (DataW H)) (before:List MemPlace),
  (∀(j:Nat) t v,fn.params[j]?=some t→args[j]?=some v→Value.okWide C.prog W .any base t v)→
  DataW.Whole enc C.prog fn.params.toList s.vars apart W args.toList ds gs before→
  (DataW.weightsEach C.prog (fn.params.toList++s.plain.varTypes C.prog) (ds++gs)).all (· ≤reachBytes)=true→
  W.ShapedOpen C.prog→
  Calls C.prog f args W fun e W'=>∃v,e= .returned v∧s.post enc C.prog fn apart fresh handsOn again W args v W'):
 ReturnsInHanded a C os f .any (fun w args=>(s.pre enc C.prog fn [] apart w args∧X w args)∧sizedMet enc C.prog fn (OpenSpec.ofChange s) apart w args) (s.post enc C.prog fn apart fresh handsOn again):=by
 refine returnsInHanded_of_calls own started noInit witness ?_
 intro w tape i _ hsh _ hok hpre _
 obtain⟨_,_,_,fn',hfn',_,_,_,_,hval⟩:=hok
 have e:fn'=fn:=Option.some.inj (hfn'.symm.trans hfn)
 subst e
 obtain⟨⟨⟨ds,gs,before,hw,_⟩,_⟩,hz⟩:=hpre
 have hw':=DataW.Whole.of_heap (w':=w.forCall tape i) (by rfl) hw
 refine(contract (w.forCall tape i) w.heap.size i.args ds gs before hval hw' (hz.weights hw) hsh).mono fun e W' ⟨v,he,hp⟩=>?_
 subst he
 exact ChangeSpec.post_blind hp
set_option maxRecDepth 100000 in
set_option maxHeartbeats 1000000 in
theorem lifted(os:Os)(started:os.Started)(H:Type)(enc:TypeId×Value→H):
 ReturnsInHanded {} Tryz.checked os 6 .any (fun w args=>(Rows.fnExactRecoverSpec.pre enc Tryz.prog Tryz.f6 [] false w args∧laidMetH Tryz.prog laid w)∧sizedMet enc Tryz.prog Tryz.f6 (OpenSpec.ofChange Rows.fnExactRecoverSpec) false w args)
  (Rows.fnExactRecoverSpec.post enc Tryz.prog Tryz.f6 false true false false):=by
 refine wrap (C:=Tryz.checked) (X:=fun w _=>laidMetH Tryz.prog laid w) own started (by kernel_rfl) Tryz.func6
  (ChangeSpec.witness_shaped (enc:=enc) (C:=Tryz.checked) (os:=os) (X:=fun w _=>laidMetH Tryz.prog laid w) false (World.laidAll Tryz.prog os laid) #[.agg #[.slice none 0 0,.slice none 0 0,.slice none 0 0,.slice none 0 0]] 8 (World.laidAll_os _ _ _)
   (World.shaped_of_ZipB (by kernel_rfl) (by kernel_rfl)) (by kernel_rfl) (by kernel_rfl) (by kernel_rfl)
   (by rw[MakeChecks.laidMetH_plain _ _ _ (by kernel_rfl)];exact laidMet_laidAll _ (by kernel_rfl) (by kernel_rfl))) ?_
 intro W base args ds gs before hval0 hW hsz0 hsh
 have hsz:(DataW.weightsEach Tryz.prog (Tryz.f6.params.toList++Rows.fnExactRecoverSpec.plain.varTypes Tryz.prog) (ds++gs)).all (· ≤reachBytes)=true:=hsz0
 have hval:∀(j:Nat) t v,Tryz.f6.params[j]?=some t→args[j]?=some v→Value.okWide Tryz.prog W .any base t v:=hval0
 have hW':=hW
 obtain⟨p,q,hA0,hV,rfl,_,_⟩:=hW
 have hA:DataW.TrodAll enc Tryz.prog W 0 (fun _=>true) true Tryz.f6.params.toList args.toList ds p:=hA0
 rw[Tryz.params6] at hA hval hsz
 obtain⟨v0,d0,rfl,rfl,h0⟩:=trodAll_one hA
 obtain⟨rfl,rfl⟩:=trodVars_none hV
 have h0k:=h0
 have lt0:∀x ∈ p,x.block<W.heap.size:=by obtain⟨m,hm⟩:=h0k;exact DataW.trod_lt m _ _ _ hm
 obtain⟨w0,w1,w2,w3,y0,y1,y2,y3,n,rfl,rfl,rfl,h0a,h0b,h0c,h0d⟩:=Joins.open_agg4 Tryz.underlying27 (by kernel_rfl) (by kernel_rfl) (hval 0 27 v0 rfl rfl) h0
 have hz:∀m ∈ DataW.weightsEach Tryz.prog [22,23,24,25] [y0.1,y1.1,y2.1,y3.1],m≤reachBytes:=fun m hm=>by
  have:=List.all_eq_true.1 hsz m (DataW.weights_mem_each (j:=0) (t:=27) (d:= .agg [y0.1,y1.1,y2.1,y3.1]) rfl rfl m (by simp only[DataW.weights,Tryz.underlying27];exact hm))
  simpa using this
 simp only[DataW.weightsEach,List.mem_append] at hz
 obtain⟨l0,⟨A0,c0,e0,hc0,hr0⟩,b0⟩:=oItemS (enc:=enc) (W:=W) n [w0] y0 h0a (fun m hm=>hz m (.inl hm))
 obtain⟨l1,⟨A1,c1,e1,hc1,hr1⟩,b1⟩:=oProfileS (enc:=enc) (W:=W) n [w1] y1 h0b (fun m hm=>hz m (.inr (.inl hm)))
 obtain⟨l2,⟨A2,c2,e2,hc2,hr2⟩,b2⟩:=oPendingS (enc:=enc) (W:=W) n [w2] y2 h0c (fun m hm=>hz m (.inr (.inr (.inl hm))))
 obtain⟨l3,⟨A3,c3,e3,hc3,hr3⟩,b3⟩:=oNextS (enc:=enc) (W:=W) n [w3] y3 h0d (fun m hm=>hz m (.inr (.inr (.inr (.inl hm)))))
 simp only[List.cons.injEq,and_true] at e0 e1 e2 e3
 subst e0 e1 e2 e3
 obtain⟨m,hm⟩:=cell_of_shapedOpen_int (P:=Tryz.prog) (g:=0) (t:=3) (zero:= #[.int .i64 0]) hsh (of_decide_eq_true (by kernel_rfl)) (by kernel_rfl) rfl (by kernel_rfl) (by kernel_rfl) Tryz.underlying3
 refine(recLaw l0 l1 l2 l3 b0 b1 b2 b3 ⟨hr0,hc0,hr1,hc1,hr2,hc2,hr3,hc3⟩ ⟨m,hm⟩).mono fun e W' ⟨he,bel⟩=>?_
 subst he
 exact⟨_,rfl,_,_,_,[],_,[],hW',trodAll_mk1 (shut_bool Tryz.underlying4 _),trodAll_mk1 (Below.trod laidOut (by kernel_rfl) (of_decide_eq_true (by kernel_rfl)) h0k bel lt0),rfl,bel.frame _,fun h=>by cases h⟩
theorem holds:Rows.fnExactRecoverRow.holds Tryz.pinned (OpenSpec.ofChange Rows.fnExactRecoverSpec):=
 OpenClaim.holds_of_wide 6 Tryz.f6 rfl rfl rfl rfl rfl rfl rfl ⟨rfl,rfl,rfl,rfl,rfl⟩ rfl rfl rfl rfl rfl (by kernel_rfl) Tryz.func6 (by kernel_rfl)
  (of_decide_eq_true (by kernel_rfl)) (by unfold Func.isWrapper;first|(rw[if_pos (by decide+kernel)];kernel_rfl)|(rw[if_neg (by decide+kernel)];exact⟨rfl,rfl⟩))
  (fun os started H enc _=>lifted os started H enc)
theorem card_holds:Rows.FnExactRecoverCardSaid:=
 Claim7.holds_tied_plain_at .later [] [.data,.pinned] true (true,"99afc5a29af5a04db0b6d2a0182420a6ca6179fab8d5add1538c5249fd447804") false holds (fun _ h=>by cases h) (by kernel_rfl) (fun _ h=>by cases h) fnExactRecover_row_tie rfl ⟨rfl,rfl⟩ (by kernel_rfl) rfl
  (fun f fn hf hfn=>by
   obtain rfl:f=6:=Option.some.inj ((show Tryz.prog.funcNamed "loop.example/g00023/laws.FnExactRecover"=some 6 by kernel_rfl).symm.trans hf)|>.symm
   obtain rfl:fn=Tryz.f6:=(Option.some.inj (Tryz.func6.symm.trans hfn)).symm
   exact⟨by kernel_rfl,fun j t ht=>by
    rw[Tryz.params6] at ht
    have hm:t ∈ [27]:=by simpa using Array.mem_of_getElem? ht
    have hall:([27].all fun u=> !Tryz.prog.wantsStandIn u)=true:=by kernel_rfl
    exact(show Tryz.prog.wantsStandIn t=false by simpa using List.all_eq_true.1 hall t hm)⟩)
  (by kernel_rfl)
#print axioms card_holds
end Go.Proofs.YtcekmnclmldmmaaGreatDoor.Law
