import Derived.Test.YtgccknmddhbdgaaGreatDoorE23
import Derived.Test.YtgccknmddhbdgaaGreatDoorE29
import Derived.Test.YtgccknmddhbdgaaGreatDoorE30
namespace Go.Proofs.YtgccknmddhbdgaaGreatDoor.Q
open Go.RowKit W1 W2 W3
namespace P
structure SmallW(a:List LItem)(b:List LProfile)(c:List LPending)(d:List LNext):Prop where
 a:SmallItemS a
 b:SmallProfileS b
 c:SmallPendingS c
 d:SmallNextS d
theorem szWorld_ok(a:List LItem)(b:List LProfile)(c:List LPending)(d:List LNext)(ha:BItemS a)(hb:BProfileS b)(hc:BPendingS c)(hd:BNextS d):Sz (fun k=>laws_szWorld.f k a b c d 1048576) 1048576 (SmallW a b c d):=by
 refine Sz.sub (G:=fun l k=>(laws_szProfileS.f k b l).bind fun t=>if t<0 then some (-1) else((laws_szPendingS.f k c t).bind fun t=>if t<0 then some (-1) else((laws_szNextS.f k d t).bind fun t=>if t<0 then some (-1) else some t))) (szItemS_ok a ha 1048576 yd_ yd_) (fun k=>rfl) fun l a0 b0 c0=>?_;refine Sz.sub (G:=fun l k=>(laws_szPendingS.f k c l).bind fun t=>if t<0 then some (-1) else((laws_szNextS.f k d t).bind fun t=>if t<0 then some (-1) else some t)) (szProfileS_ok b hb l a0 yo_) (fun k=>rfl) fun l1 a1 b1 c1=>?_;refine Sz.sub (G:=fun l k=>(laws_szNextS.f k d l).bind fun t=>if t<0 then some (-1) else some t) (szPendingS_ok c hc l1 a1 yo_) (fun k=>rfl) fun l2 a2 b2 c2=>?_;refine Sz.sub (G:=fun l k=>some l) (szNextS_ok d hd l2 a2 yo_) (fun k=>rfl) fun l3 a3 b3 c3=>?_;exact Sz.yes a3 (Int.le_refl _) ⟨c0,c1,c2,c3⟩
theorem tree_small(t:List LEntry)(h:SmallEntryS t):tSmall (t.map cpEntry):=by
 intro e he;obtain⟨y,hy,rfl⟩:=List.mem_map.1 he;exact⟨(h.all y hy).f0,(h.all y hy).f2⟩
section
variable {a : List LItem} {b : List LProfile} {c : List LPending} {d : List LNext}
theorem toWorld_ok(H:SmallW a b c d):Ev (fun k=>laws_toWorld.f k a b c d) (a.map cpItem,b.map cpProfile,c.map cpPending,d.map cpNext):=by
 unfold laws_toWorld.f;exact Ev.bind (toItemS_ok a H.a) (Ev.bind (toProfileS_ok b H.b) (Ev.bind (toPendingS_ok c H.c) (Ev.bind (toNextS_ok d H.d) (Ev.now _))))
theorem eqWorld_ok(H:SmallW a b c d):Ev (fun k=>laws_eqWorld.f k (a.map cpItem) (b.map cpProfile) (c.map cpPending) (d.map cpNext) (a.map cpItem) (b.map cpProfile) (c.map cpPending) (d.map cpNext)) true:=by
 unfold laws_eqWorld.f;refine Ev.bind (eqItemS_ok _ (by simpa using H.a.len) (fun x hx=>by obtain⟨y,hy,rfl⟩:=List.mem_map.1 hx;exact fitItem y (H.a.all y hy))) ?_;simp only[if_true];refine Ev.bind (eqProfileS_ok _ (by simpa using H.b.len) (fun x hx=>by obtain⟨y,hy,rfl⟩:=List.mem_map.1 hx;exact fitProfile y (H.b.all y hy))) ?_;simp only[if_true];refine Ev.bind (eqPendingS_ok _ (by simpa using H.c.len) (fun x hx=>by obtain⟨y,hy,rfl⟩:=List.mem_map.1 hx;exact fitPending y (H.c.all y hy))) ?_;simp only[if_true];refine Ev.bind (eqNextS_ok _ (by simpa using H.d.len) (fun x hx=>by obtain⟨y,hy,rfl⟩:=List.mem_map.1 hx;exact fitNext y (H.d.all y hy))) ?_;simp only[if_true];exact Ev.now _
theorem sized(H:SmallW a b c d):Sized (a.map cpItem) (b.map cpProfile) (c.map cpPending) (d.map cpNext) where
 sts:=fun x hx=>by
  obtain⟨y,hy,rfl⟩:=List.mem_map.1 hx;exact⟨tree_small y.f4 (H.a.all y hy).f4,(H.a.all y hy).f2.len⟩
 stl:=by simpa using H.a.len
 psl:=by simpa using H.b.len
 gs:=fun x hx=>by
  obtain⟨y,hy,rfl⟩:=List.mem_map.1 hx;simpa[cpProfile] using(H.b.all y hy).f2.len
 qs:=fun x hx=>by
  obtain⟨y,hy,rfl⟩:=List.mem_map.1 hx;exact tree_small y.f1 (H.c.all y hy).f1
end
section
variable {a : List LItem} {b : List LProfile} {c : List LPending} {d : List LNext}
theorem few15(H:SmallW a b c d):1+Mk.tot (Mk.sItemS (Nd.i2 (a.map cpItem)) (Nd.i4 (a.map cpItem))) (a.map cpItem).length+Mk.tot (Mk.sProfileS (Nd.p2 (b.map cpProfile))) (b.map cpProfile).length+Mk.tot (Mk.sPendingS (Nd.q1 (c.map cpPending))) (c.map cpPending).length+Mk.tot Mk.sNextS (d.map cpNext).length<=1000000000000000:=by
 have one:∀n,Mk.tot Mk.sStringS n<=n*1:=Mk.tot_mul (fun i=>by unfold Mk.sStringS;omega);have four:∀n,Mk.tot Mk.sEntryS n<=n*4:=Mk.tot_mul (fun i=>by unfold Mk.sEntryS;omega);have two:∀n,Mk.tot Mk.sGenS n<=n*2:=Mk.tot_mul (fun i=>by unfold Mk.sGenS;omega);have l2:∀i,Nd.i2 (a.map cpItem) i<=1048576:=fun i=>by
  unfold Nd.i2;rw[List.getD_eq_getElem?_getD,List.getElem?_map];cases h:a[i]? with
  |none=>exact Nat.zero_le _
  |some y=>exact(H.a.all y (List.mem_of_getElem? h)).f2.len
 have l4:∀i,Nd.i4 (a.map cpItem) i<=1048576:=fun i=>by
  unfold Nd.i4;rw[List.getD_eq_getElem?_getD,List.getElem?_map];cases h:a[i]? with
  |none=>exact Nat.zero_le _
  |some y=>simpa[cpItem] using(H.a.all y (List.mem_of_getElem? h)).f4.len
 have lp:∀i,Nd.p2 (b.map cpProfile) i<=1048576:=fun i=>by
  unfold Nd.p2;rw[List.getD_eq_getElem?_getD,List.getElem?_map];cases h:b[i]? with
  |none=>exact Nat.zero_le _
  |some y=>simpa[cpProfile] using(H.b.all y (List.mem_of_getElem? h)).f2.len
 have lq:∀i,Nd.q1 (c.map cpPending) i<=1048576:=fun i=>by
  unfold Nd.q1;rw[List.getD_eq_getElem?_getD,List.getElem?_map];cases h:c[i]? with
  |none=>exact Nat.zero_le _
  |some y=>simpa[cpPending] using(H.c.all y (List.mem_of_getElem? h)).f1.len
 have t0:=Mk.tot_mul (f:=Mk.sItemS (Nd.i2 (a.map cpItem)) (Nd.i4 (a.map cpItem))) (B:=10000000) (fun i=>by unfold Mk.sItemS;have:=one (Nd.i2 (a.map cpItem) i);have:=four (Nd.i4 (a.map cpItem) i);have:=l2 i;have:=l4 i;omega) (a.map cpItem).length;have t1:=Mk.tot_mul (f:=Mk.sProfileS (Nd.p2 (b.map cpProfile))) (B:=10000000) (fun i=>by unfold Mk.sProfileS;have:=two (Nd.p2 (b.map cpProfile) i);have:=lp i;omega) (b.map cpProfile).length;have t2:=Mk.tot_mul (f:=Mk.sPendingS (Nd.q1 (c.map cpPending))) (B:=10000000) (fun i=>by unfold Mk.sPendingS;have:=four (Nd.q1 (c.map cpPending) i);have:=lq i;omega) (c.map cpPending).length;have t3:=Mk.tot_mul (f:=Mk.sNextS) (B:=2) (fun i=>by unfold Mk.sNextS;omega) (d.map cpNext).length;have e0:(a.map cpItem).length<=1048576:=by simpa using H.a.len
 have e1:(b.map cpProfile).length<=1048576:=by simpa using H.b.len
 have e2:(c.map cpPending).length<=1048576:=by simpa using H.c.len
 have e3:(d.map cpNext).length<=1048576:=by simpa using H.d.len
 omega
end
end P
end Go.Proofs.YtgccknmddhbdgaaGreatDoor.Q
