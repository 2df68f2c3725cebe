import Derived.Test.YtgccknmddhbdgaaGreatDoorE28
namespace Go.Proofs.YtgccknmddhbdgaaGreatDoor.Q
open Go.RowKit W1 W2 W3
attribute [local go_sem] max2_int min2_int max_two min_two max_three min_three max_four min_four
attribute [local go_sem high] bl_leq bl_gtr bl_geq
set_option maxHeartbeats 8000000
set_option maxRecDepth 100000
namespace Mk
def Kin(u u':Value):Prop:=u'=u\/(∃a b,u= .string a/\u'= .string b)\/(∃k a b,u= .int k a/\u'= .int k b)\/∃a b,u= .bool a/\u'= .bool b
theorem Kin.trans{a b c:Value}(h:Kin a b)(k:Kin b c):Kin a c:=by
 rcases h with rfl|⟨x,y,rfl,rfl⟩|⟨q,x,y,rfl,rfl⟩|⟨x,y,rfl,rfl⟩
 ·exact k
 all_goals rcases k with rfl|⟨x',y',e,rfl⟩|⟨q',x',y',e,rfl⟩|⟨x',y',e,rfl⟩
 all_goals first|cases e|skip
 all_goals simp[Kin]
structure Like(P:Nat->Prop)(w w':World):Prop where
 os:w'.os=w.os
 tape:w'.tape=w.tape
 output:w'.output=w.output
 size:w.heap.size<=w'.heap.size
 kept:∀k:Nat,k<w.heap.size->¬P k->w'.heap[k]?=w.heap[k]?
 cells:∀(k:Nat) (cs:Array Value) (t:TypeId),w.heap[k]?=some (.cells cs t (0,0))->∃cs':Array Value,w'.heap[k]?=some (.cells cs' t (0,0))/\cs'.size=cs.size/\∀(j:Nat) (u:Value),cs[j]?=some u->∃u':Value,cs'[j]?=some u'/\Kin u u'
theorem Like.refl(P:Nat->Prop)(w:World):Like P w w:=⟨rfl,rfl,rfl,Nat.le_refl _,fun _ _ _=>rfl,fun k cs t h=>⟨cs,h,rfl,fun j u hu=>⟨u,hu,.inl rfl⟩⟩⟩
theorem Like.trans{P:Nat->Prop}{a b c:World}(h:Like P a b)(k:Like P b c):Like P a c:=
 ⟨k.os.trans h.os,k.tape.trans h.tape,k.output.trans h.output,Nat.le_trans h.size k.size,fun i hi hn=>(k.kept i (Nat.lt_of_lt_of_le hi h.size) hn).trans (h.kept i hi hn),fun i cs t hc=>by
  obtain⟨aa,h1,s1,e1⟩:=h.cells i cs t hc;obtain⟨ab,h2,s2,e2⟩:=k.cells i aa t h1;refine⟨ab,h2,s2.trans s1,fun j u hu=>?_⟩;obtain⟨u1,ac,k1⟩:=e1 j u hu;obtain⟨u2,ad,k2⟩:=e2 j u1 ac;exact⟨u2,ad,k1.trans k2⟩⟩
theorem Like.below{P:Nat->Prop}{w w':World}(h:Below w.heap.size w w'):Like P w w':=
 ⟨h.os,h.tape,h.output,h.size,fun k hk _=>h.block k hk,fun k cs t hc=>⟨cs,(h.block k (by rcases Nat.lt_or_ge k w.heap.size with q|q;exact q;rw[Array.getElem?_eq_none q] at hc;cases hc)).trans hc,rfl,fun j u hu=>⟨u,hu,.inl rfl⟩⟩⟩
theorem Like.to_kept{P:Nat->Prop}{w w':World}(h:Like P w w'):Kept w w' P:=⟨h.size,h.kept⟩
theorem Like.to_below{P:Nat->Prop}{B:Nat}{a w w':World}(h:Below B a w)(hs:B<=w.heap.size)(hl:Like P w w')(hP:∀k,P k->B<=k):Below B a w':=
 h.trans ⟨hl.os,hl.tape,hl.output,hl.size,fun k hk=>hl.kept k (Nat.lt_of_lt_of_le hk hs) (fun hp=>by have:=hP k hp;omega)⟩
theorem set_cells{g j:Nat}{w:World}{cs:Array Value}{t:TypeId}{fr:Nat×Nat}(u:Value)(hh:w.heap[g]?=some (.cells cs t fr)):(w.setCell ⟨g,j,none⟩ u).heap[g]?=some (.cells (cs.setIfInBounds j u) t fr):=by
 simp[World.setCell,Array.getElem?_modify,hh]
theorem Like.set{P:Nat->Prop}{g j:Nat}{w:World}{cs:Array Value}{t:TypeId}{u0 u:Value}(hP:P g)(hh:w.heap[g]?=some (.cells cs t (0,0)))(h0:cs[j]?=some u0)(hk:Kin u0 u):Like P w (w.setCell ⟨g,j,none⟩ u):=by
 refine⟨rfl,rfl,rfl,by simp[World.setCell],fun k hk hn=>Below.heap_setCell w _ u k (fun e=>hn (by rw[e];exact hP)),fun k c1 t1 hc=>?_⟩;by_cases e:k=g
 ·subst e;rw[hh] at hc;cases hc;refine⟨_,set_cells u hh,by simp,fun i v hv=>?_⟩;by_cases e:i=j
  ·subst e;rw[h0] at hv;cases hv;exact⟨u,by rw[Array.getElem?_setIfInBounds_self_of_lt];exact(Array.getElem?_eq_some_iff.1 h0).1,hk⟩
  ·exact⟨v,by rw[Array.getElem?_setIfInBounds_ne (Ne.symm e)];exact hv,.inl rfl⟩
 ·exact⟨c1,(Below.heap_setCell w _ u k e).trans hc,rfl,fun i v hv=>⟨v,hv,.inl rfl⟩⟩
structure Fd where
 p:World->Nat->Value->Prop
 mono:∀{P w w' i u u'},Like P w w'->Kin u u'->p w i u->p w' i u'
def Row(P:Nat->Prop)(fs:List Fd)(n:Nat)(w:World)(v:Value):Prop:=∃A c,v= .slice A n c/\n<=c/\(0<n->∃(g:Nat) (cs:Array Value) (t:TypeId),A=some ⟨g,0,none⟩/\P g/\w.heap[g]?=some (.cells cs t (0,0))/\
 ∀i,i<n->∀j f,fs[j]?=some f->∃u,cs[i*fs.length+j]?=some u/\f.p w i u)
theorem Row.like{P Q:Nat->Prop}{fs:List Fd}{n:Nat}{w w':World}{v:Value}(hl:Like Q w w')(h:Row P fs n w v):Row P fs n w' v:=by
 obtain⟨A,c,e,hc,h⟩:=h;refine⟨A,c,e,hc,fun h0=>?_⟩;obtain⟨g,cs,t,e,hP,hh,hf⟩:=h h0;obtain⟨cs',hh',_,hk⟩:=hl.cells g cs t hh;refine⟨g,cs',t,e,hP,hh',fun i hi j f hj=>?_⟩;obtain⟨u,hu,hp⟩:=hf i hi j f hj;obtain⟨u',hu',k⟩:=hk _ u hu;exact⟨u',hu',f.mono hl k hp⟩
def str:Fd:=⟨fun _ _ u=>∃s,u=Value.string s,by
 rintro P w w' i u u' _ k ⟨s,rfl⟩;rcases k with rfl|⟨x,y,e,rfl⟩|⟨q,x,y,e,rfl⟩|⟨x,y,e,rfl⟩
 ·exact⟨s,rfl⟩
 ·exact⟨y,rfl⟩
 all_goals cases e⟩
def num(q:IntKind):Fd:=⟨fun _ _ u=>∃s,u=Value.int q s,by
 rintro P w w' i u u' _ k ⟨s,rfl⟩;rcases k with rfl|⟨x,y,e,rfl⟩|⟨q,x,y,e,rfl⟩|⟨x,y,e,rfl⟩
 ·exact⟨s,rfl⟩
 ·cases e
 ·cases e;exact⟨y,rfl⟩
 ·cases e⟩
def bit:Fd:=⟨fun _ _ u=>∃s,u=Value.bool s,by
 rintro P w w' i u u' _ k ⟨s,rfl⟩;rcases k with rfl|⟨x,y,e,rfl⟩|⟨q,x,y,e,rfl⟩|⟨x,y,e,rfl⟩
 ·exact⟨s,rfl⟩
 ·cases e
 ·cases e
 ·exact⟨y,rfl⟩⟩
def row(P:Nat->Prop)(fs:List Fd)(len:Nat->Nat):Fd:=⟨fun w i u=>Row P fs (len i) w u,by
 rintro Q w w' i u u' hl k h;have e:u'=u:=by
  obtain⟨A,c,rfl,_⟩:=h;rcases k with rfl|⟨x,y,e,rfl⟩|⟨q,x,y,e,rfl⟩|⟨x,y,e,rfl⟩
  ·rfl
  all_goals cases e
 rw[e];exact h.like hl⟩
def tot(f:Nat->Nat):Nat->Nat|0=>0|n+1=>tot f n+f n
theorem tot_le(f:Nat->Nat){a b:Nat}(h:a<=b):tot f a<=tot f b:=by
 induction b with
 |zero=>rw[Nat.le_zero.1 h];exact Nat.le_refl _
 |succ b ih=>
  rcases Nat.lt_or_ge a (b+1) with q|q
  ·exact Nat.le_trans (ih yo_) (Nat.le_add_right _ _)
  ·rw[Nat.le_antisymm h q];exact Nat.le_refl _
theorem Row.cell{P:Nat->Prop}{fs:List Fd}{n c:Nat}{A:Option Addr}{w:World}(h:Row P fs n w (.slice A n c))(i j:Nat)(f:Fd)(hi:i<n)(hj:fs[j]?=some f):
 ∃g u,A=some ⟨g,0,none⟩/\w.cell? ⟨g,i*fs.length+j,none⟩=some u/\f.p w i u/\w.frozen? ⟨g,i*fs.length+j,none⟩=false/\∀u',Kin u u'->Like P w (w.setCell ⟨g,i*fs.length+j,none⟩ u'):=by
 obtain⟨A',c',e,hc,h⟩:=h;cases e;obtain⟨g,cs,t,e,hP,hh,hf⟩:=h yo_;obtain⟨u,hu,hp⟩:=hf i hi j f hj;refine⟨g,u,e,?_,hp,?_,fun u' hk=>Like.set hP hh hu hk⟩
 ·rw[cell_of_row w g _ cs t (0,0) hh];exact hu
 ·exact blk_frozen hh _
end Mk
def laws_markText.l0:Nat->Int->ByteArray->Option (ByteArray)
 |0,_,_=>none
 |k+1,x0,x3=>if x0>0 then((some (([(wrap64 (48+(Int.tmod x0 10))) % 256]:List Int):List Int)).bind fun aa=>(if(strOfNums aa).size+x3.size<=9223372036854775807 then(laws_markText.l0 k (wrap64 (Int.tdiv x0 10)) ((strOfNums aa)++x3)) else(none))) else(if 1+x3.size<=9223372036854775807 then(some ((⟨#[109]⟩:ByteArray)++x3)) else(none))
def laws_markText.f(k:Nat)(a0:Int):Option (ByteArray):=if a0<=0 then(some (⟨#[109,48]⟩:ByteArray)) else(laws_markText.l0 k a0 (⟨#[]⟩:ByteArray))
theorem laws_markText.calls(k:Nat)(a0:Int)(r:ByteArray)(w:World)(H:laws_markText.f k a0=some r):
 Calls Tryz.prog 40 #[.int .i64 a0] w fun e w'=>e= .returned (.string r)/\Below w.heap.size w w':=by
 have HB:=yB w;unfold laws_markText.f at H;refine yD H ?_ ?_<;>clear H<;>intro ai H
 ·obtain rfl:=zi H;go_enter Tryz.func40,Tryz.ntmps40;go_wp2;go_ret;exact⟨ze,zb⟩
 have H':=zz H;clear H;go_enter Tryz.func40,Tryz.ntmps40;go_wp2;go_loopg[0,3] k (fun kq v0 v3 w'=>∃(aa:Int) (ab:ByteArray),v0= .int .i64 aa/\v3= .string ab/\qB (laws_markText.l0 kq aa ab=some r)/\qB (kq<=k)/\qB (Below w.heap.size w w'))
 case atStart=>exact⟨(a0),((⟨#[]⟩:ByteArray)),zr,zr,H',⟨Nat.le_refl _⟩,⟨zb⟩⟩
 case round=>
  clear H';try clear ai
  obtain⟨aa,ab,rfl,rfl,HA,ah,HB⟩:=hrel;cases gk with
  |zero=>exact absurd HA.out (by simp[laws_markText.l0])
  |succ k1=>
   have H:=HA.out;clear HA;simp only[laws_markText.l0] at H;refine yGn H ?_ ?_<;>clear H<;>intro aj H
   ·replace H:=yA H;obtain⟨c8,H⟩:=H;have ak:=eq_true c8;have al:=z1 c8;try have am:(9223372036854775807<1+ab.size)=False:=eq_false (Nat.not_lt.2 c8)
    obtain rfl:=zi H;go_wp2;go_ret;exact⟨ze,zb⟩
   obtain⟨ac,ad⟩:∃y_:List Int,y_=(([(wrap64 (48+(Int.tmod aa 10))) % 256]:List Int)):=⟨_,rfl⟩
   replace H:(if(strOfNums ac).size+ab.size<=9223372036854775807 then(laws_markText.l0 k1 (wrap64 (Int.tdiv aa 10)) ((strOfNums ac)++ab)) else(none))=some r:=yN0 ad H;have af:=zz ad;clear ad;replace H:=yA H;obtain⟨c4,H⟩:=H;have an:=eq_true c4;have ao:=z1 c4;try have ap:(9223372036854775807<(strOfNums ac).size+ab.size)=False:=eq_false (Nat.not_lt.2 c4)
   have H':=zz H;clear H;go_wp2_with(first|(refine zN 12 ?_;refine Kd.R_lit (Kd.int .u8) _ 5 ?hg (N:=12) ?hd (xs:=([(wrap64 (48+(Int.tmod aa 10))) % 256]:List Int)) (inner:=[.int .u8 ((wrap64 (48+(Int.tmod aa 10))) % 256)]) (ok:=fun _=>True) (okp:=fun _=>True) ?hr ?hp (fun _ hk=>hk) trivial (Below.refl _ _) (Nat.le_refl _) (by simp) ?_;(case hd=>rfl);(case hg=>rfl);(case hr=>first|(go_simp;done)|(go_simp;rfl));(case hp=>exact(Reps.one (show Kd.M (Kd.int .u8) _ _ _ ((wrap64 (48+(Int.tmod aa 10))) % 256) [.int .u8 ((wrap64 (48+(Int.tmod aa 10))) % 256)] from rfl) (Reps.none _ _)));intro ar w5 ae hb hg_ hnew_;clear hg_ hnew_;(first|rw[<-af.out] at ae|(simp only[Int.reduceToNat] at ae;rw[<-af.out] at ae));have ag:=zz (Kd.qU ae (qE zb));replace HB:=zz (zv zb hb);clear hb ae;have au:=own_string (P:=Tryz.prog) Tryz.underlying118 Tryz.underlying5 Tryz.underlying9 (Kd.own_of_R ag.out)))
   go_roundg k1
   case measure=>exact yM1 ah
   case rel=>exact⟨(wrap64 (Int.tdiv aa 10)),((strOfNums ac)++ab),zr,zr,H',⟨yM1 ah⟩,⟨zb⟩⟩
theorem Mk.w1{K:Int}(h0:0<=K)(h1:K<=4611686018427387904):wrap64 (K+1)=K+1:=by simp[wrap64,IntKind.wrap];omega
theorem Mk.textEv:∀(n:Nat) (x:ByteArray),x.size+n<=4611686018427387904->∃s,Ev (fun k=>laws_markText.l0 k (n:Int) x) s:=by
 intro n;induction n using Nat.strongRecOn with
 |ind n ih=>
  intro x hx;by_cases h:(n:Int)>0
  ·have e:wrap64 (Int.tdiv (n:Int) 10)=((n / 10:Nat):Int):=by
    rw[Int.tdiv_eq_ediv_of_nonneg yo_];simp[wrap64,IntKind.wrap];omega
   have hz:(strOfNums [(wrap64 (48+(Int.tmod (n:Int) 10))) % 256]).size=1:=rfl;obtain⟨s,hs⟩:=ih (n / 10) yo_ (strOfNums [(wrap64 (48+(Int.tmod (n:Int) 10))) % 256]++x) (by rw[ByteArray.size_append,hz];omega);refine⟨s,Ev.step (fun k=>by rw[laws_markText.l0]) ?_⟩;simp only[if_pos h,Option.bind_some];refine Ev.congr (fun k=>if_pos (by rw[hz];omega)) ?_;simp only[e];exact hs
  ·refine⟨(⟨#[109]⟩:ByteArray)++x,Ev.step (fun k=>by rw[laws_markText.l0]) ?_⟩;simp only[if_neg h,if_pos (show 1+x.size<=9223372036854775807 by omega)];exact Ev.now _
theorem Mk.text(a:Int)(h:a<=4611686018427387904):∃k s,laws_markText.f k a=some s:=by
 unfold laws_markText.f;by_cases h0:a<=0
 ·exact⟨0,_,if_pos h0⟩
 ·obtain⟨s,hs⟩:=Mk.textEv a.toNat ⟨#[]⟩ (by show 0+a.toNat<=_;omega);obtain⟨k,hk⟩:=hs.rounds;refine⟨k,s,?_⟩;rw[if_neg h0];rw[show((a.toNat:Nat):Int)=a by omega] at hk;exact hk
section
variable {P : Nat -> Prop} {fs : List Mk.Fd} {n c : Nat} {A : Option Addr} {w a : World} {g : Nat}
theorem Mk.Row.head(h:Mk.Row P fs n w (.slice A n c))(hn:0<n):∃g,A=some ⟨g,0,none⟩:=by
 obtain⟨A',c',e,hc,h⟩:=h;cases e;obtain⟨g,cs,t,e,_⟩:=h hn;exact⟨g,e⟩
theorem Mk.Row.at(h:Mk.Row P fs n w (.slice (some ⟨g,0,none⟩) n c))(i j:Nat)(f:Mk.Fd)(hi:i<n)(hj:fs[j]?=some f):
 ∃u,w.cell? ⟨g,i*fs.length+j,none⟩=some u/\f.p w i u/\w.frozen? ⟨g,i*fs.length+j,none⟩=false/\∀u',Mk.Kin u u'->Mk.Like P w (w.setCell ⟨g,i*fs.length+j,none⟩ u'):=by
 obtain⟨g',u,e,h1,h2,h3,h4⟩:=Mk.Row.cell h i j f hi hj;cases e;exact⟨u,h1,h2,h3,h4⟩
theorem Mk.Row.at1{f:Mk.Fd}(h:Mk.Row P [f] n w (.slice (some ⟨g,0,none⟩) n c))(i:Nat)(hi:i<n):
 ∃u,w.cell? ⟨g,i,none⟩=some u/\f.p w i u/\w.frozen? ⟨g,i,none⟩=false/\∀u',Mk.Kin u u'->Mk.Like P w (w.setCell ⟨g,i,none⟩ u'):=by
 have:=Mk.Row.at h i 0 f hi rfl;rw[show[f].length=1 from rfl,Nat.mul_one,Nat.add_zero] at this;exact this
theorem Mk.Like.alloc(h:Mk.Like P a w)(x:Obj):Mk.Like P a (w.alloc x):=h.trans (.below (qS (Below.refl _ _) x))
theorem Mk.Like.drewN(h:Mk.Like P a w)(m:Nat):Mk.Like P a (w.drewN m):=h.trans (.below (qQ (Below.refl _ _) m))
theorem Mk.Like.drew(h:Mk.Like P a w):Mk.Like P a w.drew:=h.trans (.below (below_drew (Below.refl _ _)))
theorem Mk.str_str(x y:ByteArray):Mk.Kin (.string x) (.string y):= .inr (.inl ⟨x,y,rfl,rfl⟩)
theorem Mk.int_int(q:IntKind)(x y:Int):Mk.Kin (.int q x) (.int q y):= .inr (.inr (.inl ⟨q,x,y,rfl,rfl⟩))
theorem Mk.bool_bool(x y:Bool):Mk.Kin (.bool x) (.bool y):= .inr (.inr (.inr ⟨x,y,rfl,rfl⟩))
end
theorem Mk.zl{P Q:Prop}(q:Q)(f:Q->P:=by intro q;(with_reducible repeat(first|apply Mk.Like.alloc|apply Mk.Like.drewN|apply Mk.Like.drew));exact q):P:=f q
theorem Mk.tot_ge{f:Nat->Nat}(h:∀i,1<=f i):∀n,n<=Mk.tot f n
 |0=>Nat.le_refl _
 |n+1=>Nat.add_le_add (Mk.tot_ge h n) (h n)
theorem Mk.step{sz:Nat->Nat}{k K r x:Int}{n m:Nat}(hx:0<=x/\x.toNat+(m+1)=n/\K=k+Mk.tot sz x.toNat)(hn:0<=k/\r=k+Mk.tot sz n/\r<=4611686018427387904):0<=K/\K+sz x.toNat<=4611686018427387904/\Mk.tot sz (x.toNat+1)=Mk.tot sz x.toNat+sz x.toNat/\x<4611686018427387904\/4611686018427387904<=x:=by
 have:=Mk.tot_le sz (show x.toNat+1<=n by omega);have e:Mk.tot sz (x.toNat+1)=Mk.tot sz x.toNat+sz x.toNat:=rfl;rw[e] at this;by_cases h:x<4611686018427387904
 ·exact .inl ⟨by omega,by omega,e,h⟩
 ·exact .inr yo_
def Mk.fStringS(P:Nat->Prop):List Mk.Fd:=[Mk.str]
def Mk.sStringS(i:Nat):Nat:=1
def Mk.fEntryS(P:Nat->Prop):List Mk.Fd:=[Mk.str,Mk.num .i64,Mk.str,Mk.bit]
def Mk.sEntryS(i:Nat):Nat:=4
def Mk.fGenS(P:Nat->Prop):List Mk.Fd:=[Mk.num .i64,Mk.str]
def Mk.sGenS(i:Nat):Nat:=2
def Mk.fNextS(P:Nat->Prop):List Mk.Fd:=[Mk.str,Mk.str]
def Mk.sNextS(i:Nat):Nat:=2
def Mk.fItemS(P:Nat->Prop)(l2:Nat->Nat)(l4:Nat->Nat):List Mk.Fd:=[Mk.str,Mk.str,Mk.row P (Mk.fStringS P) l2,Mk.str,Mk.row P (Mk.fEntryS P) l4]
def Mk.sItemS(l2:Nat->Nat)(l4:Nat->Nat)(i:Nat):Nat:=3+Mk.tot Mk.sStringS (l2 i)+Mk.tot Mk.sEntryS (l4 i)
def Mk.fProfileS(P:Nat->Prop)(l2:Nat->Nat):List Mk.Fd:=[Mk.str,Mk.num .i64,Mk.row P (Mk.fGenS P) l2]
def Mk.sProfileS(l2:Nat->Nat)(i:Nat):Nat:=2+Mk.tot Mk.sGenS (l2 i)
def Mk.fPendingS(P:Nat->Prop)(l1:Nat->Nat):List Mk.Fd:=[Mk.str,Mk.row P (Mk.fEntryS P) l1,Mk.str]
def Mk.sPendingS(l1:Nat->Nat)(i:Nat):Nat:=2+Mk.tot Mk.sEntryS (l1 i)
theorem Mk.StringS{P:Nat->Prop}{n:Nat}{v:Value}{k r:Int}{w:World}(hR:Mk.Row P (Mk.fStringS P) n w v)(h0:0<=k)(hr:r=k+Mk.tot (Mk.sStringS) n)(hb:r<=4611686018427387904):
 Calls Tryz.prog 14 #[v,.int .i64 k] w fun e w'=>e= .returned (.int .i64 r)/\Mk.Like P w w':=by
 obtain⟨A,c,rfl,hc,hx⟩:=id hR;clear hx;have HR:=zz hR;have HN:=zz (And.intro h0 (And.intro hr hb));have HS:=zz (show n<=4611686018427387904 from Nat.le_trans (Mk.tot_ge (fun i=>by show 1<=Mk.sStringS i;unfold Mk.sStringS;omega) n) yo_);clear hR h0 hr hb hc;go_enter Tryz.func14,Tryz.ntmps14;go_wp2;go_loopg[1,5] n (fun kq v1 v5 w'=>∃(K x:Int),v1= .int .i64 K/\v5= .int .i64 x/\qB (0<=x/\x.toNat+kq=n/\K=k+Mk.tot (Mk.sStringS) x.toNat)/\qB (Mk.Like P w w'))
 case atStart=>exact⟨k,0,rfl,rfl,⟨⟨by omega,by simp,by simp[Mk.tot]⟩⟩,⟨Mk.zl (Mk.Like.refl P w)⟩⟩
 case round=>
  obtain⟨K,x,rfl,rfl,HX,HL⟩:=hrel;by_cases c3:x<(n:Int)
  case neg=>
   obtain rfl:K=r:=by
    have h1:=HX.out;have h2:=HN.out;have e:x.toNat=n:=by omega
    rw[e] at h1;rw[h1.2.2,h2.2.1]
   have ad:=z0 c3;clear c3;go_wp2;go_ret;exact⟨rfl,Mk.zl HL.out⟩
  cases gk with
  |zero=>exact absurd HX.out (by intro h;omega)
  |succ k1=>
   have HF:=zz ((Mk.step HX.out HN.out).resolve_right (by have:=HS.out;omega));have HZ:=zz (show Mk.sStringS x.toNat=1 from rfl);have ad:=z1 c3;have HC:=zz (show x.toNat<n from by have:=HX.out.1;omega);have p0:(0<=x)=True:=eq_true HX.out.1;have q0:(x<(n:Int))=True:=eq_true c3;clear c3;obtain⟨g,rfl⟩:=Mk.Row.head (HR.out.like HL.out) (Nat.lt_of_le_of_lt (Nat.zero_le _) HC.out);obtain⟨f0,t0,T0⟩:=Mk.text K (by have h1:=HF.out;have h5:=HZ.out;omega);replace T0:=zz T0;have ae:=zz (show(wrap64 (K+1))=K+1 from Mk.w1 (by have h1:=HF.out;omega) (by have h1:=HF.out;have h5:=HZ.out;omega));have HXW:=zz (Mk.w1 HX.out.1 (by have:=HF.out;omega));go_wp2_with(first|(refine zL 40 15 Tryz.func40 #[.int .i64 K] ?_;(with_reducible refine(laws_markText.calls f0 K t0 _ T0.out).mono ?_);rintro e w1 ⟨rfl,hb⟩;refine⟨_,rfl,?_⟩;replace HL:=zz (Mk.Like.trans (Mk.zl HL.out) (Mk.Like.below hb));clear hb;obtain⟨u0,ab,af,ac,aa⟩:=Mk.Row.at1 (HR.out.like HL.out) x.toNat HC.out;obtain⟨s0,rfl⟩:=af;replace aa:=zz aa;replace ab:w1.cell? ⟨g,x.toNat,none⟩=some (.string s0):=ab;replace ac:w1.frozen? ⟨g,x.toNat,none⟩=false:=ac)|((with_reducible refine qR (t:=9) (p:=16) rfl ?_);refine ye 9 16 (w1.setCell ⟨g,x.toNat,none⟩ (.string t0)) ?_;intro w2 hw;replace HL:=zz (show Mk.Like P w w2 from Mk.Like.trans HL.out (by rw[hw];exact aa.out _ (Mk.str_str _ _)));clear hw ab ac aa))
   go_roundg k1
   case measure=>omega
   case rel=>exact⟨(wrap64 (K+1)),wrap64 (x+1),(by rfl),rfl,⟨⟨by have:=HXW.out;have:=HX.out;omega,by have:=HXW.out;have:=HX.out;omega,by have h1:=HXW.out;have h2:=HX.out;have h5:=HZ.out;have:=ae.out;have h3:=HF.out;rw[show(wrap64 (x+1)).toNat=x.toNat+1 by omega];omega⟩⟩,⟨Mk.zl HL.out⟩⟩
theorem Mk.EntryS{P:Nat->Prop}{n:Nat}{v:Value}{k r:Int}{w:World}(hR:Mk.Row P (Mk.fEntryS P) n w v)(h0:0<=k)(hr:r=k+Mk.tot (Mk.sEntryS) n)(hb:r<=4611686018427387904):
 Calls Tryz.prog 15 #[v,.int .i64 k] w fun e w'=>e= .returned (.int .i64 r)/\Mk.Like P w w':=by
 obtain⟨A,c,rfl,hc,hx⟩:=id hR;clear hx;have HR:=zz hR;have HN:=zz (And.intro h0 (And.intro hr hb));have HS:=zz (show n<=4611686018427387904 from Nat.le_trans (Mk.tot_ge (fun i=>by show 1<=Mk.sEntryS i;unfold Mk.sEntryS;omega) n) yo_);clear hR h0 hr hb hc;go_enter Tryz.func15,Tryz.ntmps15;go_wp2;go_loopg[1,5] n (fun kq v1 v5 w'=>∃(K x:Int),v1= .int .i64 K/\v5= .int .i64 x/\qB (0<=x/\x.toNat+kq=n/\K=k+Mk.tot (Mk.sEntryS) x.toNat)/\qB (Mk.Like P w w'))
 case atStart=>exact⟨k,0,rfl,rfl,⟨⟨by omega,by simp,by simp[Mk.tot]⟩⟩,⟨Mk.zl (Mk.Like.refl P w)⟩⟩
 case round=>
  obtain⟨K,x,rfl,rfl,HX,HL⟩:=hrel;by_cases c3:x<(n:Int)
  case neg=>
   obtain rfl:K=r:=by
    have h1:=HX.out;have h2:=HN.out;have e:x.toNat=n:=by omega
    rw[e] at h1;rw[h1.2.2,h2.2.1]
   have ap:=z0 c3;clear c3;go_wp2;go_ret;exact⟨rfl,Mk.zl HL.out⟩
  cases gk with
  |zero=>exact absurd HX.out (by intro h;omega)
  |succ k1=>
   have HF:=zz ((Mk.step HX.out HN.out).resolve_right (by have:=HS.out;omega));have HZ:=zz (show Mk.sEntryS x.toNat=4 from rfl);have ap:=z1 c3;have HC:=zz (show x.toNat<n from by have:=HX.out.1;omega);have p0:(0<=x)=True:=eq_true HX.out.1;have q0:(x<(n:Int))=True:=eq_true c3;clear c3;obtain⟨g,rfl⟩:=Mk.Row.head (HR.out.like HL.out) (Nat.lt_of_le_of_lt (Nat.zero_le _) HC.out);obtain⟨f0,t0,T0⟩:=Mk.text K (by have h1:=HF.out;have h5:=HZ.out;omega);replace T0:=zz T0;have aa:=zz (show(wrap64 (K+1))=K+1 from Mk.w1 (by have h1:=HF.out;omega) (by have h1:=HF.out;have h5:=HZ.out;omega));have ab:=zz (show(wrap64 ((wrap64 (K+1))+1))=(wrap64 (K+1))+1 from Mk.w1 (by have h1:=HF.out;have:=aa.out;omega) (by have h1:=HF.out;have h5:=HZ.out;have:=aa.out;omega));obtain⟨f2,t2,T2⟩:=Mk.text (wrap64 ((wrap64 (K+1))+1)) (by have h1:=HF.out;have h5:=HZ.out;have:=aa.out;have:=ab.out;omega);replace T2:=zz T2;have ag:=zz (show(wrap64 ((wrap64 ((wrap64 (K+1))+1))+1))=(wrap64 ((wrap64 (K+1))+1))+1 from Mk.w1 (by have h1:=HF.out;have:=aa.out;have:=ab.out;omega) (by have h1:=HF.out;have h5:=HZ.out;have:=aa.out;have:=ab.out;omega));have ar:=zz (show(wrap64 ((wrap64 ((wrap64 ((wrap64 (K+1))+1))+1))+1))=(wrap64 ((wrap64 ((wrap64 (K+1))+1))+1))+1 from Mk.w1 (by have h1:=HF.out;have:=aa.out;have:=ab.out;have:=ag.out;omega) (by have h1:=HF.out;have h5:=HZ.out;have:=aa.out;have:=ab.out;have:=ag.out;omega));have HXW:=zz (Mk.w1 HX.out.1 (by have:=HF.out;omega));go_wp2_with(first|(refine zL 40 15 Tryz.func40 #[.int .i64 K] ?_;(with_reducible refine(laws_markText.calls f0 K t0 _ T0.out).mono ?_);rintro e w1 ⟨rfl,hb⟩;refine⟨_,rfl,?_⟩;replace HL:=zz (Mk.Like.trans (Mk.zl HL.out) (Mk.Like.below hb));clear hb;obtain⟨u0,ah,au,ai,ac⟩:=Mk.Row.at (HR.out.like HL.out) x.toNat 0 Mk.str HC.out rfl;obtain⟨s0,rfl⟩:=au;replace ac:=zz ac;replace ah:w1.cell? ⟨g,x.toNat*4,none⟩=some (.string s0):=ah;replace ai:w1.frozen? ⟨g,x.toNat*4,none⟩=false:=ai)|((with_reducible refine qR (t:=9) (p:=17) rfl ?_);refine ye 9 17 (w1.setCell ⟨g,x.toNat*4,none⟩ (.string t0)) ?_;intro w2 hw;replace HL:=zz (show Mk.Like P w w2 from Mk.Like.trans HL.out (by rw[hw];exact ac.out _ (Mk.str_str _ _)));clear hw ah ai ac;obtain⟨u1,aj,av,ak,ad⟩:=Mk.Row.at (HR.out.like HL.out) x.toNat 1 (Mk.num .i64) HC.out rfl;obtain⟨s1,rfl⟩:=av;replace ad:=zz ad;replace aj:w2.cell? ⟨g,x.toNat*4+1,none⟩=some (.int .i64 s1):=aj;replace ak:w2.frozen? ⟨g,x.toNat*4+1,none⟩=false:=ak)|((with_reducible refine qR (t:=2) (p:=24) rfl ?_);refine ye 2 24 (w2.setCell ⟨g,x.toNat*4+1,none⟩ (.int .i64 (wrap64 (K+1)))) ?_;intro w3 hw;replace HL:=zz (show Mk.Like P w w3 from Mk.Like.trans HL.out (by rw[hw];exact ad.out _ (Mk.int_int _ _ _)));clear hw aj ak ad)|(refine zL 40 30 Tryz.func40 #[.int .i64 (wrap64 ((wrap64 (K+1))+1))] ?_;(with_reducible refine(laws_markText.calls f2 (wrap64 ((wrap64 (K+1))+1)) t2 _ T2.out).mono ?_);rintro e w4 ⟨rfl,hb⟩;refine⟨_,rfl,?_⟩;replace HL:=zz (Mk.Like.trans (Mk.zl HL.out) (Mk.Like.below hb));clear hb;obtain⟨u2,al,aw,am,ae⟩:=Mk.Row.at (HR.out.like HL.out) x.toNat 2 Mk.str HC.out rfl;obtain⟨s2,rfl⟩:=aw;replace ae:=zz ae;replace al:w4.cell? ⟨g,x.toNat*4+2,none⟩=some (.string s2):=al;replace am:w4.frozen? ⟨g,x.toNat*4+2,none⟩=false:=am)|((with_reducible refine qR (t:=9) (p:=32) rfl ?_);refine ye 9 32 (w4.setCell ⟨g,x.toNat*4+2,none⟩ (.string t2)) ?_;intro w5 hw;replace HL:=zz (show Mk.Like P w w5 from Mk.Like.trans HL.out (by rw[hw];exact ae.out _ (Mk.str_str _ _)));clear hw al am ae;obtain⟨u3,an,ax,ao,af⟩:=Mk.Row.at (HR.out.like HL.out) x.toNat 3 Mk.bit HC.out rfl;obtain⟨s3,rfl⟩:=ax;replace af:=zz af;replace an:w5.cell? ⟨g,x.toNat*4+3,none⟩=some (.bool s3):=an;replace ao:w5.frozen? ⟨g,x.toNat*4+3,none⟩=false:=ao)|((with_reducible refine qR (t:=4) (p:=41) rfl ?_);refine ye 4 41 (w5.setCell ⟨g,x.toNat*4+3,none⟩ (.bool (Int.tmod (wrap64 ((wrap64 ((wrap64 (K+1))+1))+1)) 3==0))) ?_;intro w6 hw;replace HL:=zz (show Mk.Like P w w6 from Mk.Like.trans HL.out (by rw[hw];exact af.out _ (Mk.bool_bool _ _)));clear hw an ao af))
   go_roundg k1
   case measure=>omega
   case rel=>exact⟨(wrap64 ((wrap64 ((wrap64 ((wrap64 (K+1))+1))+1))+1)),wrap64 (x+1),(by rfl),rfl,⟨⟨by have:=HXW.out;have:=HX.out;omega,by have:=HXW.out;have:=HX.out;omega,by have h1:=HXW.out;have h2:=HX.out;have h5:=HZ.out;have:=aa.out;have:=ab.out;have:=ag.out;have:=ar.out;have h3:=HF.out;rw[show(wrap64 (x+1)).toNat=x.toNat+1 by omega];omega⟩⟩,⟨Mk.zl HL.out⟩⟩
theorem Mk.GenS{P:Nat->Prop}{n:Nat}{v:Value}{k r:Int}{w:World}(hR:Mk.Row P (Mk.fGenS P) n w v)(h0:0<=k)(hr:r=k+Mk.tot (Mk.sGenS) n)(hb:r<=4611686018427387904):
 Calls Tryz.prog 69 #[v,.int .i64 k] w fun e w'=>e= .returned (.int .i64 r)/\Mk.Like P w w':=by
 obtain⟨A,c,rfl,hc,hx⟩:=id hR;clear hx;have HR:=zz hR;have HN:=zz (And.intro h0 (And.intro hr hb));have HS:=zz (show n<=4611686018427387904 from Nat.le_trans (Mk.tot_ge (fun i=>by show 1<=Mk.sGenS i;unfold Mk.sGenS;omega) n) yo_);clear hR h0 hr hb hc;go_enter Tryz.func69,Tryz.ntmps69;go_wp2;go_loopg[1,5] n (fun kq v1 v5 w'=>∃(K x:Int),v1= .int .i64 K/\v5= .int .i64 x/\qB (0<=x/\x.toNat+kq=n/\K=k+Mk.tot (Mk.sGenS) x.toNat)/\qB (Mk.Like P w w'))
 case atStart=>exact⟨k,0,rfl,rfl,⟨⟨by omega,by simp,by simp[Mk.tot]⟩⟩,⟨Mk.zl (Mk.Like.refl P w)⟩⟩
 case round=>
  obtain⟨K,x,rfl,rfl,HX,HL⟩:=hrel;by_cases c3:x<(n:Int)
  case neg=>
   obtain rfl:K=r:=by
    have h1:=HX.out;have h2:=HN.out;have e:x.toNat=n:=by omega
    rw[e] at h1;rw[h1.2.2,h2.2.1]
   have ah:=z0 c3;clear c3;go_wp2;go_ret;exact⟨rfl,Mk.zl HL.out⟩
  cases gk with
  |zero=>exact absurd HX.out (by intro h;omega)
  |succ k1=>
   have HF:=zz ((Mk.step HX.out HN.out).resolve_right (by have:=HS.out;omega));have HZ:=zz (show Mk.sGenS x.toNat=2 from rfl);have ah:=z1 c3;have HC:=zz (show x.toNat<n from by have:=HX.out.1;omega);have p0:(0<=x)=True:=eq_true HX.out.1;have q0:(x<(n:Int))=True:=eq_true c3;clear c3;obtain⟨g,rfl⟩:=Mk.Row.head (HR.out.like HL.out) (Nat.lt_of_le_of_lt (Nat.zero_le _) HC.out);have aa:=zz (show(wrap64 (K+1))=K+1 from Mk.w1 (by have h1:=HF.out;omega) (by have h1:=HF.out;have h5:=HZ.out;omega));obtain⟨f1,t1,T1⟩:=Mk.text (wrap64 (K+1)) (by have h1:=HF.out;have h5:=HZ.out;have:=aa.out;omega);replace T1:=zz T1;have ai:=zz (show(wrap64 ((wrap64 (K+1))+1))=(wrap64 (K+1))+1 from Mk.w1 (by have h1:=HF.out;have:=aa.out;omega) (by have h1:=HF.out;have h5:=HZ.out;have:=aa.out;omega));have HXW:=zz (Mk.w1 HX.out.1 (by have:=HF.out;omega))
   rename World=>wa
   obtain⟨u0,ad,aj,ae,ab⟩:=Mk.Row.at (HR.out.like HL.out) x.toNat 0 (Mk.num .i64) HC.out rfl;obtain⟨s0,rfl⟩:=aj;replace ab:=zz ab;replace ad:wa.cell? ⟨g,x.toNat*2,none⟩=some (.int .i64 s0):=ad;replace ae:wa.frozen? ⟨g,x.toNat*2,none⟩=false:=ae;go_wp2_with(first|((with_reducible refine qR (t:=2) (p:=16) rfl ?_);refine ye 2 16 (wa.setCell ⟨g,x.toNat*2,none⟩ (.int .i64 K)) ?_;intro w1 hw;replace HL:=zz (show Mk.Like P w w1 from Mk.Like.trans HL.out (by rw[hw];exact ab.out _ (Mk.int_int _ _ _)));clear hw ad ae ab)|(refine zL 40 22 Tryz.func40 #[.int .i64 (wrap64 (K+1))] ?_;(with_reducible refine(laws_markText.calls f1 (wrap64 (K+1)) t1 _ T1.out).mono ?_);rintro e w2 ⟨rfl,hb⟩;refine⟨_,rfl,?_⟩;replace HL:=zz (Mk.Like.trans (Mk.zl HL.out) (Mk.Like.below hb));clear hb;obtain⟨u1,af,ak,ag,ac⟩:=Mk.Row.at (HR.out.like HL.out) x.toNat 1 Mk.str HC.out rfl;obtain⟨s1,rfl⟩:=ak;replace ac:=zz ac;replace af:w2.cell? ⟨g,x.toNat*2+1,none⟩=some (.string s1):=af;replace ag:w2.frozen? ⟨g,x.toNat*2+1,none⟩=false:=ag)|((with_reducible refine qR (t:=9) (p:=24) rfl ?_);refine ye 9 24 (w2.setCell ⟨g,x.toNat*2+1,none⟩ (.string t1)) ?_;intro w3 hw;replace HL:=zz (show Mk.Like P w w3 from Mk.Like.trans HL.out (by rw[hw];exact ac.out _ (Mk.str_str _ _)));clear hw af ag ac))
   go_roundg k1
   case measure=>omega
   case rel=>exact⟨(wrap64 ((wrap64 (K+1))+1)),wrap64 (x+1),(by rfl),rfl,⟨⟨by have:=HXW.out;have:=HX.out;omega,by have:=HXW.out;have:=HX.out;omega,by have h1:=HXW.out;have h2:=HX.out;have h5:=HZ.out;have:=aa.out;have:=ai.out;have h3:=HF.out;rw[show(wrap64 (x+1)).toNat=x.toNat+1 by omega];omega⟩⟩,⟨Mk.zl HL.out⟩⟩
theorem Mk.NextS{P:Nat->Prop}{n:Nat}{v:Value}{k r:Int}{w:World}(hR:Mk.Row P (Mk.fNextS P) n w v)(h0:0<=k)(hr:r=k+Mk.tot (Mk.sNextS) n)(hb:r<=4611686018427387904):
 Calls Tryz.prog 39 #[v,.int .i64 k] w fun e w'=>e= .returned (.int .i64 r)/\Mk.Like P w w':=by
 obtain⟨A,c,rfl,hc,hx⟩:=id hR;clear hx;have HR:=zz hR;have HN:=zz (And.intro h0 (And.intro hr hb));have HS:=zz (show n<=4611686018427387904 from Nat.le_trans (Mk.tot_ge (fun i=>by show 1<=Mk.sNextS i;unfold Mk.sNextS;omega) n) yo_);clear hR h0 hr hb hc;go_enter Tryz.func39,Tryz.ntmps39;go_wp2;go_loopg[1,5] n (fun kq v1 v5 w'=>∃(K x:Int),v1= .int .i64 K/\v5= .int .i64 x/\qB (0<=x/\x.toNat+kq=n/\K=k+Mk.tot (Mk.sNextS) x.toNat)/\qB (Mk.Like P w w'))
 case atStart=>exact⟨k,0,rfl,rfl,⟨⟨by omega,by simp,by simp[Mk.tot]⟩⟩,⟨Mk.zl (Mk.Like.refl P w)⟩⟩
 case round=>
  obtain⟨K,x,rfl,rfl,HX,HL⟩:=hrel;by_cases c3:x<(n:Int)
  case neg=>
   obtain rfl:K=r:=by
    have h1:=HX.out;have h2:=HN.out;have e:x.toNat=n:=by omega
    rw[e] at h1;rw[h1.2.2,h2.2.1]
   have ah:=z0 c3;clear c3;go_wp2;go_ret;exact⟨rfl,Mk.zl HL.out⟩
  cases gk with
  |zero=>exact absurd HX.out (by intro h;omega)
  |succ k1=>
   have HF:=zz ((Mk.step HX.out HN.out).resolve_right (by have:=HS.out;omega));have HZ:=zz (show Mk.sNextS x.toNat=2 from rfl);have ah:=z1 c3;have HC:=zz (show x.toNat<n from by have:=HX.out.1;omega);have p0:(0<=x)=True:=eq_true HX.out.1;have q0:(x<(n:Int))=True:=eq_true c3;clear c3;obtain⟨g,rfl⟩:=Mk.Row.head (HR.out.like HL.out) (Nat.lt_of_le_of_lt (Nat.zero_le _) HC.out);obtain⟨f0,t0,T0⟩:=Mk.text K (by have h1:=HF.out;have h5:=HZ.out;omega);replace T0:=zz T0;have aa:=zz (show(wrap64 (K+1))=K+1 from Mk.w1 (by have h1:=HF.out;omega) (by have h1:=HF.out;have h5:=HZ.out;omega));obtain⟨f1,t1,T1⟩:=Mk.text (wrap64 (K+1)) (by have h1:=HF.out;have h5:=HZ.out;have:=aa.out;omega);replace T1:=zz T1;have ai:=zz (show(wrap64 ((wrap64 (K+1))+1))=(wrap64 (K+1))+1 from Mk.w1 (by have h1:=HF.out;have:=aa.out;omega) (by have h1:=HF.out;have h5:=HZ.out;have:=aa.out;omega));have HXW:=zz (Mk.w1 HX.out.1 (by have:=HF.out;omega));go_wp2_with(first|(refine zL 40 15 Tryz.func40 #[.int .i64 K] ?_;(with_reducible refine(laws_markText.calls f0 K t0 _ T0.out).mono ?_);rintro e w1 ⟨rfl,hb⟩;refine⟨_,rfl,?_⟩;replace HL:=zz (Mk.Like.trans (Mk.zl HL.out) (Mk.Like.below hb));clear hb;obtain⟨u0,ad,aj,ae,ab⟩:=Mk.Row.at (HR.out.like HL.out) x.toNat 0 Mk.str HC.out rfl;obtain⟨s0,rfl⟩:=aj;replace ab:=zz ab;replace ad:w1.cell? ⟨g,x.toNat*2,none⟩=some (.string s0):=ad;replace ae:w1.frozen? ⟨g,x.toNat*2,none⟩=false:=ae)|((with_reducible refine qR (t:=9) (p:=17) rfl ?_);refine ye 9 17 (w1.setCell ⟨g,x.toNat*2,none⟩ (.string t0)) ?_;intro w2 hw;replace HL:=zz (show Mk.Like P w w2 from Mk.Like.trans HL.out (by rw[hw];exact ab.out _ (Mk.str_str _ _)));clear hw ad ae ab)|(refine zL 40 23 Tryz.func40 #[.int .i64 (wrap64 (K+1))] ?_;(with_reducible refine(laws_markText.calls f1 (wrap64 (K+1)) t1 _ T1.out).mono ?_);rintro e w3 ⟨rfl,hb⟩;refine⟨_,rfl,?_⟩;replace HL:=zz (Mk.Like.trans (Mk.zl HL.out) (Mk.Like.below hb));clear hb;obtain⟨u1,af,ak,ag,ac⟩:=Mk.Row.at (HR.out.like HL.out) x.toNat 1 Mk.str HC.out rfl;obtain⟨s1,rfl⟩:=ak;replace ac:=zz ac;replace af:w3.cell? ⟨g,x.toNat*2+1,none⟩=some (.string s1):=af;replace ag:w3.frozen? ⟨g,x.toNat*2+1,none⟩=false:=ag)|((with_reducible refine qR (t:=9) (p:=25) rfl ?_);refine ye 9 25 (w3.setCell ⟨g,x.toNat*2+1,none⟩ (.string t1)) ?_;intro w4 hw;replace HL:=zz (show Mk.Like P w w4 from Mk.Like.trans HL.out (by rw[hw];exact ac.out _ (Mk.str_str _ _)));clear hw af ag ac))
   go_roundg k1
   case measure=>omega
   case rel=>exact⟨(wrap64 ((wrap64 (K+1))+1)),wrap64 (x+1),(by rfl),rfl,⟨⟨by have:=HXW.out;have:=HX.out;omega,by have:=HXW.out;have:=HX.out;omega,by have h1:=HXW.out;have h2:=HX.out;have h5:=HZ.out;have:=aa.out;have:=ai.out;have h3:=HF.out;rw[show(wrap64 (x+1)).toNat=x.toNat+1 by omega];omega⟩⟩,⟨Mk.zl HL.out⟩⟩
theorem Mk.ItemS{P:Nat->Prop}{l2:Nat->Nat}{l4:Nat->Nat}{n:Nat}{v:Value}{k r:Int}{w:World}(hR:Mk.Row P (Mk.fItemS P l2 l4) n w v)(h0:0<=k)(hr:r=k+Mk.tot (Mk.sItemS l2 l4) n)(hb:r<=4611686018427387904):
 Calls Tryz.prog 36 #[v,.int .i64 k] w fun e w'=>e= .returned (.int .i64 r)/\Mk.Like P w w':=by
 obtain⟨A,c,rfl,hc,hx⟩:=id hR;clear hx;have HR:=zz hR;have HN:=zz (And.intro h0 (And.intro hr hb));have HS:=zz (show n<=4611686018427387904 from Nat.le_trans (Mk.tot_ge (fun i=>by show 1<=Mk.sItemS l2 l4 i;unfold Mk.sItemS;omega) n) yo_);clear hR h0 hr hb hc;go_enter Tryz.func36,Tryz.ntmps36;go_wp2;go_loopg[1,5] n (fun kq v1 v5 w'=>∃(K x:Int),v1= .int .i64 K/\v5= .int .i64 x/\qB (0<=x/\x.toNat+kq=n/\K=k+Mk.tot (Mk.sItemS l2 l4) x.toNat)/\qB (Mk.Like P w w'))
 case atStart=>exact⟨k,0,rfl,rfl,⟨⟨by omega,by simp,by simp[Mk.tot]⟩⟩,⟨Mk.zl (Mk.Like.refl P w)⟩⟩
 case round=>
  obtain⟨K,x,rfl,rfl,HX,HL⟩:=hrel;by_cases c3:x<(n:Int)
  case neg=>
   obtain rfl:K=r:=by
    have h1:=HX.out;have h2:=HN.out;have e:x.toNat=n:=by omega
    rw[e] at h1;rw[h1.2.2,h2.2.1]
   have ax:=z0 c3;clear c3;go_wp2;go_ret;exact⟨rfl,Mk.zl HL.out⟩
  cases gk with
  |zero=>exact absurd HX.out (by intro h;omega)
  |succ k1=>
   have HF:=zz ((Mk.step HX.out HN.out).resolve_right (by have:=HS.out;omega));have HZ:=zz (show Mk.sItemS l2 l4 x.toNat=3+Mk.tot Mk.sStringS (l2 x.toNat)+Mk.tot Mk.sEntryS (l4 x.toNat) from rfl);have ax:=z1 c3;have HC:=zz (show x.toNat<n from by have:=HX.out.1;omega);have p0:(0<=x)=True:=eq_true HX.out.1;have q0:(x<(n:Int))=True:=eq_true c3;clear c3;obtain⟨g,rfl⟩:=Mk.Row.head (HR.out.like HL.out) (Nat.lt_of_le_of_lt (Nat.zero_le _) HC.out);obtain⟨f0,t0,T0⟩:=Mk.text K (by have h1:=HF.out;have h5:=HZ.out;omega);replace T0:=zz T0;have aa:=zz (show(wrap64 (K+1))=K+1 from Mk.w1 (by have h1:=HF.out;omega) (by have h1:=HF.out;have h5:=HZ.out;omega));obtain⟨f1,t1,T1⟩:=Mk.text (wrap64 (K+1)) (by have h1:=HF.out;have h5:=HZ.out;have:=aa.out;omega);replace T1:=zz T1;have ab:=zz (show(wrap64 ((wrap64 (K+1))+1))=(wrap64 (K+1))+1 from Mk.w1 (by have h1:=HF.out;have:=aa.out;omega) (by have h1:=HF.out;have h5:=HZ.out;have:=aa.out;omega));obtain⟨K3,av⟩:∃z:Int,z=(wrap64 ((wrap64 (K+1))+1))+Mk.tot Mk.sStringS (l2 x.toNat):=⟨_,rfl⟩
   have ac:=zz av;clear av;obtain⟨f3,t3,T3⟩:=Mk.text K3 (by have h1:=HF.out;have h5:=HZ.out;have:=aa.out;have:=ab.out;have:=ac.out;omega);replace T3:=zz T3;have ai:=zz (show(wrap64 (K3+1))=K3+1 from Mk.w1 (by have h1:=HF.out;have:=aa.out;have:=ab.out;have:=ac.out;omega) (by have h1:=HF.out;have h5:=HZ.out;have:=aa.out;have:=ab.out;have:=ac.out;omega));obtain⟨K5,aw⟩:∃z:Int,z=(wrap64 (K3+1))+Mk.tot Mk.sEntryS (l4 x.toNat):=⟨_,rfl⟩
   have aj:=zz aw;clear aw;have HXW:=zz (Mk.w1 HX.out.1 (by have:=HF.out;omega));go_wp2_with(first|(refine zL 40 15 Tryz.func40 #[.int .i64 K] ?_;(with_reducible refine(laws_markText.calls f0 K t0 _ T0.out).mono ?_);rintro e w1 ⟨rfl,hb⟩;refine⟨_,rfl,?_⟩;replace HL:=zz (Mk.Like.trans (Mk.zl HL.out) (Mk.Like.below hb));clear hb;obtain⟨u0,ak,ay,al,ad⟩:=Mk.Row.at (HR.out.like HL.out) x.toNat 0 Mk.str HC.out rfl;obtain⟨s0,rfl⟩:=ay;replace ad:=zz ad;replace ak:w1.cell? ⟨g,x.toNat*5,none⟩=some (.string s0):=ak;replace al:w1.frozen? ⟨g,x.toNat*5,none⟩=false:=al)|((with_reducible refine qR (t:=9) (p:=17) rfl ?_);refine ye 9 17 (w1.setCell ⟨g,x.toNat*5,none⟩ (.string t0)) ?_;intro w2 hw;replace HL:=zz (show Mk.Like P w w2 from Mk.Like.trans HL.out (by rw[hw];exact ad.out _ (Mk.str_str _ _)));clear hw ak al ad)|(refine zL 40 23 Tryz.func40 #[.int .i64 (wrap64 (K+1))] ?_;(with_reducible refine(laws_markText.calls f1 (wrap64 (K+1)) t1 _ T1.out).mono ?_);rintro e w3 ⟨rfl,hb⟩;refine⟨_,rfl,?_⟩;replace HL:=zz (Mk.Like.trans (Mk.zl HL.out) (Mk.Like.below hb));clear hb;obtain⟨u1,am,az,an,ae⟩:=Mk.Row.at (HR.out.like HL.out) x.toNat 1 Mk.str HC.out rfl;obtain⟨s1,rfl⟩:=az;replace ae:=zz ae;replace am:w3.cell? ⟨g,x.toNat*5+1,none⟩=some (.string s1):=am;replace an:w3.frozen? ⟨g,x.toNat*5+1,none⟩=false:=an)|((with_reducible refine qR (t:=9) (p:=25) rfl ?_);refine ye 9 25 (w3.setCell ⟨g,x.toNat*5+1,none⟩ (.string t1)) ?_;intro w4 hw;replace HL:=zz (show Mk.Like P w w4 from Mk.Like.trans HL.out (by rw[hw];exact ae.out _ (Mk.str_str _ _)));clear hw am an ae;obtain⟨u2,ao,af,aA,aB⟩:=Mk.Row.at (HR.out.like HL.out) x.toNat 2 (Mk.row P (Mk.fStringS P) l2) HC.out rfl;obtain⟨A2,c2,rfl,_⟩:=id af;replace af:=zz (show Mk.Row P (Mk.fStringS P) (l2 x.toNat) w4 (.slice A2 (l2 x.toNat) c2) from af);clear aB aA;replace ao:w4.cell? ⟨g,x.toNat*5+2,none⟩=some (.slice A2 (l2 x.toNat) c2):=ao)|(refine zL 14 34 Tryz.func14 #[.slice A2 (l2 x.toNat) c2,.int .i64 (wrap64 ((wrap64 (K+1))+1))] ?_;(with_reducible refine(Mk.StringS (r:=K3) af.out (by have h1:=HF.out;have:=aa.out;have:=ab.out;omega) ac.out (by have h1:=HF.out;have h5:=HZ.out;have:=aa.out;have:=ab.out;have:=ac.out;omega)).mono ?_);rintro e w5 ⟨rfl,hl⟩;refine⟨_,rfl,?_⟩;replace HL:=zz (Mk.Like.trans (Mk.zl HL.out) hl);clear hl ao)|(refine zL 40 38 Tryz.func40 #[.int .i64 K3] ?_;(with_reducible refine(laws_markText.calls f3 K3 t3 _ T3.out).mono ?_);rintro e w6 ⟨rfl,hb⟩;refine⟨_,rfl,?_⟩;replace HL:=zz (Mk.Like.trans (Mk.zl HL.out) (Mk.Like.below hb));clear hb;obtain⟨u3,ap,aC,ar,ag⟩:=Mk.Row.at (HR.out.like HL.out) x.toNat 3 Mk.str HC.out rfl;obtain⟨s3,rfl⟩:=aC;replace ag:=zz ag;replace ap:w6.cell? ⟨g,x.toNat*5+3,none⟩=some (.string s3):=ap;replace ar:w6.frozen? ⟨g,x.toNat*5+3,none⟩=false:=ar)|((with_reducible refine qR (t:=9) (p:=40) rfl ?_);refine ye 9 40 (w6.setCell ⟨g,x.toNat*5+3,none⟩ (.string t3)) ?_;intro w7 hw;replace HL:=zz (show Mk.Like P w w7 from Mk.Like.trans HL.out (by rw[hw];exact ag.out _ (Mk.str_str _ _)));clear hw ap ar ag;obtain⟨u4,au,ah,aD,aE⟩:=Mk.Row.at (HR.out.like HL.out) x.toNat 4 (Mk.row P (Mk.fEntryS P) l4) HC.out rfl;obtain⟨A4,c4,rfl,_⟩:=id ah;replace ah:=zz (show Mk.Row P (Mk.fEntryS P) (l4 x.toNat) w7 (.slice A4 (l4 x.toNat) c4) from ah);clear aE aD;replace au:w7.cell? ⟨g,x.toNat*5+4,none⟩=some (.slice A4 (l4 x.toNat) c4):=au)|(refine zL 15 49 Tryz.func15 #[.slice A4 (l4 x.toNat) c4,.int .i64 (wrap64 (K3+1))] ?_;(with_reducible refine(Mk.EntryS (r:=K5) ah.out (by have h1:=HF.out;have:=aa.out;have:=ab.out;have:=ac.out;have:=ai.out;omega) aj.out (by have h1:=HF.out;have h5:=HZ.out;have:=aa.out;have:=ab.out;have:=ac.out;have:=ai.out;have:=aj.out;omega)).mono ?_);rintro e w8 ⟨rfl,hl⟩;refine⟨_,rfl,?_⟩;replace HL:=zz (Mk.Like.trans (Mk.zl HL.out) hl);clear hl au))
   go_roundg k1
   case measure=>omega
   case rel=>exact⟨K5,wrap64 (x+1),(by rfl),rfl,⟨⟨by have:=HXW.out;have:=HX.out;omega,by have:=HXW.out;have:=HX.out;omega,by have h1:=HXW.out;have h2:=HX.out;have h5:=HZ.out;have:=aa.out;have:=ab.out;have:=ac.out;have:=ai.out;have:=aj.out;have h3:=HF.out;rw[show(wrap64 (x+1)).toNat=x.toNat+1 by omega];omega⟩⟩,⟨Mk.zl HL.out⟩⟩
theorem Mk.ProfileS{P:Nat->Prop}{l2:Nat->Nat}{n:Nat}{v:Value}{k r:Int}{w:World}(hR:Mk.Row P (Mk.fProfileS P l2) n w v)(h0:0<=k)(hr:r=k+Mk.tot (Mk.sProfileS l2) n)(hb:r<=4611686018427387904):
 Calls Tryz.prog 37 #[v,.int .i64 k] w fun e w'=>e= .returned (.int .i64 r)/\Mk.Like P w w':=by
 obtain⟨A,c,rfl,hc,hx⟩:=id hR;clear hx;have HR:=zz hR;have HN:=zz (And.intro h0 (And.intro hr hb));have HS:=zz (show n<=4611686018427387904 from Nat.le_trans (Mk.tot_ge (fun i=>by show 1<=Mk.sProfileS l2 i;unfold Mk.sProfileS;omega) n) yo_);clear hR h0 hr hb hc;go_enter Tryz.func37,Tryz.ntmps37;go_wp2;go_loopg[1,5] n (fun kq v1 v5 w'=>∃(K x:Int),v1= .int .i64 K/\v5= .int .i64 x/\qB (0<=x/\x.toNat+kq=n/\K=k+Mk.tot (Mk.sProfileS l2) x.toNat)/\qB (Mk.Like P w w'))
 case atStart=>exact⟨k,0,rfl,rfl,⟨⟨by omega,by simp,by simp[Mk.tot]⟩⟩,⟨Mk.zl (Mk.Like.refl P w)⟩⟩
 case round=>
  obtain⟨K,x,rfl,rfl,HX,HL⟩:=hrel;by_cases c3:x<(n:Int)
  case neg=>
   obtain rfl:K=r:=by
    have h1:=HX.out;have h2:=HN.out;have e:x.toNat=n:=by omega
    rw[e] at h1;rw[h1.2.2,h2.2.1]
   have am:=z0 c3;clear c3;go_wp2;go_ret;exact⟨rfl,Mk.zl HL.out⟩
  cases gk with
  |zero=>exact absurd HX.out (by intro h;omega)
  |succ k1=>
   have HF:=zz ((Mk.step HX.out HN.out).resolve_right (by have:=HS.out;omega));have HZ:=zz (show Mk.sProfileS l2 x.toNat=2+Mk.tot Mk.sGenS (l2 x.toNat) from rfl);have am:=z1 c3;have HC:=zz (show x.toNat<n from by have:=HX.out.1;omega);have p0:(0<=x)=True:=eq_true HX.out.1;have q0:(x<(n:Int))=True:=eq_true c3;clear c3;obtain⟨g,rfl⟩:=Mk.Row.head (HR.out.like HL.out) (Nat.lt_of_le_of_lt (Nat.zero_le _) HC.out);obtain⟨f0,t0,T0⟩:=Mk.text K (by have h1:=HF.out;have h5:=HZ.out;omega);replace T0:=zz T0;have aa:=zz (show(wrap64 (K+1))=K+1 from Mk.w1 (by have h1:=HF.out;omega) (by have h1:=HF.out;have h5:=HZ.out;omega));have ae:=zz (show(wrap64 ((wrap64 (K+1))+1))=(wrap64 (K+1))+1 from Mk.w1 (by have h1:=HF.out;have:=aa.out;omega) (by have h1:=HF.out;have h5:=HZ.out;have:=aa.out;omega));obtain⟨K3,al⟩:∃z:Int,z=(wrap64 ((wrap64 (K+1))+1))+Mk.tot Mk.sGenS (l2 x.toNat):=⟨_,rfl⟩
   have af:=zz al;clear al;have HXW:=zz (Mk.w1 HX.out.1 (by have:=HF.out;omega));go_wp2_with(first|(refine zL 40 15 Tryz.func40 #[.int .i64 K] ?_;(with_reducible refine(laws_markText.calls f0 K t0 _ T0.out).mono ?_);rintro e w1 ⟨rfl,hb⟩;refine⟨_,rfl,?_⟩;replace HL:=zz (Mk.Like.trans (Mk.zl HL.out) (Mk.Like.below hb));clear hb;obtain⟨u0,ag,an,ah,ab⟩:=Mk.Row.at (HR.out.like HL.out) x.toNat 0 Mk.str HC.out rfl;obtain⟨s0,rfl⟩:=an;replace ab:=zz ab;replace ag:w1.cell? ⟨g,x.toNat*3,none⟩=some (.string s0):=ag;replace ah:w1.frozen? ⟨g,x.toNat*3,none⟩=false:=ah)|((with_reducible refine qR (t:=9) (p:=17) rfl ?_);refine ye 9 17 (w1.setCell ⟨g,x.toNat*3,none⟩ (.string t0)) ?_;intro w2 hw;replace HL:=zz (show Mk.Like P w w2 from Mk.Like.trans HL.out (by rw[hw];exact ab.out _ (Mk.str_str _ _)));clear hw ag ah ab;obtain⟨u1,ai,ao,aj,ac⟩:=Mk.Row.at (HR.out.like HL.out) x.toNat 1 (Mk.num .i64) HC.out rfl;obtain⟨s1,rfl⟩:=ao;replace ac:=zz ac;replace ai:w2.cell? ⟨g,x.toNat*3+1,none⟩=some (.int .i64 s1):=ai;replace aj:w2.frozen? ⟨g,x.toNat*3+1,none⟩=false:=aj)|((with_reducible refine qR (t:=2) (p:=24) rfl ?_);refine ye 2 24 (w2.setCell ⟨g,x.toNat*3+1,none⟩ (.int .i64 (wrap64 (K+1)))) ?_;intro w3 hw;replace HL:=zz (show Mk.Like P w w3 from Mk.Like.trans HL.out (by rw[hw];exact ac.out _ (Mk.int_int _ _ _)));clear hw ai aj ac;obtain⟨u2,ak,ad,ap,ar⟩:=Mk.Row.at (HR.out.like HL.out) x.toNat 2 (Mk.row P (Mk.fGenS P) l2) HC.out rfl;obtain⟨A2,c2,rfl,_⟩:=id ad;replace ad:=zz (show Mk.Row P (Mk.fGenS P) (l2 x.toNat) w3 (.slice A2 (l2 x.toNat) c2) from ad);clear ar ap;replace ak:w3.cell? ⟨g,x.toNat*3+2,none⟩=some (.slice A2 (l2 x.toNat) c2):=ak)|(refine zL 69 33 Tryz.func69 #[.slice A2 (l2 x.toNat) c2,.int .i64 (wrap64 ((wrap64 (K+1))+1))] ?_;(with_reducible refine(Mk.GenS (r:=K3) ad.out (by have h1:=HF.out;have:=aa.out;have:=ae.out;omega) af.out (by have h1:=HF.out;have h5:=HZ.out;have:=aa.out;have:=ae.out;have:=af.out;omega)).mono ?_);rintro e w4 ⟨rfl,hl⟩;refine⟨_,rfl,?_⟩;replace HL:=zz (Mk.Like.trans (Mk.zl HL.out) hl);clear hl ak))
   go_roundg k1
   case measure=>omega
   case rel=>exact⟨K3,wrap64 (x+1),(by rfl),rfl,⟨⟨by have:=HXW.out;have:=HX.out;omega,by have:=HXW.out;have:=HX.out;omega,by have h1:=HXW.out;have h2:=HX.out;have h5:=HZ.out;have:=aa.out;have:=ae.out;have:=af.out;have h3:=HF.out;rw[show(wrap64 (x+1)).toNat=x.toNat+1 by omega];omega⟩⟩,⟨Mk.zl HL.out⟩⟩
theorem Mk.PendingS{P:Nat->Prop}{l1:Nat->Nat}{n:Nat}{v:Value}{k r:Int}{w:World}(hR:Mk.Row P (Mk.fPendingS P l1) n w v)(h0:0<=k)(hr:r=k+Mk.tot (Mk.sPendingS l1) n)(hb:r<=4611686018427387904):
 Calls Tryz.prog 38 #[v,.int .i64 k] w fun e w'=>e= .returned (.int .i64 r)/\Mk.Like P w w':=by
 obtain⟨A,c,rfl,hc,hx⟩:=id hR;clear hx;have HR:=zz hR;have HN:=zz (And.intro h0 (And.intro hr hb));have HS:=zz (show n<=4611686018427387904 from Nat.le_trans (Mk.tot_ge (fun i=>by show 1<=Mk.sPendingS l1 i;unfold Mk.sPendingS;omega) n) yo_);clear hR h0 hr hb hc;go_enter Tryz.func38,Tryz.ntmps38;go_wp2;go_loopg[1,5] n (fun kq v1 v5 w'=>∃(K x:Int),v1= .int .i64 K/\v5= .int .i64 x/\qB (0<=x/\x.toNat+kq=n/\K=k+Mk.tot (Mk.sPendingS l1) x.toNat)/\qB (Mk.Like P w w'))
 case atStart=>exact⟨k,0,rfl,rfl,⟨⟨by omega,by simp,by simp[Mk.tot]⟩⟩,⟨Mk.zl (Mk.Like.refl P w)⟩⟩
 case round=>
  obtain⟨K,x,rfl,rfl,HX,HL⟩:=hrel;by_cases c3:x<(n:Int)
  case neg=>
   obtain rfl:K=r:=by
    have h1:=HX.out;have h2:=HN.out;have e:x.toNat=n:=by omega
    rw[e] at h1;rw[h1.2.2,h2.2.1]
   have al:=z0 c3;clear c3;go_wp2;go_ret;exact⟨rfl,Mk.zl HL.out⟩
  cases gk with
  |zero=>exact absurd HX.out (by intro h;omega)
  |succ k1=>
   have HF:=zz ((Mk.step HX.out HN.out).resolve_right (by have:=HS.out;omega));have HZ:=zz (show Mk.sPendingS l1 x.toNat=2+Mk.tot Mk.sEntryS (l1 x.toNat) from rfl);have al:=z1 c3;have HC:=zz (show x.toNat<n from by have:=HX.out.1;omega);have p0:(0<=x)=True:=eq_true HX.out.1;have q0:(x<(n:Int))=True:=eq_true c3;clear c3;obtain⟨g,rfl⟩:=Mk.Row.head (HR.out.like HL.out) (Nat.lt_of_le_of_lt (Nat.zero_le _) HC.out);obtain⟨f0,t0,T0⟩:=Mk.text K (by have h1:=HF.out;have h5:=HZ.out;omega);replace T0:=zz T0;have aa:=zz (show(wrap64 (K+1))=K+1 from Mk.w1 (by have h1:=HF.out;omega) (by have h1:=HF.out;have h5:=HZ.out;omega));obtain⟨K2,ak⟩:∃z:Int,z=(wrap64 (K+1))+Mk.tot Mk.sEntryS (l1 x.toNat):=⟨_,rfl⟩
   have ab:=zz ak;clear ak;obtain⟨f2,t2,T2⟩:=Mk.text K2 (by have h1:=HF.out;have h5:=HZ.out;have:=aa.out;have:=ab.out;omega);replace T2:=zz T2;have am:=zz (show(wrap64 (K2+1))=K2+1 from Mk.w1 (by have h1:=HF.out;have:=aa.out;have:=ab.out;omega) (by have h1:=HF.out;have h5:=HZ.out;have:=aa.out;have:=ab.out;omega));have HXW:=zz (Mk.w1 HX.out.1 (by have:=HF.out;omega));go_wp2_with(first|(refine zL 40 15 Tryz.func40 #[.int .i64 K] ?_;(with_reducible refine(laws_markText.calls f0 K t0 _ T0.out).mono ?_);rintro e w1 ⟨rfl,hb⟩;refine⟨_,rfl,?_⟩;replace HL:=zz (Mk.Like.trans (Mk.zl HL.out) (Mk.Like.below hb));clear hb;obtain⟨u0,af,an,ag,ac⟩:=Mk.Row.at (HR.out.like HL.out) x.toNat 0 Mk.str HC.out rfl;obtain⟨s0,rfl⟩:=an;replace ac:=zz ac;replace af:w1.cell? ⟨g,x.toNat*3,none⟩=some (.string s0):=af;replace ag:w1.frozen? ⟨g,x.toNat*3,none⟩=false:=ag)|((with_reducible refine qR (t:=9) (p:=17) rfl ?_);refine ye 9 17 (w1.setCell ⟨g,x.toNat*3,none⟩ (.string t0)) ?_;intro w2 hw;replace HL:=zz (show Mk.Like P w w2 from Mk.Like.trans HL.out (by rw[hw];exact ac.out _ (Mk.str_str _ _)));clear hw af ag ac;obtain⟨u1,ah,ad,ao,ap⟩:=Mk.Row.at (HR.out.like HL.out) x.toNat 1 (Mk.row P (Mk.fEntryS P) l1) HC.out rfl;obtain⟨A1,c1,rfl,_⟩:=id ad;replace ad:=zz (show Mk.Row P (Mk.fEntryS P) (l1 x.toNat) w2 (.slice A1 (l1 x.toNat) c1) from ad);clear ap ao;replace ah:w2.cell? ⟨g,x.toNat*3+1,none⟩=some (.slice A1 (l1 x.toNat) c1):=ah)|(refine zL 15 26 Tryz.func15 #[.slice A1 (l1 x.toNat) c1,.int .i64 (wrap64 (K+1))] ?_;(with_reducible refine(Mk.EntryS (r:=K2) ad.out (by have h1:=HF.out;have:=aa.out;omega) ab.out (by have h1:=HF.out;have h5:=HZ.out;have:=aa.out;have:=ab.out;omega)).mono ?_);rintro e w3 ⟨rfl,hl⟩;refine⟨_,rfl,?_⟩;replace HL:=zz (Mk.Like.trans (Mk.zl HL.out) hl);clear hl ah)|(refine zL 40 30 Tryz.func40 #[.int .i64 K2] ?_;(with_reducible refine(laws_markText.calls f2 K2 t2 _ T2.out).mono ?_);rintro e w4 ⟨rfl,hb⟩;refine⟨_,rfl,?_⟩;replace HL:=zz (Mk.Like.trans (Mk.zl HL.out) (Mk.Like.below hb));clear hb;obtain⟨u2,ai,ar,aj,ae⟩:=Mk.Row.at (HR.out.like HL.out) x.toNat 2 Mk.str HC.out rfl;obtain⟨s2,rfl⟩:=ar;replace ae:=zz ae;replace ai:w4.cell? ⟨g,x.toNat*3+2,none⟩=some (.string s2):=ai;replace aj:w4.frozen? ⟨g,x.toNat*3+2,none⟩=false:=aj)|((with_reducible refine qR (t:=9) (p:=32) rfl ?_);refine ye 9 32 (w4.setCell ⟨g,x.toNat*3+2,none⟩ (.string t2)) ?_;intro w5 hw;replace HL:=zz (show Mk.Like P w w5 from Mk.Like.trans HL.out (by rw[hw];exact ae.out _ (Mk.str_str _ _)));clear hw ai aj ae))
   go_roundg k1
   case measure=>omega
   case rel=>exact⟨(wrap64 (K2+1)),wrap64 (x+1),(by rfl),rfl,⟨⟨by have:=HXW.out;have:=HX.out;omega,by have:=HXW.out;have:=HX.out;omega,by have h1:=HXW.out;have h2:=HX.out;have h5:=HZ.out;have:=aa.out;have:=ab.out;have:=am.out;have h3:=HF.out;rw[show(wrap64 (x+1)).toNat=x.toNat+1 by omega];omega⟩⟩,⟨Mk.zl HL.out⟩⟩
namespace Mk
section
variable {P : Nat -> Prop} {base : Nat} {ok : Nat -> Prop} {w : World} {v : Value}
theorem row_of{α:Type}{d:Kd α}{e:Nat}{xs:List α}{fs:List Fd}(z:α)(h:d.R e w base ok v xs)(hl:fs.length=d.sz)(hP:∀k,base<=k->k<w.heap.size->P k)
 (hel:∀(i:Nat) (cs:List Value) (ok':Nat->Prop),d.M w base ok' (xs.getD i z) cs->∀(j:Nat) (f:Fd),fs[j]?=some f->∃u,cs[j]?=some u/\f.p w i u):Row P fs xs.length w v:=by
 obtain⟨A,c,rfl⟩:=Kd.qW h;refine⟨A,c,rfl,(Kd.qH h).2.1,fun hn=>?_⟩;obtain⟨g,cap,he,hb,hg,cells,hh⟩:=Kd.R_form h hn;cases he;refine⟨g,cells,e,rfl,hP g hb hg,hh,fun i hi j f hj=>?_⟩;obtain⟨cs,hcl,hM,hcc,_⟩:=Kd.R_elem h z (i:Int) yo_ yo_;obtain⟨u,hu,hp⟩:=hel i cs _ hM j f hj;have:=hcc j u hu;rw[cell_of_row w g _ cells e (0,0) hh] at this;rw[hl];exact⟨u,this,hp⟩
theorem rStringS(hP:∀k,base<=k->k<w.heap.size->P k){xs:List ByteArray}(h:Kd.string.R 9 w base ok v xs):Row P (fStringS P) xs.length w v:=row_of ⟨#[]⟩ h rfl hP fun i cs ok' hM j f hj=>by
 obtain rfl:cs=[.string _]:=hM;rcases j with _|j<;>cases hj
 exact⟨_,rfl,_,rfl⟩
theorem rEntryS(hP:∀k,base<=k->k<w.heap.size->P k){xs:List S63}(h:k63.R 63 w base ok v xs):Row P (fEntryS P) xs.length w v:=row_of z63 h rfl hP fun i cs ok' hM j f hj=>by
 obtain rfl:=k63_openM hM;rcases j with _|_|_|_|j<;>cases hj<;>exact⟨_,rfl,_,rfl⟩
theorem rGenS(hP:∀k,base<=k->k<w.heap.size->P k){xs:List S101}(h:k101.R 101 w base ok v xs):Row P (fGenS P) xs.length w v:=row_of z101 h rfl hP fun i cs ok' hM j f hj=>by
 obtain rfl:=k101_openM hM;rcases j with _|_|j<;>cases hj<;>exact⟨_,rfl,_,rfl⟩
theorem rNextS(hP:∀k,base<=k->k<w.heap.size->P k){xs:List S96}(h:k96.R 96 w base ok v xs):Row P (fNextS P) xs.length w v:=row_of z96 h rfl hP fun i cs ok' hM j f hj=>by
 obtain rfl:=k96_openM hM;rcases j with _|_|j<;>cases hj<;>exact⟨_,rfl,_,rfl⟩
theorem rItemS(hP:∀k,base<=k->k<w.heap.size->P k){xs:List S61}(h:k61.R 61 w base ok v xs):Row P (fItemS P (fun i=>(xs.getD i z61).f2.length) (fun i=>(xs.getD i z61).f4.length)) xs.length w v:=row_of z61 h rfl hP fun i cs ok' hM j f hj=>by
 obtain⟨v2,v4,rfl,g2,g4⟩:=k61_openM hM;rcases j with _|_|_|_|_|j<;>cases hj
 ·exact⟨_,rfl,_,rfl⟩
 ·exact⟨_,rfl,_,rfl⟩
 ·exact⟨_,rfl,rStringS hP g2⟩
 ·exact⟨_,rfl,_,rfl⟩
 ·exact⟨_,rfl,rEntryS hP g4⟩
theorem rProfileS(hP:∀k,base<=k->k<w.heap.size->P k){xs:List S99}(h:k99.R 99 w base ok v xs):Row P (fProfileS P (fun i=>(xs.getD i z99).f2.length)) xs.length w v:=row_of z99 h rfl hP fun i cs ok' hM j f hj=>by
 obtain⟨v2,rfl,g2⟩:=k99_openM hM;rcases j with _|_|_|j<;>cases hj
 ·exact⟨_,rfl,_,rfl⟩
 ·exact⟨_,rfl,_,rfl⟩
 ·exact⟨_,rfl,rGenS hP g2⟩
theorem rPendingS(hP:∀k,base<=k->k<w.heap.size->P k){xs:List S94}(h:k94.R 94 w base ok v xs):Row P (fPendingS P (fun i=>(xs.getD i z94).f1.length)) xs.length w v:=row_of z94 h rfl hP fun i cs ok' hM j f hj=>by
 obtain⟨v1,rfl,g1⟩:=k94_openM hM;rcases j with _|_|_|j<;>cases hj
 ·exact⟨_,rfl,_,rfl⟩
 ·exact⟨_,rfl,rEntryS hP g1⟩
 ·exact⟨_,rfl,_,rfl⟩
end
theorem tot_mul{f:Nat->Nat}{B:Nat}(h:∀i,f i<=B):∀n,tot f n<=n*B
 |0=>by rw[tot,Nat.zero_mul];exact Nat.le_refl _
 |n+1=>by
  have:=tot_mul h n;rw[tot,Nat.succ_mul];exact Nat.add_le_add this (h n)
end Mk
theorem Mk.World{P:Nat->Prop}{i2 i4 p2 q1:Nat->Nat}{n0 n1 n2 n3:Nat}{v0 v1 v2 v3:Value}{k r:Int}{w:World}(hP:∀k,P k->k<w.heap.size)(h0:Mk.Row P (Mk.fItemS P i2 i4) n0 w v0)(h1:Mk.Row P (Mk.fProfileS P p2) n1 w v1)(h2:Mk.Row P (Mk.fPendingS P q1) n2 w v2)(h3:Mk.Row P (Mk.fNextS P) n3 w v3)
 (hk:0<=k) (hr:r=k+Mk.tot (Mk.sItemS i2 i4) n0+Mk.tot (Mk.sProfileS p2) n1+Mk.tot (Mk.sPendingS q1) n2+Mk.tot Mk.sNextS n3) (hb:r<=4611686018427387904):
 Calls Tryz.prog 13 #[.agg #[v0,v1,v2,v3],.int .i64 k] w fun e w'=>e= .returned (.int .i64 r)/\Mk.Like P w w':=by
 have ag:=Tryz.underlying39;have H0:=zz h0;have H1:=zz h1;have H2:=zz h2;have H3:=zz h3;obtain⟨A0,c0,rfl,_⟩:=id h0;obtain⟨A1,c1,rfl,_⟩:=id h1;obtain⟨A2,c2,rfl,_⟩:=id h2;obtain⟨A3,c3,rfl,_⟩:=id h3;have HP:=zz hP;obtain⟨K1,aa⟩:∃z:Int,z=k+Mk.tot (Mk.sItemS i2 i4) n0:=⟨_,rfl⟩
 obtain⟨K2,ab⟩:∃z:Int,z=K1+Mk.tot (Mk.sProfileS p2) n1:=⟨_,rfl⟩
 obtain⟨K3,ac⟩:∃z:Int,z=K2+Mk.tot (Mk.sPendingS q1) n2:=⟨_,rfl⟩
 have HN:=zz (show(0<=k/\0<=K1/\0<=K2/\0<=K3/\r=K3+Mk.tot Mk.sNextS n3)/\K1<=4611686018427387904/\K2<=4611686018427387904/\K3<=4611686018427387904/\r<=4611686018427387904 from by omega);have ad:=zz aa;have ae:=zz ab;have af:=zz ac;clear h0 h1 h2 h3 hP hk hr hb aa ab ac;go_enter Tryz.func13,Tryz.ntmps13
 go_wp2_with(first
  |(refine zN 2 ?_;(try(refine z4 ?_;dsimp only));refine zX 2 39 #[.slice A0 n0 c0,.slice A1 n1 c1,.slice A2 n2 c2,.slice A3 n3 c3] ?_;intro gb hg w1 hbox hb;have HL:=zz (Mk.Like.below (P:=P) hb);have HB:=zz hbox;have HG:=zz (show¬P gb from fun hp=>by have:=HP.out gb hp;rw[hg] at this;exact absurd this (Nat.lt_irrefl _));obtain⟨x0,x1,x2,x3⟩:=zy4 hbox;clear hg hb hbox)
  |(refine zL 36 8 Tryz.func36 #[.slice A0 n0 c0,.int .i64 k] ?_;(with_reducible refine(Mk.ItemS (r:=K1) (H0.out.like HL.out) HN.out.1.1 ad.out HN.out.2.1).mono ?_);rintro e w2 ⟨rfl,hl⟩;refine⟨_,rfl,?_⟩;replace HB:=zz ((hl.kept gb (blk_lt HB.out) HG.out).trans HB.out);replace HL:=zz (Mk.Like.trans HL.out hl);clear hl x0 x1 x2 x3;obtain⟨x0,x1,x2,x3⟩:=zy4 HB.out)
  |(refine zL 37 12 Tryz.func37 #[.slice A1 n1 c1,.int .i64 K1] ?_;(with_reducible refine(Mk.ProfileS (r:=K2) (H1.out.like HL.out) HN.out.1.2.1 ae.out HN.out.2.2.1).mono ?_);rintro e w3 ⟨rfl,hl⟩;refine⟨_,rfl,?_⟩;replace HB:=zz ((hl.kept gb (blk_lt HB.out) HG.out).trans HB.out);replace HL:=zz (Mk.Like.trans HL.out hl);clear hl x0 x1 x2 x3;obtain⟨x0,x1,x2,x3⟩:=zy4 HB.out)
  |(refine zL 38 16 Tryz.func38 #[.slice A2 n2 c2,.int .i64 K2] ?_;(with_reducible refine(Mk.PendingS (r:=K3) (H2.out.like HL.out) HN.out.1.2.2.1 af.out HN.out.2.2.2.1).mono ?_);rintro e w4 ⟨rfl,hl⟩;refine⟨_,rfl,?_⟩;replace HB:=zz ((hl.kept gb (blk_lt HB.out) HG.out).trans HB.out);replace HL:=zz (Mk.Like.trans HL.out hl);clear hl x0 x1 x2 x3;obtain⟨x0,x1,x2,x3⟩:=zy4 HB.out)
  |(refine zL 39 20 Tryz.func39 #[.slice A3 n3 c3,.int .i64 K3] ?_;(with_reducible refine(Mk.NextS (r:=r) (H3.out.like HL.out) HN.out.1.2.2.2.1 HN.out.1.2.2.2.2 HN.out.2.2.2.2).mono ?_);rintro e w5 ⟨rfl,hl⟩;refine⟨_,rfl,?_⟩;replace HL:=zz (Mk.Like.trans HL.out hl);clear hl x0 x1 x2 x3))
 go_ret;exact⟨rfl,Mk.zl HL.out⟩
abbrev TItem:=S61
abbrev TProf:=S99
abbrev TPend:=S94
abbrev TNext:=S96
namespace Nd
structure L4(W:World)(A0:Option Addr)(c0:Nat)(A1:Option Addr)(c1:Nat)(A2:Option Addr)(c2:Nat)(A3:Option Addr)(c3:Nat)(l0:List S79)(l1:List S83)(l2:List S86)(l3:List S89):Prop where
 h0:Kd.C k79 W A0 l0.length l0
 g0:l0.length<=c0
 h1:Kd.C k83 W A1 l1.length l1
 g1:l1.length<=c1
 h2:Kd.C k86 W A2 l2.length l2
 g2:l2.length<=c2
 h3:Kd.C k89 W A3 l3.length l3
 g3:l3.length<=c3
structure W4(W:World)(A0:Option Addr)(c0:Nat)(A1:Option Addr)(c1:Nat)(A2:Option Addr)(c2:Nat)(A3:Option Addr)(c3:Nat)(l0:List TItem)(l1:List TProf)(l2:List TPend)(l3:List TNext):Prop where
 h0:Kd.C k61 W A0 l0.length l0
 g0:l0.length<=c0
 h1:Kd.C k99 W A1 l1.length l1
 g1:l1.length<=c1
 h2:Kd.C k94 W A2 l2.length l2
 g2:l2.length<=c2
 h3:Kd.C k96 W A3 l3.length l3
 g3:l3.length<=c3
section
variable {W W' : World} {A0 A1 A2 A3 : Option Addr} {c0 c1 c2 c3 : Nat}
theorem L4.below{l0:List S79}{l1:List S83}{l2:List S86}{l3:List S89}(h:L4 W A0 c0 A1 c1 A2 c2 A3 c3 l0 l1 l2 l3)(hb:Below W.heap.size W W'):L4 W' A0 c0 A1 c1 A2 c2 A3 c3 l0 l1 l2 l3:=
 ⟨Kd.qD h.h0 hb,h.g0,Kd.qD h.h1 hb,h.g1,Kd.qD h.h2 hb,h.g2,Kd.qD h.h3 hb,h.g3⟩
variable {r0 : List TItem} {r1 : List TProf} {r2 : List TPend} {r3 : List TNext}
theorem W4.below(h:W4 W A0 c0 A1 c1 A2 c2 A3 c3 r0 r1 r2 r3)(hb:Below W.heap.size W W'):W4 W' A0 c0 A1 c1 A2 c2 A3 c3 r0 r1 r2 r3:=
 ⟨Kd.qD h.h0 hb,h.g0,Kd.qD h.h1 hb,h.g1,Kd.qD h.h2 hb,h.g2,Kd.qD h.h3 hb,h.g3⟩
def i2(r:List TItem)(i:Nat):Nat:=(r.getD i z61).f2.length
def i4(r:List TItem)(i:Nat):Nat:=(r.getD i z61).f4.length
def p2(r:List TProf)(i:Nat):Nat:=(r.getD i z99).f2.length
def q1(r:List TPend)(i:Nat):Nat:=(r.getD i z94).f1.length
structure Rows(P:Nat->Prop)(W:World)(v0 v1 v2 v3:Value)(r0:List TItem)(r1:List TProf)(r2:List TPend)(r3:List TNext):Prop where
 h0:Mk.Row P (Mk.fItemS P (i2 r0) (i4 r0)) r0.length W v0
 h1:Mk.Row P (Mk.fProfileS P (p2 r1)) r1.length W v1
 h2:Mk.Row P (Mk.fPendingS P (q1 r2)) r2.length W v2
 h3:Mk.Row P (Mk.fNextS P) r3.length W v3
theorem toWorld{l0:List S79}{l1:List S83}{l2:List S86}{l3:List S89}(k:Nat)(h:L4 W A0 c0 A1 c1 A2 c2 A3 c3 l0 l1 l2 l3)(ht:laws_toWorld.f k l0 l1 l2 l3=some (r0,r1,r2,r3)):
 Calls Tryz.prog 7 #[.agg #[.slice A0 l0.length c0,.slice A1 l1.length c1,.slice A2 l2.length c2,.slice A3 l3.length c3]] W fun e W'=>∃B0 d0 B1 d1 B2 d2 B3 d3,e= .returned (.agg #[.slice B0 r0.length d0,.slice B1 r1.length d1,.slice B2 r2.length d2,.slice B3 r3.length d3])/\
  W4 W' B0 d0 B1 d1 B2 d2 B3 d3 r0 r1 r2 r3/\Rows (fun k=>W.heap.size<=k/\k<W'.heap.size) W' (.slice B0 r0.length d0) (.slice B1 r1.length d1) (.slice B2 r2.length d2) (.slice B3 r3.length d3) r0 r1 r2 r3/\Below W.heap.size W W':=by
 refine(laws_toWorld.calls k _ _ l0 _ _ l1 _ _ l2 _ _ l3 r0 r1 r2 r3 W h.h0 h.g0 h.h1 h.g1 h.h2 h.g2 h.h3 h.g3 ht).mono ?_;rintro e W' ⟨v0,v1,v2,v3,rfl,o0,o1,o2,o3,hb⟩;obtain⟨B0,d0,rfl⟩:=Kd.S_slice o0;obtain⟨B1,d1,rfl⟩:=Kd.S_slice o1;obtain⟨B2,d2,rfl⟩:=Kd.S_slice o2;obtain⟨B3,d3,rfl⟩:=Kd.qW o3;have hP:∀k,W.heap.size<=k->k<W'.heap.size->W.heap.size<=k/\k<W'.heap.size:=fun _ a b=>⟨a,b⟩
 exact⟨B0,d0,B1,d1,B2,d2,B3,d3,rfl,⟨(Kd.S_reads' o0).2.2,(Kd.S_reads' o0).2.1,(Kd.S_reads' o1).2.2,(Kd.S_reads' o1).2.1,(Kd.S_reads' o2).2.2,(Kd.S_reads' o2).2.1,(Kd.qH o3).2.2,(Kd.qH o3).2.1⟩,
  ⟨Mk.rItemS hP (Kd.S_R o0),Mk.rProfileS hP (Kd.S_R o1),Mk.rPendingS hP (Kd.S_R o2),Mk.rNextS hP o3⟩,hb⟩
end
theorem c4{w:World}{g:Nat}{t:TypeId}{a b c d:Value}(h:w.heap[g]?=some (.cells #[a,b,c,d] t (0,0))):w.cell? ⟨g,0,none⟩=some a/\w.cell? ⟨g,1,none⟩=some b/\w.cell? ⟨g,2,none⟩=some c/\w.cell? ⟨g,3,none⟩=some d:=zy4 h
abbrev Ch(l:List World)(W:World):Prop:=∀x ∈ l,Below x.heap.size x W
section
variable {l : List World} {W W' x y z a b c : World}
theorem Ch.step(h:Ch l W)(hb:Below W.heap.size W W'):Ch l W':=fun x hx=>below_step (h x hx) hb
theorem Ch.new(h:Ch l W):Ch (W::l) W:=fun x hx=>by
 rcases List.mem_cons.1 hx with rfl|hx
 ·exact Below.refl _ _
 ·exact h x hx
theorem Ch.alloc(h:Ch l W)(o:Obj):Ch l (W.alloc o):=h.step (qS (Below.refl _ _) o)
theorem Ch.drewN(h:Ch l W)(m:Nat):Ch l (W.drewN m):=h.step (qQ (Below.refl _ _) m)
theorem Ch.drew(h:Ch l W):Ch l W.drew:=h.step (below_drew (Below.refl _ _))
end
theorem zh{P Q:Prop}(q:Q)(f:Q->P:=by intro q;(with_reducible repeat(first|apply Nd.Ch.alloc|apply Nd.Ch.drewN|apply Nd.Ch.drew));exact q):P:=f q
end Nd
end Go.Proofs.YtgccknmddhbdgaaGreatDoor.Q
