/- Proved: at every run the law FnExactWrap returns true (impl.Wrap answers as spec.Wrap does, leaves its arguments as they were, and its answer owns its memory), under no condition but the card's own: the variables that the row lists read as the program's text lays them. -/
import Derived.Test.YtgccknmddhbdgaaGreatDoorE26
import Derived.Test.YtgccknmddhbdgaaGreatDoorE31
import Derived.Test.YtgccknmddhbdgaaGreatDoorE33
import Derived.Test.YtgccknmddhbdgaaGreatDoorE34
import Derived.Lib.SmallJoins
import Derived.SizedLaws
import Derived.Test.YtgccknmddhbdgaaGreatDoorCards
import Derived.Test.YtgccknmddhbdgaaGreatDoorTie
import Derived.ProofKit
import Derived.OpenShut
import Derived.Lay
import Derived.LaidOnce
import Derived.SevenTiedAt
import Derived.Handed
import Derived.Shelf.Vars
import Derived.Carry
namespace Go.Proofs.YtgccknmddhbdgaaGreatDoor.Q
open Go.RowKit W1 W2 W3
namespace P
theorem wrapLaw{w:World}{A0 A1 A2 A3 At:Option Addr}{c0 c1 c2 c3 ct:Nat}(a:List LItem)(b:List LProfile)(c:List LPending)(d:List LNext)(ha:BItemS a)(hb:BProfileS b)(hc:BPendingS c)(hd:BNextS d)(t:List ByteArray)(hT:BStringS t)
 (hL:Nd.L4 w A0 c0 A1 c1 A2 c2 A3 c3 a b c d) (hLt:Kd.C Kd.string w At t.length t/\t.length<=ct) (hG:GOK w):
 Calls Tryz.prog 3 #[.agg #[.slice A0 a.length c0,.slice A1 b.length c1,.slice A2 c.length c2,.slice A3 d.length c3],.slice At t.length ct] w fun e w'=>e= .returned (.bool true)/\Below w.heap.size w w':=by
 obtain⟨r,e,hr⟩:=szWorld_ok a b c d ha hb hc hd;obtain⟨kz,hz⟩:=e.rounds;by_cases h0:r<0
 ·exact laws_FnExactWrap.much (ky:=0) (lg:=0) (lt:=t) (At:=At) (ct:=ct) hL hz h0
 obtain⟨r0,r1,H⟩:=hr.resolve_left h0;obtain⟨s,e',hs'⟩:=szStringS_ok t hT r r0 r1;obtain⟨ky,hy⟩:=e'.rounds;by_cases h1:s<0
 ·exact laws_FnExactWrap.much2 hL hLt hz h0 hy h1
 obtain⟨_,_,HT⟩:=hs'.resolve_left h1;obtain⟨kt,ht⟩:=(toWorld_ok H).rounds;obtain⟨ku,hu⟩:=(toStringS_ok t HT).rounds;rw[List.map_id] at hu;obtain⟨kw,hw⟩:=(eqWorld_ok H).rounds;obtain⟨kv,hv⟩:=(eqStringS_ok t HT.len).rounds;obtain⟨R,rb,e1,e2,hl⟩:=eWrap (sized H) t HT.len;obtain⟨ki,hi⟩:=e1.rounds;obtain⟨ks,hs⟩:=e2.rounds;obtain⟨ke,he⟩:=(eqEntryS_ok R yo_ (fun x hx=>⟨trivial⟩)).rounds;obtain⟨m,M,m1,m2,_,_,m5⟩:=mhEntry R.length 0 1 R yo_ yo_ yo_;obtain⟨km,hm⟩:=m1.rounds;obtain⟨kh,hh⟩:=m2.rounds;have f4:=Mk.tot_mul (f:=Mk.sStringS) (B:=1) (fun i=>by unfold Mk.sStringS;omega) t.length;have fw:=few15 H;have hlt:=HT.len;exact laws_FnExactWrap.calls hL hLt hG hz h0 hy h1 ht hu hs hi he hw hv (show laws_markEntryS.f km R 1=_ from hm) (show laws_heldEntryS.f kh M 1=_ from hh) yo_ yo_
end P
open Go.Deep
namespace P
def vG{H:Type}(enc:TypeId×Value->H)(W:World)(t:TypeId){α:Type}(k:Kd α)(B:α->Prop):Prop:=
 ∀fuel cs x,DataW.trod enc Tryz.prog W 0 (fun _=>true) true fuel t cs=some x->(∀n ∈ x.1.weights Tryz.prog t,n<=reachBytes)->∃a,k.K W a cs/\B a
def OpensF{H:Type}(enc:TypeId×Value->H)(W:World)(N:Nat)(fs:List Field)(off:Nat){α:Type}(k:Kd α)(B:α->Prop):Prop:=
 ∀(n:Nat) (cs:List Value) (xs:List (DataW H×List MemPlace)),cs.length=N->xs.length=fs.length->
  (∀(i:Nat) (f:Field),fs[i]?=some f->DataW.trod enc Tryz.prog W 0 (fun _=>true) true n f.type ((cs.drop f.offset).take (Tryz.prog.cellsOf f.type))=xs[i]?)->
  (∀m ∈ DataW.weightsEach Tryz.prog (fs.map (·.type)) (xs.map (·.1)),m<=reachBytes)->∃a,k.K W a (cs.drop off)/\B a
section
variable {H : Type} {enc : TypeId × Value -> H} {W : World}
theorem reach_big{n:Nat}(h:n<=reachBytes):n<=big:=by have:=reachBytes_lt;unfold big;omega
theorem vG.str{t:TypeId}(ht:Tryz.prog.underlying t=some .string):vG enc W t Kd.string (fun s=>s.size<=big):=by
 intro fuel cs x h hw;obtain⟨s,rfl,rfl,_⟩:=DataW.trod_string ht h;refine⟨s,rfl,reach_big ?_⟩;have:=hw s.data.toList.length (by simp[DataW.weights])
 rwa [Array.length_toList] at this
theorem vG.num{t:TypeId}{k:IntKind}(ht:Tryz.prog.underlying t=some (.int k)):vG enc W t (Kd.int k) (fun _=>True):=by
 intro fuel cs x h hw;obtain⟨n,rfl,rfl,_⟩:=DataW.trod_int ht h;exact⟨n,rfl,trivial⟩
theorem vG.bool{t:TypeId}(ht:Tryz.prog.underlying t=some .bool):vG enc W t Kd.bool (fun _=>True):=by
 intro fuel cs x h hw;obtain⟨n,rfl,rfl⟩:=DataW.trod_bool ht h;exact⟨n,rfl,trivial⟩
theorem list_lt{α:Type}{p:Nat->α->Prop}:∀n:Nat,(∀i,i<n->∃x,p i x)->∃l:List α,l.length=n/\∀i x,l[i]?=some x->p i x
 |0,_=>⟨[],rfl,fun i x h=>by simp at h⟩
 |n+1,h=>by
  obtain⟨l,hl,hp⟩:=list_lt n (fun i hi=>h i yo_);obtain⟨x,hx⟩:=h n yo_;refine⟨l++[x],by simp[hl],fun i y hy=>?_⟩;by_cases hi:i<l.length
  ·rw[List.getElem?_append_left hi] at hy;exact hp i y hy
  ·rw[List.getElem?_append_right yo_] at hy;have h0:i - l.length=0:=by
    rcases Nat.eq_zero_or_pos (i - l.length) with h0|h0
    ·exact h0
    ·rw[List.getElem?_eq_none (by simp;omega)] at hy;cases hy
   rw[h0] at hy;obtain rfl:x=y:=by simpa using hy
   rw[show i=n by omega];exact hx
theorem all_mem{P:Program}{e:TypeId}{b:Nat}:∀(l:List (DataW H)),(∀n ∈ DataW.weightsAll P e l,n<=b)->∀d ∈ l,∀n ∈ d.weights P e,n<=b
 |[],_,d,hd=>by cases hd
 |x::l,h,d,hd=>by
  intro n hn;rcases List.mem_cons.1 hd with rfl|hd
  ·exact h n (by simp[DataW.weightsAll,hn])
  ·exact all_mem l (fun m hm=>h m (by simp[DataW.weightsAll,hm])) d hd n hn
theorem vG.slice{t e:TypeId}{α:Type}{k:Kd α}{B:α->Prop}(ht:Tryz.prog.underlying t=some (.slice e))(hc:Tryz.prog.cellsOf e=k.sz)(hb:1<=Tryz.prog.bytesOf e)(h:vG enc W e k B):
 vG enc W t (Kd.slice e k) (fun l=>l.length<=big/\∀x ∈ l,B x):=by
 intro fuel cs x hx hw;rcases open_slice ht hx with⟨rfl,_⟩|⟨a,len,cap,m,n,D,Pl,rfl,_,hl,hm,hmm,rfl,hD⟩
 ·exact⟨[],⟨none,0,rfl,Nat.le_refl _,rfl,Nat.zero_le _,fun hp=>absurd hp (Nat.lt_irrefl _)⟩,Nat.zero_le _,fun x hx=>by cases hx⟩
 ·obtain rfl:m=cap:=by simpa using hmm
  simp only[DataW.weights,ht] at hw;have hlen:len<=big:=by
   have h1:=hw _ (List.mem_cons_self ..);simp only[List.length_map,List.length_range] at h1;refine reach_big (Nat.le_trans ?_ h1)
   calc len<=len+(m - len):=by omega
    _=(len+(m - len))*1:=by omega
    _<=_:=Nat.mul_le_mul_left _ hb
  have hall:∀i,i<len->∀n ∈ (D i).weights Tryz.prog e,n<=reachBytes:=fun i hi=>
   all_mem ((List.range len).map D) (fun n hn=>hw n (List.mem_cons_of_mem _ (List.mem_append_left _ hn))) (D i) (List.mem_map.2 ⟨i,List.mem_range.2 hi,rfl⟩)
  obtain⟨l,hll,hp⟩:=list_lt (p:=fun i (x:α)=>∃cs',W.cells? 0 (a.add (i*Tryz.prog.cellsOf e)) (Tryz.prog.cellsOf e)=some cs'/\k.K W x cs'/\B x) len (fun i hi=>by
   obtain⟨cs',h1,h2⟩:=hD i yo_;obtain⟨y,h3,h4⟩:=h _ _ _ h2 (hall i hi);exact⟨y,cs',h1,h3,h4⟩)
  refine⟨l,⟨some a,m,by rw[hll],by omega,rfl,by unfold big at hlen;omega,fun hpos=>⟨a,rfl,fun j p hj=>?_⟩⟩,by omega,fun x hxm=>?_⟩
  ·obtain⟨cs',h1,h2,_⟩:=hp j p hj;obtain⟨_,h3,h4⟩:=World.cells?_some h1;refine⟨cs',h3.trans hc,h2,fun i u hu=>?_⟩;have hi:i<cs'.length:=(List.getElem?_eq_some_iff.1 hu).1;rw[<-hu,<-h4 i yo_,Deep.add_add,hc]
  ·obtain⟨j,hj⟩:=List.getElem?_of_mem hxm;obtain⟨_,_,_,h3⟩:=hp j x hj;exact h3
theorem vG.last{N:Nat}{f:Field}{off:Nat}{α:Type}{k:Kd α}{B:α->Prop}(ho:f.offset=off)(hn:off+Tryz.prog.cellsOf f.type=N)(h:vG enc W f.type k B):OpensF enc W N [f] off k B:=by
 intro n cs xs hl hx hf hw
 match xs,hx with
 |[x],_=>
  have h0:=hf 0 f rfl;rw[ho,List.take_of_length_le (by rw[List.length_drop];omega)] at h0;exact h n _ x h0 (fun m hm=>hw m (by simp[DataW.weightsEach,hm]))
theorem vG.cons{N:Nat}{f:Field}{fs:List Field}{off:Nat}{α β:Type}{k:Kd α}{k':Kd β}{B:α->Prop}{B':β->Prop}(ho:f.offset=off)(h:vG enc W f.type k B)(hs:OpensF enc W N fs (off+Tryz.prog.cellsOf f.type) k' B'):
 OpensF enc W N (f::fs) off (Kd.pair k k') (fun p=>B p.1/\B' p.2):=by
 intro n cs xs hl hx hf hw
 match xs,hx with
 |x::xs,hx=>
  have h0:=hf 0 f rfl;rw[ho] at h0;obtain⟨a,h1,h2⟩:=h n _ x h0 (fun m hm=>hw m (by simp only[List.map_cons,DataW.weightsEach];exact List.mem_append_left _ hm));obtain⟨b,h3,h4⟩:=hs n cs xs hl (by simpa using hx) (fun i g hg=>hf (i+1) g hg) (fun m hm=>hw m (by simp only[List.map_cons,DataW.weightsEach];exact List.mem_append_right _ hm));refine⟨(a,b),⟨_,_,?_,h1,h3⟩,h2,h4⟩;rw[<-List.drop_drop,List.take_append_drop]
theorem vG.struct{t:TypeId}{fs:Array Field}{α β:Type}{k:Kd α}{B:α->Prop}{f:β->α}(ht:Tryz.prog.underlying t=some (.struct fs))(h:OpensF enc W (Tryz.prog.cellsOf t) fs.toList 0 k B)(g:α->β)(hg:∀a,f (g a)=a):
 vG enc W t (Kd.iso k f) (fun x=>B (f x)):=by
 intro fuel cs x hx hw;obtain⟨xs,n,_,rfl,hl,hlen,hf⟩:=DataW.trod_struct ht hx;simp only[DataW.weights,ht] at hw;obtain⟨a,h1,h2⟩:=h n cs xs hl (by simpa using hlen) (fun i f hf'=>hf i f (by simpa using hf')) hw;refine⟨g a,?_,?_⟩
 ·show k.K W (f (g a)) cs
  rw[hg];simpa using h1
 ·show B (f (g a))
  rw[hg];exact h2
theorem vG.imp{t:TypeId}{α:Type}{k:Kd α}{B B':α->Prop}(h:vG enc W t k B)(hi:∀a,B a->B' a):vG enc W t k B':=fun n cs x hx hw=>by
 obtain⟨a,h1,h2⟩:=h n cs x hx hw;exact⟨a,h1,hi a h2⟩
end
end P
end Go.Proofs.YtgccknmddhbdgaaGreatDoor.Q
namespace Go.Proofs.YtgccknmddhbdgaaGreatDoor.Law
open Go.ChangeShapes Go.WideShapes Go.ChangeAt Go.RowKit Go.Deep
open Q Q.P W1 W2 W3
section
variable {H : Type} {enc : TypeId × Value -> H} {W : World}
theorem oStr:vG enc W 9 Kd.string (fun s=>s.size<=big):=vG.str Tryz.underlying9
theorem oEntry:vG enc W 140 k140 BEntry:=
 (vG.struct Tryz.underlying140 (vG.cons rfl oStr (vG.cons (by kernel_rfl) (vG.num Tryz.underlying2) (vG.cons (by kernel_rfl) oStr (vG.last (by kernel_rfl) (by kernel_rfl) (vG.bool Tryz.underlying4)))))
  (fun p=>⟨p.1,p.2.1,p.2.2.1,p.2.2.2⟩) (fun _=>rfl)).imp fun a h=>⟨h.1,h.2.2.1⟩
theorem oEntryS:vG enc W 77 (Kd.slice 140 k140) BEntryS:=
 (vG.slice Tryz.underlying77 (by kernel_rfl) (of_decide_eq_true (by kernel_rfl)) oEntry).imp fun a h=>⟨h.1,h.2⟩
theorem oStringS:vG enc W 28 (Kd.slice 9 Kd.string) BStringS:=
 (vG.slice Tryz.underlying28 (by kernel_rfl) (of_decide_eq_true (by kernel_rfl)) oStr).imp fun a h=>⟨h.1,h.2⟩
theorem oItem:vG enc W 79 k79 BItem:=
 (vG.struct Tryz.underlying79 (vG.cons rfl oStr (vG.cons (by kernel_rfl) oStr (vG.cons (by kernel_rfl) oStringS (vG.cons (by kernel_rfl) oStr (vG.last (by kernel_rfl) (by kernel_rfl) oEntryS)))))
  (fun p=>⟨p.1,p.2.1,p.2.2.1,p.2.2.2.1,p.2.2.2.2⟩) (fun _=>rfl)).imp fun a h=>⟨h.1,h.2.1,h.2.2.1,h.2.2.2.1,h.2.2.2.2⟩
theorem oGen:vG enc W 142 k142 BGen:=
 (vG.struct Tryz.underlying142 (vG.cons rfl (vG.num Tryz.underlying2) (vG.last (by kernel_rfl) (by kernel_rfl) oStr)) (fun p=>⟨p.1,p.2⟩) (fun _=>rfl)).imp fun a h=>⟨h.2⟩
theorem oGenS:vG enc W 81 (Kd.slice 142 k142) BGenS:=
 (vG.slice Tryz.underlying81 (by kernel_rfl) (of_decide_eq_true (by kernel_rfl)) oGen).imp fun a h=>⟨h.1,h.2⟩
theorem oProfile:vG enc W 83 k83 BProfile:=
 (vG.struct Tryz.underlying83 (vG.cons rfl oStr (vG.cons (by kernel_rfl) (vG.num Tryz.underlying2) (vG.last (by kernel_rfl) (by kernel_rfl) oGenS))) (fun p=>⟨p.1,p.2.1,p.2.2⟩) (fun _=>rfl)).imp fun a h=>⟨h.1,h.2.2⟩
theorem oPending:vG enc W 86 k86 BPending:=
 (vG.struct Tryz.underlying86 (vG.cons rfl oStr (vG.cons (by kernel_rfl) oEntryS (vG.last (by kernel_rfl) (by kernel_rfl) oStr))) (fun p=>⟨p.1,p.2.1,p.2.2⟩) (fun _=>rfl)).imp fun a h=>⟨h.1,h.2.1,h.2.2⟩
theorem oNext:vG enc W 89 k89 BNext:=
 (vG.struct Tryz.underlying89 (vG.cons rfl oStr (vG.last (by kernel_rfl) (by kernel_rfl) oStr)) (fun p=>⟨p.1,p.2⟩) (fun _=>rfl)).imp fun a h=>⟨h.1,h.2⟩
theorem oItemS:vG enc W 22 (Kd.slice 79 k79) BItemS:=
 (vG.slice Tryz.underlying22 (by kernel_rfl) (of_decide_eq_true (by kernel_rfl)) oItem).imp fun a h=>⟨h.1,h.2⟩
theorem oProfileS:vG enc W 23 (Kd.slice 83 k83) BProfileS:=
 (vG.slice Tryz.underlying23 (by kernel_rfl) (of_decide_eq_true (by kernel_rfl)) oProfile).imp fun a h=>⟨h.1,h.2⟩
theorem oPendingS:vG enc W 24 (Kd.slice 86 k86) BPendingS:=
 (vG.slice Tryz.underlying24 (by kernel_rfl) (of_decide_eq_true (by kernel_rfl)) oPending).imp fun a h=>⟨h.1,h.2⟩
theorem oNextS:vG enc W 25 (Kd.slice 89 k89) BNextS:=
 (vG.slice Tryz.underlying25 (by kernel_rfl) (of_decide_eq_true (by kernel_rfl)) oNext).imp fun a h=>⟨h.1,h.2⟩
end
theorem own:ownKnob Tryz.prog.godebug=none:=by kernel_rfl
theorem laidOut:laidOutB Tryz.prog=true:=by kernel_rfl
def laid:List (String×DataW Unit):=Rows.fnExactWrapRow.laid
theorem wrap{H:Type}{enc:TypeId×Value->H}{a:Assume}{C:Checked}{os:Os}{f:FuncId}{fn:Func}{s:ChangeSpec}{apart fresh handsOn again:Bool}{X:World->Array Value->Prop}
 (own:ownKnob C.prog.godebug=none) (started:os.Started) (noInit:C.prog.inits.idxOf? f=none) (hfn:C.prog.funcs[f]?=some fn)
 (witness:∃(w:World) (tape:Tape) (i:Input),w.os=os/\(w.forCall tape i).Shaped C.prog/\i.vars=[]/\Input.okWide C.prog (w.forCall tape i) .any w.heap.size f i/\
  ((s.pre enc C.prog fn [] apart (w.forCall tape i).memory i.args/\X (w.forCall tape i).memory i.args)/\sizedMet enc C.prog fn (OpenSpec.ofChange s) apart (w.forCall tape i).memory i.args)/\a.holds C.prog (lone (Frame.enter C.prog f i.args .normal) [] (w.forCall tape i)))
 (contract:∀(W:World) (base:Nat) (args:Array Value) (ds gs:List (DataW H)) (before:List MemPlace),
  (∀(j:Nat) t v,fn.params[j]?=some t->args[j]?=some v->Value.okWide C.prog W .any base t v)->
  DataW.Whole enc C.prog fn.params.toList s.vars apart W args.toList ds gs before->
  (DataW.weightsEach C.prog (fn.params.toList++s.plain.varTypes C.prog) (ds++gs)).all (· <=reachBytes)=true->
  W.ShapedOpen C.prog->
  Calls C.prog f args W fun e W'=>∃v,e= .returned v/\s.post enc C.prog fn apart fresh handsOn again W args v W'):
 ReturnsInHanded a C os f .any (fun w args=>(s.pre enc C.prog fn [] apart w args/\X w args)/\sizedMet enc C.prog fn (OpenSpec.ofChange s) apart w args) (s.post enc C.prog fn apart fresh handsOn again):=by
 refine returnsInHanded_of_calls own started noInit witness ?_;intro w tape i _ hsh _ hok hpre _;obtain⟨_,_,_,fn',hfn',_,_,_,_,hval⟩:=hok;have e:fn'=fn:=Option.some.inj (hfn'.symm.trans hfn);subst e;obtain⟨⟨⟨ds,gs,before,hw,_⟩,_⟩,hz⟩:=hpre;have hw':=DataW.Whole.of_heap (w':=w.forCall tape i) (by rfl) hw;refine(contract (w.forCall tape i) w.heap.size i.args ds gs before hval hw' (hz.weights hw) hsh).mono fun e W' ⟨v,he,hp⟩=>?_;subst he;exact ChangeSpec.post_blind hp
set_option maxRecDepth 100000 in
set_option maxHeartbeats 1000000 in
theorem lifted(os:Os)(started:os.Started)(H:Type)(enc:TypeId×Value->H):
 ReturnsInHanded {} Tryz.checked os 3 .any (fun w args=>(Rows.fnExactWrapSpec.pre enc Tryz.prog Tryz.f3 [] false w args/\laidMetH Tryz.prog laid w)/\sizedMet enc Tryz.prog Tryz.f3 (OpenSpec.ofChange Rows.fnExactWrapSpec) false w args)
  (Rows.fnExactWrapSpec.post enc Tryz.prog Tryz.f3 false true false false):=by
 refine wrap (C:=Tryz.checked) (X:=fun w _=>laidMetH Tryz.prog laid w) own started (by kernel_rfl) Tryz.func3
  (ChangeSpec.witness_shaped (enc:=enc) (C:=Tryz.checked) (os:=os) (X:=fun w _=>laidMetH Tryz.prog laid w) false (World.laidAll Tryz.prog os laid) #[.agg #[.slice none 0 0,.slice none 0 0,.slice none 0 0,.slice none 0 0],.slice none 0 0] 8 (World.laidAll_os _ _ _)
   (World.shaped_of_ZipB (by kernel_rfl) (by kernel_rfl)) (by kernel_rfl) (by kernel_rfl) (by kernel_rfl)
   (by rw[MakeChecks.laidMetH_plain _ _ _ (by kernel_rfl)];exact laidMet_laidAll _ (by kernel_rfl) (by kernel_rfl))) ?_
 intro W base args ds gs before hval0 hW hsz0 hsh;have hsz:(DataW.weightsEach Tryz.prog (Tryz.f3.params.toList++Rows.fnExactWrapSpec.plain.varTypes Tryz.prog) (ds++gs)).all (· <=reachBytes)=true:=hsz0;have hval:∀(j:Nat) t v,Tryz.f3.params[j]?=some t->args[j]?=some v->Value.okWide Tryz.prog W .any base t v:=hval0;have hW':=hW;obtain⟨p,q,hA0,hV,rfl,_,_⟩:=hW;have hA:DataW.TrodAll enc Tryz.prog W 0 (fun _=>true) true Tryz.f3.params.toList args.toList ds p:=hA0;rw[Tryz.params3] at hA hval hsz;obtain⟨v0,v1,d0,d1,p0,p1,rfl,rfl,rfl,h0,h1⟩:=trodAll_two hA;obtain⟨rfl,rfl⟩:=trodVars_none hV;have h0k:=h0;have h1k:=h1;have lt0:∀x ∈ p0,x.block<W.heap.size:=by obtain⟨m,hm⟩:=h0k;exact DataW.trod_lt m _ _ _ hm
 have lt1:∀x ∈ p1,x.block<W.heap.size:=by obtain⟨m,hm⟩:=h1k;exact DataW.trod_lt m _ _ _ hm
 obtain⟨s_,l_,c_,rfl⟩:=okWide_slice Tryz.underlying28 (hval 1 28 v1 rfl rfl);obtain⟨w0,w1,w2,w3,y0,y1,y2,y3,n,rfl,rfl,rfl,h0a,h0b,h0c,h0d⟩:=Joins.open_agg4 Tryz.underlying27 (by kernel_rfl) (by kernel_rfl) (hval 0 27 v0 rfl rfl) h0;have hz:∀m ∈ DataW.weightsEach Tryz.prog [22,23,24,25] [y0.1,y1.1,y2.1,y3.1],m<=reachBytes:=fun m hm=>by
  have:=List.all_eq_true.1 hsz m (DataW.weights_mem_each (j:=0) (t:=27) (d:= .agg [y0.1,y1.1,y2.1,y3.1]) rfl rfl m (by simp only[DataW.weights,Tryz.underlying27];exact hm));simpa using this
 simp only[DataW.weightsEach,List.mem_append] at hz;obtain⟨l0,⟨A0,c0,e0,hc0,hr0⟩,b0⟩:=oItemS (enc:=enc) (W:=W) n [w0] y0 h0a (fun m hm=>hz m (.inl hm));obtain⟨l1,⟨A1,c1,e1,hc1,hr1⟩,b1⟩:=oProfileS (enc:=enc) (W:=W) n [w1] y1 h0b (fun m hm=>hz m (.inr (.inl hm)));obtain⟨l2,⟨A2,c2,e2,hc2,hr2⟩,b2⟩:=oPendingS (enc:=enc) (W:=W) n [w2] y2 h0c (fun m hm=>hz m (.inr (.inr (.inl hm))));obtain⟨l3,⟨A3,c3,e3,hc3,hr3⟩,b3⟩:=oNextS (enc:=enc) (W:=W) n [w3] y3 h0d (fun m hm=>hz m (.inr (.inr (.inr (.inl hm)))));simp only[List.cons.injEq,and_true] at e0 e1 e2 e3;subst e0 e1 e2 e3;obtain⟨m,hm⟩:=cell_of_shapedOpen_int (P:=Tryz.prog) (g:=0) (t:=3) (zero:= #[.int .i64 0]) hsh (of_decide_eq_true (by kernel_rfl)) (by kernel_rfl) rfl (by kernel_rfl) (by kernel_rfl) Tryz.underlying3;obtain⟨n2,hn2⟩:=h1;have hz2:∀m ∈ d1.weights Tryz.prog 28,m<=reachBytes:=fun m hm=>by
  have:=List.all_eq_true.1 hsz m (DataW.weights_mem_each (j:=1) (t:=28) (d:=d1) rfl rfl m hm);simpa using this
 obtain⟨lt,⟨At,ct,et,hct,hrt⟩,bt⟩:=oStringS (enc:=enc) (W:=W) n2 [.slice s_ l_ c_] (d1,p1) hn2 hz2;simp only[List.cons.injEq,and_true,Value.slice.injEq] at et;obtain⟨rfl,rfl,rfl⟩:=et;refine(wrapLaw l0 l1 l2 l3 b0 b1 b2 b3 lt bt ⟨hr0,hc0,hr1,hc1,hr2,hc2,hr3,hc3⟩ ⟨hrt,hct⟩ ⟨m,hm⟩).mono fun e W' ⟨he,bel⟩=>?_;subst he;refine⟨_,rfl,_,_,_,[],_,[],hW',trodAll_mk1 (shut_bool Tryz.underlying4 _),trodAll_mk2 (Below.trod laidOut (by kernel_rfl) (of_decide_eq_true (by kernel_rfl)) h0k bel lt0) (Below.trod laidOut (by kernel_rfl) (of_decide_eq_true (by kernel_rfl)) h1k bel lt1),rfl,bel.frame _,fun h=>by cases h⟩
theorem holds:Rows.fnExactWrapRow.holds Tryz.pinned (OpenSpec.ofChange Rows.fnExactWrapSpec):=
 OpenClaim.holds_of_wide 3 Tryz.f3 rfl rfl rfl rfl rfl rfl rfl ⟨rfl,rfl,rfl,rfl,rfl⟩ rfl rfl rfl rfl rfl (by kernel_rfl) Tryz.func3 (by kernel_rfl)
  (of_decide_eq_true (by kernel_rfl)) (by unfold Func.isWrapper;first|(rw[if_pos (by decide+kernel)];kernel_rfl)|(rw[if_neg (by decide+kernel)];exact⟨rfl,rfl⟩))
  (fun os started H enc _=>lifted os started H enc)
theorem card_holds:Rows.FnExactWrapCardSaid:=
 Claim7.holds_tied_plain_at .later [] [.data,.pinned] true _ false holds (fun _ h=>by cases h) (by kernel_rfl) (fun _ h=>by cases h) fnExactWrap_row_tie rfl ⟨rfl,rfl⟩ (by kernel_rfl) rfl
  (fun f fn hf hfn=>by
   obtain rfl:f=3:=Option.some.inj ((show Tryz.prog.funcNamed "loop.example/g00023/laws.FnExactWrap"=some 3 by kernel_rfl).symm.trans hf)|>.symm
   obtain rfl:fn=Tryz.f3:=(Option.some.inj (Tryz.func3.symm.trans hfn)).symm;exact⟨by kernel_rfl,fun j t ht=>by
    rw[Tryz.params3] at ht;have hm:t ∈ [27,28]:=by simpa using Array.mem_of_getElem? ht
    have hall:([27,28].all fun u=> !Tryz.prog.wantsStandIn u)=true:=by kernel_rfl
    exact(show Tryz.prog.wantsStandIn t=false by simpa using List.all_eq_true.1 hall t hm)⟩)
  (by kernel_rfl)
#print axioms card_holds
end Go.Proofs.YtgccknmddhbdgaaGreatDoor.Law
