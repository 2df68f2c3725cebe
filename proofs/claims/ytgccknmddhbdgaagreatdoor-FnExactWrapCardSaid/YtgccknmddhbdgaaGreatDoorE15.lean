import Derived.Maps.OwnSet
import Derived.Test.YtgccknmddhbdgaaGreatDoorE13
namespace Go.Proofs.YtgccknmddhbdgaaGreatDoor.Q
open Go.RowKit W1 W2 W3
attribute [local go_sem] max2_int min2_int max_two min_two max_three min_three max_four min_four
attribute [local go_sem high] bl_leq bl_gtr bl_geq
set_option maxHeartbeats 8000000
set_option maxRecDepth 100000
namespace MapB
open Go.WideMaps Go.Maps
def of:List ByteArray->DataW Unit
 |[]=> .map []
 |s::ds=>(of ds).put (.string s.data.toList) (.lit (.bool true))
theorem isMap:∀ds,IsMap (of ds)
 |[]=>isMap_empty
 |_::ds=>(isMap ds).put _ _
theorem at_(u:ByteArray):∀ds,(of ds).atKey (.string u.data.toList) (.lit (.bool false))= .lit (.bool (MapSet.has u ds))
 |[]=>rfl
 |s::ds=>by
  by_cases h:u.data.toList=s.data.toList
  ·have e:MapSet.has u (s::ds)=true:=by simp[MapSet.has,h]
   rw[of];rw[h,atKey_put_same (k:= .string s.data.toList) (isMap ds) trivial,e]
  ·have hne:(Lit.string u.data.toList)≠ .string s.data.toList:=fun e=>h (by injection e);have e:MapSet.has u (s::ds)=MapSet.has u ds:=by rw[MapSet.has,List.any_cons,decide_eq_false h];rfl
   rw[of,atKey_put_other hne,at_ u ds,e]
theorem has_dd(x:List UInt8):∀ds,Maps.has (of ds) (.string x)=true↔ ∃s ∈ ds,s.data.toList=x
 |[]=>by simp[of,has_eq]
 |s::ds=>by
  have ih:=has_dd x ds;unfold of;by_cases h:x=s.data.toList
  ·subst h;rw[has_put_same (isMap ds) (show WideAt.IsKeyLit (.string s.data.toList) from trivial)];exact⟨fun _=>⟨s,List.mem_cons_self ..,rfl⟩,fun _=>rfl⟩
  ·have hne:(Lit.string x)≠ .string s.data.toList:=fun e=>h (by injection e);rw[has_put_other hne,ih];constructor
   ·rintro⟨t,ht,e⟩;exact⟨t,List.mem_cons_of_mem _ ht,e⟩
   ·rintro⟨t,ht,e⟩;rcases List.mem_cons.1 ht with rfl|ht
    ·exact absurd e.symm h
    ·exact⟨t,ht,e⟩
theorem zero(w:World):(zeroValue 4).run Tryz.prog w= .ok (.bool false) w:=by kernel_rfl
def MS(w:World)(b:Nat)(ds:List ByteArray):Prop:=w.ownsMap Tryz.prog 9 (plainElem (H:=Unit) Tryz.prog 4) b ds.length (of ds)
theorem MS.below{w W:World}{b:Nat}{ds:List ByteArray}(h:MS w b ds)(hb:Below w.heap.size w W):MS W b ds:=
 World.ownsMap.kept (row:=none) h ⟨hb.os,hb.tape,hb.output,hb.size,fun k hk _=>hb.block k hk⟩ (by simp)
theorem MS.drewN{w:World}{b:Nat}{ds:List ByteArray}(h:MS w b ds)(m:Nat):MS (w.drewN m) b ds:=h.below (qQ (Below.refl _ _) m)
theorem MS.drew{w:World}{b:Nat}{ds:List ByteArray}(h:MS w b ds):MS w.drew b ds:=h
theorem MS.alloc{w:World}{b:Nat}{ds:List ByteArray}(h:MS w b ds)(o:Obj):MS (w.alloc o) b ds:=h.below (qS (Below.refl _ _) o)
theorem MS.kept{w w1:World}{b:Nat}{ds:List ByteArray}{row:Option Nat}(h:MS w b ds)(hg:w.grownBy w1 row)(hne:some b≠row):MS w1 b ds:=World.ownsMap.kept h hg hne
theorem MS.lt{w:World}{b:Nat}{ds:List ByteArray}(h:MS w b ds):b<w.heap.size:=World.ownsMap.lt h
theorem zm{P Q:Prop}(q:Q)(f:Q->P:=by intro q;(with_reducible repeat(first|apply MapB.MS.alloc|apply MapB.MS.drewN|apply MapB.MS.drew));exact q):P:=f q
theorem plain{P:Program}{e:TypeId}(he:P.underlying e=some .bool){v:Value}{z:DataW Unit×List MemPlace}(h:plainElem P e v=some z):∃c:Bool,v= .bool c/\z=(.lit (.bool c),[]):=by
 unfold plainElem at h;rw[he] at h;cases v<;>simp at h;exact⟨_,rfl,h.symm⟩
def put(ds:List ByteArray)(s:ByteArray):Option (List ByteArray):=if s.size<=140737488355328/\ds.length<4194304 then some (s::ds) else none
def get(ds:List ByteArray)(s:ByteArray):Option Bool:=if s.size<=140737488355328 then some (MapSet.has s ds) else none
section
variable {ops : Array Oper} {rest : List Oper} {o : Oper} {a : Act} {Q : Exit -> Act -> World -> Prop} {W : World} {b : Nat} {ds : List ByteArray}
theorem make_event(hgd:o.guard=none){N:Tmp}(hd:o.dst=some N){t:TypeId}(ho:o.op= .makeMap t none)
 (h:∀g w1,W.heap.size<=g->MS w1 g []->Below W.heap.size W w1->wpList Tryz.prog ops Q rest (a.put o.dst (.map (some g))) w1):wpList Tryz.prog ops Q (o::rest) a W:=by
 refine Kd.event_run hgd (w1:=W.alloc (.map #[] 0)) (v:= .map (some W.heap.size)) ?_ (h _ _ (Nat.le_refl _) (World.ownsMap_made _ _ _ _) (qS (Below.refl _ _) _));unfold execOp;simp[ho,Instr.makeMap]
theorem put_event(hgd:o.guard=none){m k:Tmp}(ho:o.op= .mapUpdate 109 (.tmp m) (.tmp k) (.const (.bool true))){s:ByteArray}(hm:a.eval (.tmp m)= .map (some b))(hk:a.eval (.tmp k)= .string s)
 (hM:MS W b ds) {ds':List ByteArray} (hp:put ds s=some ds')
 (h:∀w1,MS w1 b ds'->W.grownBy w1 (some b)->wpList Tryz.prog ops Q rest (a.put o.dst undef) w1):wpList Tryz.prog ops Q (o::rest) a W:=by
 unfold put at hp;split at hp
 ·rename_i hc
  obtain rfl:=Option.some.inj hp;exact wpList_mapUpdate_own W hgd (.tmp m) (.tmp k) (.const (.bool true)) 109 ho 9 4 MapSet.keyed Tryz.underlying109 _ b ds.length (of ds) hm hM (by simp only[maxLen];omega) _ _ _ hk rfl (MapSet.key s (Nat.le_trans hc.1 yd_)) (.lit (.bool true)) [] (plainElem_bool Tryz.underlying4 _) (fun w1 h1 h2=>h w1 h1 h2)
 ·exact absurd hp (by simp)
theorem get_event(hgd:o.guard=none){m k:Tmp}(ho:o.op= .lookup 109 (.tmp m) (.tmp k) false){s:ByteArray}(hm:a.eval (.tmp m)= .map (some b))(hk:a.eval (.tmp k)= .string s)
 (hM:MS W b ds) {c:Bool} (hp:get ds s=some c) (h:wpList Tryz.prog ops Q rest (a.put o.dst (.bool c)) W):wpList Tryz.prog ops Q (o::rest) a W:=by
 unfold get at hp;split at hp
 ·rename_i hc
  obtain⟨v,ps,hrun,hv⟩:=World.ownsMap.lookup hM MapSet.keyed Tryz.underlying109 (zero W) (plainElem_bool Tryz.underlying4 false) (MapSet.key s (Nat.le_trans hc yd_));obtain⟨c',rfl,e⟩:=plain Tryz.underlying4 hv;rw[at_] at e;simp only[Prod.mk.injEq,DataW.lit.injEq,Lit.bool.injEq] at e;obtain rfl:=Option.some.inj hp;rw[<-e.1] at hrun;refine Kd.event_run hgd ?_ h;unfold execOp;simp only[ho,hm,hk,Sem.run_bind,hrun,Result.andThen_ok];rfl
 ·exact absurd hp (by simp)
end
end MapB
namespace MapE
open Go.WideMaps Go.Maps
abbrev E:=S63
abbrev z:E:=z63
def val(e:E):Value:= .agg #[.string e.f0,.int .i64 e.f1,.string e.f2,.bool e.f3]
def enc(e:E):DataW Unit:= .agg [.lit (.string e.f0.data.toList),.lit (.int .i64 e.f1),.lit (.string e.f2.data.toList),.lit (.bool e.f3)]
def rv:Value->Option (DataW Unit×List MemPlace)
 | .agg ⟨[.string p,.int .i64 k,.string d,.bool x]⟩=>some (enc ⟨p,k,d,x⟩,[])
 |_=>none
theorem rv_val(e:E):rv (val e)=some (enc e,[]):=rfl
theorem rv_inv{v:Value}{y:DataW Unit×List MemPlace}(h:rv v=some y):∃e,v=val e/\y=(enc e,[]):=by
 unfold rv at h;split at h
 ·exact⟨_,rfl,(Option.some.inj h).symm⟩
 ·exact absurd h (by simp)
theorem enc_inj{a b:E}(h:enc a=enc b):a=b:=by
 obtain⟨p,k,d,x⟩:=a;obtain⟨p',k',d',x'⟩:=b;simp only[enc,DataW.agg.injEq,List.cons.injEq,DataW.lit.injEq,Lit.string.injEq,Lit.int.injEq,Lit.bool.injEq,and_true,true_and] at h;obtain⟨h0,h1,h2,h3⟩:=h;have dj:∀{a b:ByteArray},a.data.toList=b.data.toList->a=b:=fun{a b} h=>by cases a with|mk x=>cases b with|mk y=>cases x;cases y;simp_all
 rw[dj h0,h1,dj h2,h3]
def of:List E->DataW Unit
 |[]=> .map []
 |e::es=>(of es).put (.string e.f0.data.toList) (enc e)
def get(u:ByteArray):List E->Option E
 |[]=>none
 |e::es=>if u.data.toList=e.f0.data.toList then some e else get u es
theorem isMap:∀es,IsMap (of es)
 |[]=>isMap_empty
 |_::es=>(isMap es).put _ _
theorem at_(u:ByteArray):∀es,(of es).atKey (.string u.data.toList) (enc z)=enc ((get u es).getD z)
 |[]=>rfl
 |e::es=>by
  by_cases h:u.data.toList=e.f0.data.toList
  ·rw[of,get,if_pos h,h,atKey_put_same (k:= .string e.f0.data.toList) (isMap es) trivial];rfl
  ·have hne:(Lit.string u.data.toList)≠ .string e.f0.data.toList:=fun e=>h (by injection e);rw[of,get,if_neg h,atKey_put_other hne,at_ u es]
theorem has_(u:ByteArray):∀es,Maps.has (of es) (.string u.data.toList)=(get u es).isSome
 |[]=>by simp[of,has_eq,get]
 |e::es=>by
  by_cases h:u.data.toList=e.f0.data.toList
  ·rw[of,get,if_pos h,h,has_put_same (isMap es) (show WideAt.IsKeyLit (.string e.f0.data.toList) from trivial)];rfl
  ·have hne:(Lit.string u.data.toList)≠ .string e.f0.data.toList:=fun e=>h (by injection e);rw[of,get,if_neg h,has_put_other hne,has_ u es]
theorem has_x(x:List UInt8):∀es,Maps.has (of es) (.string x)=true↔ ∃e ∈ es,e.f0.data.toList=x
 |[]=>by simp[of,has_eq]
 |e::es=>by
  have ih:=has_x x es;unfold of;by_cases h:x=e.f0.data.toList
  ·subst h;rw[has_put_same (isMap es) (show WideAt.IsKeyLit (.string e.f0.data.toList) from trivial)];exact⟨fun _=>⟨e,List.mem_cons_self ..,rfl⟩,fun _=>rfl⟩
  ·have hne:(Lit.string x)≠ .string e.f0.data.toList:=fun e=>h (by injection e);rw[has_put_other hne,ih];constructor
   ·rintro⟨t,ht,e⟩;exact⟨t,List.mem_cons_of_mem _ ht,e⟩
   ·rintro⟨t,ht,e⟩;rcases List.mem_cons.1 ht with rfl|ht
    ·exact absurd e.symm h
    ·exact⟨t,ht,e⟩
theorem out_size{o:List E}(h:(o.all fun e=>decide (e.f0.size<=140737488355328))=true){u:ByteArray}(hu:u ∈ impl_sorted.out (o.map (·.f0))):u.size<=140737488355328:=by
 unfold impl_sorted.out at hu;obtain⟨l,hl,rfl⟩:=List.mem_map.1 hu;obtain⟨s,hs,rfl⟩:=(impl_sorted.dd_mem l _).1 (List.mem_mergeSort.1 hl);obtain⟨e,he,rfl⟩:=List.mem_map.1 hs;have:=of_decide_eq_true (List.all_eq_true.1 h e he);exact this
theorem zero(w:World):(zeroValue 63).run Tryz.prog w= .ok (val z) w:=by kernel_rfl
def MS(w:World)(b:Nat)(es:List E):Prop:=w.ownsMap Tryz.prog 9 rv b es.length (of es)
theorem MS.below{w W:World}{b:Nat}{es:List E}(h:MS w b es)(hb:Below w.heap.size w W):MS W b es:=
 World.ownsMap.kept (row:=none) h ⟨hb.os,hb.tape,hb.output,hb.size,fun k hk _=>hb.block k hk⟩ (by simp)
theorem MS.drewN{w:World}{b:Nat}{es:List E}(h:MS w b es)(m:Nat):MS (w.drewN m) b es:=h.below (qQ (Below.refl _ _) m)
theorem MS.drew{w:World}{b:Nat}{es:List E}(h:MS w b es):MS w.drew b es:=h
theorem MS.alloc{w:World}{b:Nat}{es:List E}(h:MS w b es)(o:Obj):MS (w.alloc o) b es:=h.below (qS (Below.refl _ _) o)
theorem MS.kept{w w1:World}{b:Nat}{es:List E}{row:Option Nat}(h:MS w b es)(hg:w.grownBy w1 row)(hne:some b≠row):MS w1 b es:=World.ownsMap.kept h hg hne
theorem MS.lt{w:World}{b:Nat}{es:List E}(h:MS w b es):b<w.heap.size:=World.ownsMap.lt h
theorem zm{P Q:Prop}(q:Q)(f:Q->P:=by intro q;(with_reducible repeat(first|apply MapE.MS.alloc|apply MapE.MS.drewN|apply MapE.MS.drew));exact q):P:=f q
theorem kept_blk{W wp:World}{g b:Nat}{o:Obj}(h:W.heap[g]?=some o)(hg:W.grownBy wp (some b))(hne:g≠b):wp.heap[g]?=some o:=
 (hg.block g (Array.getElem?_eq_some_iff.1 h).1 (fun e=>hne (Option.some.inj e))).trans h
def room(es:List E)(s:ByteArray):Bool:=decide (s.size<=140737488355328/\es.length<4194304)
section
variable {ops : Array Oper} {rest : List Oper} {o : Oper} {a : Act} {Q : Exit -> Act -> World -> Prop} {W : World} {b : Nat} {es : List E}
theorem gate_put{t:TypeId}{m k:Tmp}{v:Operand}(_ho:o.op= .mapUpdate t (.tmp m) (.tmp k) v)(h:wpList Tryz.prog ops Q (o::rest) a W):wpList Tryz.prog ops Q (o::rest) a W:=h
theorem gate_get{t:TypeId}{m k:Tmp}{c:Bool}(_ho:o.op= .lookup t (.tmp m) (.tmp k) c)(h:wpList Tryz.prog ops Q (o::rest) a W):wpList Tryz.prog ops Q (o::rest) a W:=h
theorem make_event(hgd:o.guard=none){N:Tmp}(hd:o.dst=some N){t:TypeId}(ho:o.op= .makeMap t none)
 (h:∀g w1,W.heap.size<=g->MS w1 g []->Below W.heap.size W w1->wpList Tryz.prog ops Q rest (a.put o.dst (.map (some g))) w1):wpList Tryz.prog ops Q (o::rest) a W:=by
 refine Kd.event_run hgd (w1:=W.alloc (.map #[] 0)) (v:= .map (some W.heap.size)) ?_ (h _ _ (Nat.le_refl _) (World.ownsMap_made _ _ _ _) (qS (Below.refl _ _) _));unfold execOp;simp[ho,Instr.makeMap]
theorem put_event(hgd:o.guard=none){m k v:Operand}(ho:o.op= .mapUpdate 58 m k v){e:E}{s:ByteArray}(hm:a.eval m= .map (some b))(hk:a.eval k= .string s)(hv:a.eval v=val e)(hs:s=e.f0)
 (hM:MS W b es) (hp:room es s=true)
 (h:∀w1,MS w1 b (e::es)->W.grownBy w1 (some b)->wpList Tryz.prog ops Q rest (a.put o.dst undef) w1):wpList Tryz.prog ops Q (o::rest) a W:=by
 subst hs;have hc:=of_decide_eq_true hp;exact wpList_mapUpdate_own W hgd m k v 58 ho 9 63 MapSet.keyed Tryz.underlying58 _ b es.length (of es) hm hM (by simp only[maxLen];omega) _ _ _ hk hv (MapSet.key e.f0 (Nat.le_trans hc.1 yd_)) (enc e) [] (rv_val e) (fun w1 h1 h2=>h w1 h1 h2)
theorem get_event(hgd:o.guard=none){m k:Operand}(ho:o.op= .lookup 58 m k false){s:ByteArray}(hm:a.eval m= .map (some b))(hk:a.eval k= .string s)
 (hM:MS W b es) (hp:s.size<=140737488355328) (h:wpList Tryz.prog ops Q rest (a.put o.dst (val ((get s es).getD z))) W):wpList Tryz.prog ops Q (o::rest) a W:=by
 obtain⟨v,ps,hrun,hv⟩:=World.ownsMap.lookup hM MapSet.keyed Tryz.underlying58 (zero W) (rv_val z) (MapSet.key s (Nat.le_trans hp yd_));obtain⟨e,rfl,he⟩:=rv_inv hv;rw[at_] at he;simp only[Prod.mk.injEq] at he;rw[<-enc_inj he.1] at hrun;refine Kd.event_run hgd ?_ h;unfold execOp;simp only[ho,hm,hk,Sem.run_bind,hrun,Result.andThen_ok];rfl
theorem look_event(hgd:o.guard=none){m k:Operand}(ho:o.op= .lookup 58 m k true){s:ByteArray}(hm:a.eval m= .map (some b))(hk:a.eval k= .string s)
 (hM:MS W b es) (hp:s.size<=140737488355328) (h:wpList Tryz.prog ops Q rest (a.put o.dst (.tuple #[val ((get s es).getD z),.bool (get s es).isSome])) W):wpList Tryz.prog ops Q (o::rest) a W:=by
 obtain⟨v,ps,hrun,hv⟩:=World.ownsMap.look_ok hM MapSet.keyed Tryz.underlying58 (zero W) (rv_val z) (MapSet.key s (Nat.le_trans hp yd_));obtain⟨e,rfl,he⟩:=rv_inv hv;rw[at_] at he;simp only[Prod.mk.injEq] at he;rw[<-enc_inj he.1,has_] at hrun;refine Kd.event_run hgd ?_ h;unfold execOp;simp only[ho,hm,hk,Sem.run_bind,hrun,Result.andThen_ok];rfl
theorem look_some(hgd:o.guard=none){m k:Operand}(ho:o.op= .lookup 58 m k true){s:ByteArray}(hm:a.eval m= .map (some b))(hk:a.eval k= .string s)
 (hM:MS W b es) (hp:s.size<=140737488355328) {g:E} (hx:get s es=some g) (h:wpList Tryz.prog ops Q rest (a.put o.dst (.tuple #[.agg #[.string g.f0,.int .i64 g.f1,.string g.f2,.bool g.f3],.bool true])) W):wpList Tryz.prog ops Q (o::rest) a W:=
 look_event hgd ho hm hk hM hp (by rw[hx];exact h)
theorem look_none(hgd:o.guard=none){m k:Operand}(ho:o.op= .lookup 58 m k true){s:ByteArray}(hm:a.eval m= .map (some b))(hk:a.eval k= .string s)
 (hM:MS W b es) (hp:s.size<=140737488355328) (hx:get s es=none) (h:wpList Tryz.prog ops Q rest (a.put o.dst (.tuple #[.agg #[.string ⟨#[]⟩,.int .i64 0,.string ⟨#[]⟩,.bool false],.bool false])) W):wpList Tryz.prog ops Q (o::rest) a W:=
 look_event hgd ho hm hk hM hp (by rw[hx];exact h)
theorem get_some(hgd:o.guard=none){m k:Operand}(ho:o.op= .lookup 58 m k false){s:ByteArray}(hm:a.eval m= .map (some b))(hk:a.eval k= .string s)
 (hM:MS W b es) (hp:s.size<=140737488355328) {g:E} (hx:(get s es).getD z=g) (h:wpList Tryz.prog ops Q rest (a.put o.dst (.agg #[.string g.f0,.int .i64 g.f1,.string g.f2,.bool g.f3])) W):wpList Tryz.prog ops Q (o::rest) a W:=
 get_event hgd ho hm hk hM hp (by rw[hx];exact h)
end
end MapE
namespace Ss
open Go
theorem dataInj{a b:ByteArray}(h:a.data.toList=b.data.toList):a=b:=by
 cases a with|mk x=>cases b with|mk y=>cases x;cases y;simp_all
def at'(L:List ByteArray)(i:Nat):List UInt8:=(L.getD i ⟨#[]⟩).data.toList
def InsI(L:List ByteArray)(i j:Nat):Prop:=j<=i/\(∀a b,a<b->b<=i->a≠j->b≠j->at' L a<=at' L b)/\∀b,j<b->b<=i->at' L j<=at' L b
def Up(L:List ByteArray)(n:Nat):Prop:=∀a b,a<b->b<n->at' L a<=at' L b
theorem Up.start{L:List ByteArray}{i:Nat}(h:Up L i):InsI L i i:=⟨Nat.le_refl _,fun a b h1 h2 h3 h4=>h a b h1 yo_,fun b h1 h2=>by omega⟩
def swp(L:List ByteArray)(j:Nat):List ByteArray:=(L.set j (L.getD (j+1) ⟨#[]⟩)).set (j+1) (L.getD j ⟨#[]⟩)
theorem swp_at(L:List ByteArray)(j a:Nat)(h:j+1<L.length):at' (swp L j) a=if a=j then at' L (j+1) else if a=j+1 then at' L j else at' L a:=by
 unfold at' swp;simp only[List.getD_eq_getElem?_getD,List.getElem?_set,List.length_set];by_cases h1:a=j
 ·subst h1;simp[show a<L.length by omega]
 ·by_cases h2:a=j+1
  ·subst h2;simp[h]
  ·simp[h1,h2,show¬j+1=a by omega,show¬j=a by omega]
theorem InsI.swap{L:List ByteArray}{i j:Nat}(h:InsI L i (j+1))(hi:i<L.length)(hlt:¬at' L j<=at' L (j+1)):InsI (swp L j) i j:=by
 obtain⟨h0,h1,h2⟩:=h;have hs:at' L (j+1)<=at' L j:=(List.le_total _ _).resolve_left hlt;refine⟨by omega,fun a b hab hb ha' hb'=>?_,fun b hb hbi=>?_⟩
 ·rw[swp_at L j a yo_,swp_at L j b yo_,if_neg ha',if_neg hb'];by_cases ea:a=j+1
  ·rw[if_pos ea,if_neg (show¬b=j+1 by omega)];exact h1 j b yo_ hb yo_ yo_
  ·rw[if_neg ea];by_cases eb:b=j+1
   ·rw[if_pos eb];exact h1 a j yo_ yo_ yo_ yo_
   ·rw[if_neg eb];exact h1 a b hab hb ea eb
 ·rw[swp_at L j j yo_,swp_at L j b yo_,if_pos rfl,if_neg (show¬b=j by omega)];by_cases eb:b=j+1
  ·rw[if_pos eb];exact hs
  ·rw[if_neg eb];exact h2 b yo_ hbi
theorem InsI.done{L:List ByteArray}{i j:Nat}(h:InsI L i j)(hj:j=0\/at' L (j - 1)<=at' L j):Up L (i+1):=by
 obtain⟨h0,h1,h2⟩:=h;intro a b hab hb;by_cases ea:a=j
 ·subst ea;exact h2 b hab yo_
 ·by_cases eb:b=j
  ·subst eb;rcases hj with hj|hj
   ·omega
   ·by_cases e:a=b - 1
    ·subst e;exact hj
    ·exact List.le_trans (h1 a (b - 1) yo_ yo_ yo_ yo_) hj
  ·exact h1 a b hab yo_ ea eb
theorem swp_perm(L:List ByteArray)(j:Nat)(h:j+1<L.length):(swp L j).Perm L:=by
 unfold swp;rw[List.getD_eq_getElem?_getD,List.getD_eq_getElem?_getD,List.getElem?_eq_getElem h,List.getElem?_eq_getElem (show j<L.length by omega)];exact List.set_set_perm yo_ h
theorem Up.eq{L M:List ByteArray}(h:Up L L.length)(hp:L.Perm M):L=((M.map fun s=>s.data.toList).mergeSort leB).map fun l=>(⟨l.toArray⟩:ByteArray):=by
 have h1:(L.map fun s=>s.data.toList).Pairwise (fun a b=>leB a b=true):=by
  rw[List.pairwise_iff_getElem];intro i j hi hj hij;rw[List.length_map] at hi hj;have:=h i j hij hj;unfold at' at this;rw[List.getD_eq_getElem?_getD,List.getD_eq_getElem?_getD,List.getElem?_eq_getElem hi,List.getElem?_eq_getElem hj] at this;simpa[leB] using this
 rw[mergeSort_of_perm (hp.map _).symm,List.mergeSort_of_pairwise h1,List.map_map];conv=>lhs;rw[<-List.map_id L]
 refine List.map_congr_left fun s _=>?_;exact dataInj (by simp)
end Ss
open Go.WideMaps Go.Maps Go.Sort in
theorem impl_sorted.out_congr{ds es:List ByteArray}(h:∀x,x ∈ ds↔x ∈ es):impl_sorted.out ds=impl_sorted.out es:=by
 have h4:(impl_sorted.dd ds).Perm (impl_sorted.dd es):=by
  refine(List.perm_ext_iff_of_nodup (impl_sorted.dd_nodup ds) (impl_sorted.dd_nodup es)).2 fun x=>?_;rw[impl_sorted.dd_mem,impl_sorted.dd_mem];constructor
  ·rintro⟨s,hs,e⟩;exact⟨s,(h s).1 hs,e⟩
  ·rintro⟨s,hs,e⟩;exact⟨s,(h s).2 hs,e⟩
 unfold impl_sorted.out;rw[Go.mergeSort_of_perm h4]
def impl_sortedSet.f(l:List ByteArray):Option (List ByteArray):=if l.length<4194304/\(l.all fun s=>decide (s.size<=140737488355328))=true then some (impl_sorted.out l) else none
theorem Ss.up_out{L:List ByteArray}{ss:List (List UInt8)}{l:List ByteArray}(h:Ss.Up L L.length)(hp:L.Perm (ss.map fun x=>(⟨x.toArray⟩:ByteArray)))(hs:ss.Perm (impl_sorted.dd l.reverse)):L=impl_sorted.out l:=by
 rw[h.eq hp,List.map_map,impl_sorted.out_congr (ds:=l) (es:=l.reverse) (fun x=>by simp)];unfold impl_sorted.out;rw[show((fun s:ByteArray=>s.data.toList) ∘ fun x:List UInt8=>(⟨x.toArray⟩:ByteArray))=id from funext fun x=>by simp,List.map_id,Go.mergeSort_of_perm hs]
theorem Ss.bl_eq:∀(x y:List UInt8),Op.bytesLess x y=decide (x<y)
 |[],[]=>by simp[Op.bytesLess]
 |[],b::y=>by simp[Op.bytesLess]
 |a::x,[]=>by simp[Op.bytesLess]
 |a::x,b::y=>by
  have ih:=Ss.bl_eq x y;simp only[Op.bytesLess,ih];by_cases h:a=b
  ·subst h;simp[List.cons_lt_cons_iff]
  ·simp[List.cons_lt_cons_iff,h]
theorem Ss.put_take{l:List ByteArray}(h1:l.length<4194304)(h2:(l.all fun s=>decide (s.size<=140737488355328))=true){n:Nat}(hn:n<l.length):MapB.put (l.take n).reverse (l.getD n ByteArray.empty)=some (l.take (n+1)).reverse:=by
 have h3:=of_decide_eq_true (List.all_eq_true.1 h2 _ (List.getElem_mem hn));rw[List.getD_eq_getElem?_getD,List.getElem?_eq_getElem hn,Option.getD_some];unfold MapB.put;rw[if_pos ⟨h3,by rw[List.length_reverse,List.length_take];omega⟩,List.take_add_one,List.getElem?_eq_getElem hn,List.reverse_append];rfl
structure Ss.Bx where
 b:Bool
theorem Ss.row0{w:World}{base:Nat}{ok:Nat->Prop}{v:Value}(h:Kd.string.R 9 w base ok v []):w.ownsRow base 9 1 v ([]:List (List UInt8)).length (([]:List (List UInt8)).map encStr):=by
 obtain⟨_,inner,ho,hr⟩:=h;have e:inner=[]:=List.length_eq_zero_iff.1 hr.1;rw[e] at ho;exact ho
theorem Ss.R_row{w:World}{base:Nat}{v:Value}{ss:List (List UInt8)}(h:w.ownsRow base 9 1 v ss.length (ss.map encStr)):Kd.string.R 9 w base (fun _=>True) v (ss.map fun x=>(⟨x.toArray⟩:ByteArray)):=by
 refine Kd.R_of_own ?_ (fun _ _=>trivial);rw[impl_sorted.encs_out,List.length_map];exact h
theorem Ss.swap_R{w:World}{base g n cap:Nat}{ok:Nat->Prop}{M:List ByteArray}{y y1:Int}(h:Kd.string.R 9 w base ok (.slice (some ⟨g,0,none⟩) n cap) M)(hy:y.toNat=y1.toNat+1):
 Kd.string.R 9 ((w.setCell ⟨g,y1.toNat,none⟩ (.string (rdOf (⟨#[]⟩:ByteArray) M y))).setCell ⟨g,y.toNat,none⟩ (.string (rdOf (⟨#[]⟩:ByteArray) M y1))) base ok (.slice (some ⟨g,0,none⟩) n cap) (Ss.swp M y1.toNat):=by
 have:=Kd.R_putn (Kd.R_putn h y1 (rdOf (⟨#[]⟩:ByteArray) M y)) y (rdOf (⟨#[]⟩:ByteArray) M y1);unfold Ss.swp;unfold rdOf at this⊢;rw[hy] at this⊢;exact this
theorem Ss.bl(a b:ByteArray):Op.bytesLess a.toList b.toList=decide (a.data.toList<b.data.toList):=by rw[Ss.bl_eq,ByteArray.toList_eq,ByteArray.toList_eq]
theorem impl_sortedSet.calls(A0:Option Addr)(c0:Nat)(l0 r:List ByteArray)(w:World)(ao:Kd.C Kd.string w A0 l0.length l0)(ak:l0.length<=c0)(h:impl_sortedSet.f l0=some r):
 Calls Tryz.prog 29 #[.slice A0 l0.length c0] w fun e w'=>∃ap:Value,e= .returned ap/\Kd.R Kd.string 9 w' w.heap.size (fun _=>True) ap r/\Below w.heap.size w w':=by
 unfold impl_sortedSet.f at h;by_cases hc:l0.length<4194304/\(l0.all fun s=>decide (s.size<=140737488355328))=true
 case neg=>exact zno h hc
 rw[if_pos hc] at h;have HE:=zz (zi h);have HLl:=zz hc.1;have HSz:=zz hc.2;have aC:=zz ao;clear hc h ao ak;have HB:=yB w;obtain⟨i0,hi,ah,ai,hz2⟩:=info_parts info9;have aD:=zz (And.intro hi (And.intro ah (And.intro ai hz2)));clear hi ah ai hz2;go_enter Tryz.func29,Tryz.ntmps29
 go_wp2_with(first
  |((with_reducible refine gate_dst (N:=10) rfl ?_);refine MapB.make_event ?hg (N:=10) ?hd (t:=109) ?ho ?_;(case hd=>rfl);(case hg=>rfl);(case ho=>rfl);intro bm wm hbm hms hb;have HBM:=zz (Nat.le_trans (qE zb) hbm);have HM:=zz hms;replace HB:=zz (zv zb hb);clear hb hbm hms))
 go_loopg[13] l0.length (fun kq aE w'=>∃(x:Int),aE= .int .i64 x/\qB (0<=x/\x.toNat+kq=l0.length)/\qB (MapB.MS w' bm (l0.take x.toNat).reverse)/\qB (Below w.heap.size w w'))
 case atStart=>exact⟨0,rfl,⟨⟨by omega,by simp⟩⟩,⟨MapB.zm HM.out⟩,⟨zb⟩⟩
 case round=>
  clear HM HB;obtain⟨x,rfl,HX,HM,HB⟩:=hrel;by_cases c3:x<(l0.length:Int)
  case pos=>
   cases gk with
   |zero=>exact absurd HX.out (by intro h;omega)
   |succ k1=>
    have p0:0<=x:=HX.out.1;have ag:=z1 c3;obtain⟨ad,e0,ar⟩:=Kd.vA aC.out x p0 c3;cases e0;replace ar:=z3 HB.out ar;have HP:=zz (Ss.put_take HLl.out HSz.out (show x.toNat<l0.length by omega));have HXW:=zz (show wrap64 (x+1)=x+1 from by have:=HLl.out;simp[wrap64,IntKind.wrap];omega);have q0:=eq_true c3;replace p0:=eq_true p0;have HC:=zz c3;clear c3
    go_wp2_with(first
     |((with_reducible refine MapSet.gate_put (t:=109) (m:=17) (k:=18) rfl ?_);refine MapB.put_event rfl rfl rfl rfl (MapB.zm HM.out) HP.out ?_;intro wp hms hg;replace HB:=zz (MapSet.grown zb hg HBM.out);replace HM:=zz hms;clear hms hg))
    go_roundg k1
    case measure=>omega
    case rel=>exact⟨wrap64 (x+1),rfl,⟨⟨by have:=HXW.out;have:=HX.out;omega,by have:=HXW.out;have:=HX.out;omega⟩⟩,⟨by rw[show(wrap64 (x+1)).toNat=x.toNat+1 by have:=HXW.out;have:=HX.out;omega];exact MapB.zm HM.out⟩,⟨zb⟩⟩
  have ag:=z0 c3
  rename World=>wz
  have HM:=zz (show MapB.MS wz bm l0.reverse from by
   have:=HM.out
   rwa [List.take_of_length_le (by have:=HX.out;omega)] at this)
  clear c3 HX;have HBL:=zz (MapB.MS.lt HM.out)
  go_wp2_with(first
   |(refine zN 20 ?_;refine Kd.R_lit Kd.string (w0:=wz) wz.heap.size 9 ?hg (N:=20) ?hd (xs:=([]:List ByteArray)) (inner:=[]) (ok:=fun _=>True) (okp:=fun _=>False) ?hr ?hp (fun _ hk=>hk.elim) trivial (by repeat(first|exact Below.refl _ _|apply qS|apply qQ|apply qK)) (by first|exact Nat.le_refl _|simp) (by simp) ?_;(case hd=>rfl);(case hg=>rfl);(case hr=>first|(go_simp;done)|(go_simp;rfl));(case hp=>exact(Reps.none _ _));intro aF w6 au hb hg_ hnew_;clear hnew_;have HO:=zz (Ss.row0 au);have HBz:=zz hb;replace HM:=zz (MapB.MS.kept (b:=bm) (ds:=l0.reverse) (MapB.zm HM.out) hg_ (by simp));clear hb hg_ au)
   |(at_range;refine wpList_range_own _ rfl _ 109 rfl 9 4 MapSet.keyed Tryz.underlying109 _ bm _ _ rfl HM.out ?_;intro w7 ae al aG;have HZ:=zz (World.ownsMap.size_le HM.out);rw[List.length_reverse] at ae;generalize hD:MapB.of l0.reverse=D0 at ae HZ;have aH:=Lib.hid hD;clear hD;have HRG:=zz ae;have az:=zz (HBz.out.size);have aI:=zz (HBz.out.grown al HBz.out.size (fun j hj=>by cases hj));have HRW:=zz (World.ownsRow.kept HO.out al (by by_cases e_:(aF:Value).ownBlock=none;exact .inl e_;exact .inr e_));clear ae al aG HM HO HBz))
  go_frame
  go_loopw[6] (fun v wr=>∃(left:Lit->Bool) (cnt:Nat) (ss:List (List UInt8)),wr.ranges Tryz.prog 9 (plainElem (H:=Unit) Tryz.prog 4) bm w6.heap.size l0.length D0 left cnt/\ss.length+cnt<=Maps.size D0/\
   wr.ownsRow wz.heap.size 9 1 v ss.length (ss.map encStr)/\Collected D0 left ss/\Below wz.heap.size wz wr)
   (fun _ wr=>wr.rangeLeft bm w6.heap.size)
  case atStart=>exact⟨_,_,[],HRG.out,by simp,HRW.out,Collected.start D0,aI.out⟩
  case round=>
   obtain⟨left,cnt,ss,hrg,hcs,hrow,hC,hnx⟩:=hrel;have hlen:ss.length+cnt<4194304:=by have:=HZ.out;have:=HLl.out;rw[List.length_reverse] at*;omega
   go_wp2_with(at_next;refine wpList_next_ranges _ rfl _ rfl 9 MapSet.keyed (plainElem Tryz.prog 4) encStr (fun c:Ss.Bx=>Value.bool c.b) (fun key kl hk=>by obtain⟨x,hx,_⟩:=Maps.keyOf_str Tryz.underlying9 hk;exact⟨x,hx⟩) (fun v y hv=>by obtain⟨c,rfl,_⟩:=MapB.plain Tryz.underlying4 hv;exact⟨⟨c⟩,rfl⟩) bm w6.heap.size l0.length _ _ _ rfl hrg ?_ ?_)
   ·intro ak av;have HP:=zz (show ss.Perm (impl_sorted.dd l0.reverse) from(List.perm_ext_iff_of_nodup hC.1 (impl_sorted.dd_nodup _)).2 fun x=>by
     rw[hC.2 x,av,<-aH.out,MapB.has_dd,impl_sorted.dd_mem];simp)
    have HO:=zz (Ss.R_row hrow);have HBz:=zz hnx;have HLn:=zz hlen;clear ak av hrow hnx hC hcs hrg hlen;obtain⟨L0,aj⟩:∃L:List ByteArray,L=ss.map (fun x=>(⟨x.toArray⟩:ByteArray)):=⟨_,rfl⟩
    rw[<-aj] at HO;have HLL:=zz (show L0.length<4194304 from by rw[aj,List.length_map];have:=HLn.out;omega);have aJ:=zz aj;clear aj;obtain⟨A,cp,hv⟩:=Kd.qW HO.out;subst hv;go_wp2_with(fail)
    go_loopg[8] L0.length (fun kq v8 w'=>∃(x:Int) (L:List ByteArray),v8= .int .i64 x/\qB (1<=x/\x.toNat+kq=L0.length+1)/\qB (L.length=L0.length/\L.Perm L0/\Ss.Up L x.toNat)/\qB (Kd.R Kd.string 9 w' wz.heap.size (fun _=>True) (.slice A L0.length cp) L)/\qB (Below wz.heap.size wz w'))
    case atStart=>exact⟨1,L0,rfl,⟨⟨by omega,by show 1+L0.length=_;omega⟩⟩,⟨⟨rfl,List.Perm.refl _,fun a b h1 h2=>by have:b<1:=h2;omega⟩⟩,⟨zR HO.out⟩,⟨by repeat(first|exact HBz.out|apply qS|apply qQ|apply qK)⟩⟩
    case round=>
     clear HO HBz;obtain⟨x,L,rfl,HX,HL,HO,HBz⟩:=hrel;by_cases c3:x<(L0.length:Int)
     case neg=>
      have ag:=z0 c3;have HLe:=zz (show L=r from(Ss.up_out (fun a b h1 h2=>HL.out.2.2 a b h1 (by have:=HL.out.1;have:=HX.out;omega)) (aJ.out ▸ HL.out.2.1) HP.out).trans HE.out);clear c3;go_wp2_with(fail)
      go_ret;exact⟨_,rfl,HLe.out ▸ Kd.qU (zR HO.out) HB.out.size,zv HB.out (by repeat(first|exact HBz.out|apply qS|apply qQ|apply qK))⟩
     cases gk with
     |zero=>exact absurd HX.out (by intro h;omega)
     |succ k1=>
      have ag:=z1 c3;have HC:=zz c3;clear c3;go_wp2_with(fail)
      go_loopg[9] x.toNat (fun kq v9 w'=>∃(y:Int) (M:List ByteArray),v9= .int .i64 y/\qB (0<=y/\y.toNat=kq)/\qB (M.length=L0.length/\M.Perm L0/\Ss.InsI M x.toNat y.toNat)/\qB (Kd.R Kd.string 9 w' wz.heap.size (fun _=>True) (.slice A L0.length cp) M)/\qB (Below wz.heap.size wz w'))
      case atStart=>exact⟨x,L,rfl,⟨⟨by have:=HX.out;omega,rfl⟩⟩,⟨⟨HL.out.1,HL.out.2.1,HL.out.2.2.start⟩⟩,⟨zR HO.out⟩,⟨by repeat(first|exact HBz.out|apply qS|apply qQ|apply qK)⟩⟩
      case round=>
       clear HO HBz;obtain⟨y,M,rfl,HY,HM,HO,HBz⟩:=hrel;have HXW:=zz (show wrap64 (x+1)=x+1 from by have:=HX.out;have:=HC.out;have:=HLL.out;simp[wrap64,IntKind.wrap];omega);by_cases c4:y>0
       case neg=>
        have aA:=zgtn c4;have HU:=zz (HM.out.2.2.done (.inl (by have:=HY.out;omega)));clear c4;go_wp2_with(fail)
        repeat(go_quiet (fail);try go_wp2)
        go_roundg k1
        case measure=>omega
        case rel=>exact⟨wrap64 (x+1),M,rfl,⟨⟨by have:=HXW.out;have:=HX.out;omega,by have:=HXW.out;have:=HX.out;omega⟩⟩,⟨⟨HM.out.1,HM.out.2.1,by rw[show(wrap64 (x+1)).toNat=x.toNat+1 by have:=HXW.out;have:=HX.out;omega];exact HU.out⟩⟩,⟨zR HO.out⟩,⟨by repeat(first|exact HBz.out|apply qS|apply qQ|apply qK)⟩⟩
       cases gk with
       |zero=>exact absurd HY.out (by intro h;omega)
       |succ k2=>
        have aA:=zgt c4;obtain⟨y1,ac⟩:∃z:Int,wrap64 (y - 1)=z:=⟨_,rfl⟩
        have aL:IntKind.i64.wrap (y - 1)=y1:=(i64_w _).trans ac;have HYX:=zz HM.out.2.2.1;have aa:=zz (show y1=y - 1/\y.toNat=y1.toNat+1/\y<(L0.length:Int) from by
         have h1:=HY.out;have h2:=HYX.out;have h3:=HC.out;have h4:=HLL.out;have:y1=y - 1:=by rw[<-ac];simp[wrap64,IntKind.wrap];omega
         omega)
        have p1:0<=y1:=by have:=aa.out;omega
        have q1:y1<(L0.length:Int):=by have:=aa.out;omega
        have p2:0<=y:=by omega
        have q2:y<(L0.length:Int):=aa.out.2.2;obtain⟨g,cp',eo,gb,gl,cl,hcl⟩:=Kd.R_form HO.out (by have:=HM.out.1;omega)
        (first|cases eo|(injection eo with ea_ en_ ec_;(first|subst ea_|(injection ea_ with ea_;subst ea_));subst ec_;clear en_))
        have GB:=zz gb;clear gb gl hcl c4;obtain⟨aN,aO⟩:=Kd.R_celln (⟨#[]⟩:ByteArray) HO.out y1 p1 q1;obtain⟨aP,aQ⟩:=Kd.R_celln (⟨#[]⟩:ByteArray) HO.out y p2 q2;have n1:y.toNat≠y1.toNat:=by rw[aa.out.2.1];omega
        have n2:y1.toNat≠y.toNat:=Ne.symm n1;have d1:=z1 p1;have d2:=z1 q1;have d3:=z1 p2;have d4:=z1 q2;replace p1:=eq_true p1;replace q1:=eq_true q1;replace p2:=eq_true p2;replace q2:=eq_true q2;by_cases c5:Op.bytesLess (rdOf (⟨#[]⟩:ByteArray) M y).toList (rdOf (⟨#[]⟩:ByteArray) M y1).toList=true
        ·have HSw:=zz (show Ss.InsI (Ss.swp M y1.toNat) x.toNat y1.toNat from by
          have h:=HM.out.2.2;rw[aa.out.2.1] at h;refine h.swap (by have:=HC.out;have:=HM.out.1;have:=HX.out;omega) ?_;rw[Ss.bl] at c5;have h5:=of_decide_eq_true c5;unfold rdOf at h5;rw[aa.out.2.1] at h5;exact fun hle=>absurd h5 (List.not_lt.2 hle))
         go_wp2_with(fail)
         repeat(go_quiet (fail);try go_wp2)
         go_region
         all_goals go_wp2
         go_roundg k2
         case measure=>omega
         case rel=>exact⟨wrap64 (y - 1),Ss.swp M y1.toNat,by simp[ac],⟨⟨by rw[ac];have:=aa.out;omega,by rw[ac];have:=aa.out;have:=HY.out;omega⟩⟩,⟨⟨by unfold Ss.swp;rw[List.length_set,List.length_set];exact HM.out.1,(Ss.swp_perm M _ (by have:=aa.out;have:=HM.out.1;omega)).trans HM.out.2.1,by rw[ac];exact HSw.out⟩⟩,⟨by repeat(first|exact Ss.swap_R HO.out aa.out.2.1|apply Kd.vD|apply Kd.qZ)⟩,⟨by repeat(first|exact HBz.out|apply qS|apply qQ|apply qK|refine qJ ?_ GB.out)⟩⟩
        have aw:Op.bytesLess (rdOf (⟨#[]⟩:ByteArray) M y).toList (rdOf (⟨#[]⟩:ByteArray) M y1).toList=false:=by simpa using c5
        have HU:=zz (show Ss.Up M (x.toNat+1) from HM.out.2.2.done (.inr (by
         rw[Ss.bl] at aw;have h5:=of_decide_eq_false aw;unfold rdOf at h5;rw[show y.toNat - 1=y1.toNat by have:=aa.out;omega];exact List.not_lt.1 h5)))
        clear c5;go_wp2_with(fail)
        repeat(go_quiet (fail);try go_wp2)
        go_roundg k1
        case measure=>omega
        case rel=>exact⟨wrap64 (x+1),M,rfl,⟨⟨by have:=HXW.out;have:=HX.out;omega,by have:=HXW.out;have:=HX.out;omega⟩⟩,⟨⟨HM.out.1,HM.out.2.1,by rw[show(wrap64 (x+1)).toNat=x.toNat+1 by have:=HXW.out;have:=HX.out;omega];exact HU.out⟩⟩,⟨zR HO.out⟩,⟨by repeat(first|exact HBz.out|apply qS|apply qQ|apply qK)⟩⟩
   ·intro x c kl yd yp w2 aB hkey hlk hv hat am hlt af ax hen;obtain⟨x',ex,rfl,_⟩:=Maps.keyOf_str Tryz.underlying9 hkey;obtain rfl:x=x':=encStr_inj ex;have ab:=hrow.kept af (Or.inr (row_ne_iter hrow hrg).symm);have aR:=Lib.hid ax;have hbl:=HBL.out;obtain⟨hi,ah,ai,hz2⟩:=aD.out;clear ax;go_wp2_with(at_builtin;refine wpList_append_own_at _ rfl _ _ 28 rfl wz.heap.size 9 i0 (.string ⟨#[]⟩) 1 16 Tryz.underlying28 hi ah ai hz2 rfl yd_ _ _ _ rfl (ab.alloc _) ⟨w2.heap.size,0,none⟩ 1 1 [encStr x] rfl rfl (cell_one_new _ _ _) (by simp[Value.oneCell',encStr]) (by unfold maxLen at*;omega) yo_ (by have:=hnx.size;have:=af.size;simp;omega) ?_;intro v' w3 hown' ay aK aM;go_frame)
    have an:=(am.alloc _).kept ay (row_ne_low ab hbl) (row_ne_iter ab am);go_roundw
    case rel=>
     refine⟨_,aB,ss++[x],an,by simp;omega,by simpa using hown',hC.step hlk hat,?_⟩;exact((hnx.grown af hnx.size (fun j hj=>by cases hj;exact az.out)).alloc (by have:=hnx.size;have:=af.size;omega) _).grown ay (by have:=hnx.size;have:=af.size;simp;omega) (fun j hj=>(ab.lt j hj).1)
    case measure=>rw[an.left_eq,hrg.left_eq];exact hlt
theorem Ss.keys_f{ds:List ByteArray}{ss:List (List UInt8)}(h1:ds.length<4194304)(h2:(ds.all fun s=>decide (s.size<=140737488355328))=true)(hp:ss.Perm (impl_sorted.dd ds))(hl:ss.length<4194304):impl_sortedSet.f (ss.map fun x=>(⟨x.toArray⟩:ByteArray))=some (impl_sorted.out ds):=by
 have hm:∀x,x ∈ (ss.map fun x=>(⟨x.toArray⟩:ByteArray))↔x ∈ ds:=fun x=>by
  rw[List.mem_map];constructor
  ·rintro⟨y,hy,rfl⟩;obtain⟨s,hs,e⟩:=(impl_sorted.dd_mem y ds).1 (hp.mem_iff.1 hy);have:s=⟨y.toArray⟩:=Ss.dataInj (by rw[e]);exact this ▸ hs
  ·intro hx;exact⟨x.data.toList,hp.mem_iff.2 ((impl_sorted.dd_mem _ ds).2 ⟨x,hx,rfl⟩),Ss.dataInj (by simp)⟩
 unfold impl_sortedSet.f;rw[if_pos ⟨by rw[List.length_map];exact hl,List.all_eq_true.2 fun x hx=>List.all_eq_true.1 h2 x ((hm x).1 hx)⟩,impl_sorted.out_congr hm]
theorem eqA63(d:Nat)(w:World)(x0 y0:ByteArray)(x1 y1:Int)(x2 y2:ByteArray)(x3 y3:Bool):
 (Op.equalIn (d+2) 63 (.agg #[.string x0,.int .i64 x1,.string x2,.bool x3]) (.agg #[.string y0,.int .i64 y1,.string y2,.bool y3])).run Tryz.prog w= .ok (x0.toList==y0.toList && (x1==y1 && (x2.toList==y2.toList && (x3==y3)))) w:=by
 refine eqA_of Tryz.underlying63 (by kernel_rfl) ?_;refine eqf_cons (by rfl) (by go_simp;rfl) (by go_simp;rfl) (by go_simp) ?_;refine eqf_cons (by rfl) (by go_simp;rfl) (by go_simp;rfl) (by go_simp) ?_;refine eqf_cons (by rfl) (by go_simp;rfl) (by go_simp;rfl) (by go_simp) ?_;exact eqf_last (by rfl) (by go_simp;rfl) (by go_simp;rfl) (by go_simp)
def impl_itemOf.l0:Nat->ByteArray->List (S61)->Int->Int->Option (Int)
 |0,_,_,_,_=>none
 |k+1,x1,x7,x8,x9=>if x9<x8 then(if 0<=x9 then(if x9<(x7.length:Int) then(if((qC x7 x9).f0).toList=x1.toList then(some x9) else(impl_itemOf.l0 k x1 x7 x8 (wrap64 (x9+1)))) else(none)) else(none)) else(some (-1))
def impl_itemOf.f(k:Nat)(l0:List (S61))(a1:ByteArray):Option (Int):=impl_itemOf.l0 k a1 l0 (l0.length:Int) 0
theorem impl_itemOf.calls(k:Nat)(A0:Option Addr)(c0:Nat)(l0:List (S61))(a1:ByteArray)(r:Int)(w:World)(aN:Kd.C k61 w A0 l0.length l0)(aO:l0.length<=c0)(H:impl_itemOf.f k l0 a1=some r):
 Calls Tryz.prog 28 #[.slice A0 l0.length c0,.string a1] w fun e w'=>e= .returned (.int .i64 r)/\Below w.heap.size w w':=by
 have aX:=Tryz.underlying61;have aF:=zz aN;have a4:=zz aO;clear aN aO;have HB:=yB w;unfold impl_itemOf.f at H;replace HB:=HB.out;have HW:=yB w;go_enter Tryz.func28,Tryz.ntmps28;go_wp2_with(fail)
 go_loopg[9] k (fun kq v9 w'=>∃(aa:Int),v9= .int .i64 aa/\qB (impl_itemOf.l0 kq a1 l0 (l0.length:Int) aa=some r)/\qB (kq<=k)/\qB (Below w.heap.size w w'))
 case atStart=>exact⟨(0),zr,⟨H⟩,⟨Nat.le_refl _⟩,⟨HB⟩⟩
 case round=>
  clear H HB;obtain⟨aa,rfl,H,aL,HB⟩:=hrel;replace HB:=HB.out;replace H:=H.out;have an:=yB w;cases gk with
  |zero=>simp[impl_itemOf.l0] at H
  |succ aV=>
   simp only[impl_itemOf.l0] at H;refine yDn H ?_ ?_<;>clear H<;>intro aY H
   ·obtain rfl:=zi H;exact yR
   replace H:=yAD H;obtain⟨aZ,H⟩:=H;replace H:=yAD H;obtain⟨a0,H⟩:=H;have a2:=yt (0<=(aa:Int));have a3:=yt ((aa:Int)<(l0.length:Int));obtain⟨aW,ac,ad,ae,af,aQ,ag,ah,ai,aj,ak,aB,aC,aD,aE⟩:=at_T61 aF.out aa z2 z2;cases aQ;replace ag:=qL ag;replace ah:=qL ah;replace ai:=qL ai;replace aj:=qL aj;replace ak:=qL ak;have al:=zz aC;have aT:=zz aB;clear aC aB;have am:=zz aE;have aU:=zz aD;clear aE aD;refine yCn H ?_ ?_<;>clear H<;>intro c7 H
   ·obtain⟨aR,aS⟩:=zw c7;go_wp2_with(first|(refine zN 6 ?_;(try(refine z4 ?_;dsimp only));refine zX 6 61 #[.string (⟨#[]⟩:ByteArray),.string (⟨#[]⟩:ByteArray),.slice none 0 0,.string (⟨#[]⟩:ByteArray),.slice none 0 0] ?_;intro ab hg aM hbox hb;have hge:w.heap.size<=ab:=(by rw[hg];exact qE HB);clear hg;have hst:Below w.heap.size w (((((aM.setCell ⟨ab,0,none⟩ (.string ((qC l0 aa).f0))).setCell ⟨ab,1,none⟩ (.string ((qC l0 aa).f1))).setCell ⟨ab,2,none⟩ (.slice ac ((qC l0 aa).f2).length ad)).setCell ⟨ab,3,none⟩ (.string ((qC l0 aa).f3))).setCell ⟨ab,4,none⟩ (.slice ae ((qC l0 aa).f4).length af)):=(qJ (qJ (qJ (qJ (qJ (zv HB hb) hge) hge) hge) hge) hge);have hbx:(((((aM.setCell ⟨ab,0,none⟩ (.string ((qC l0 aa).f0))).setCell ⟨ab,1,none⟩ (.string ((qC l0 aa).f1))).setCell ⟨ab,2,none⟩ (.slice ac ((qC l0 aa).f2).length ad)).setCell ⟨ab,3,none⟩ (.string ((qC l0 aa).f3))).setCell ⟨ab,4,none⟩ (.slice ae ((qC l0 aa).f4).length af)).heap[ab]?=some (.cells #[.string ((qC l0 aa).f0),.string ((qC l0 aa).f1),.slice ac ((qC l0 aa).f2).length ad,.string ((qC l0 aa).f3),.slice ae ((qC l0 aa).f4).length af] 61 (0,0)):=(yP hbox);obtain⟨ao,ap,ar,au,av,aw,ax,ay,az,aA⟩:=zc5 hbox)|((with_reducible refine qR (t:=61) (p:=6) rfl ?_);(try(refine z4 ?_;dsimp only));refine ye 61 6 (((((aM.setCell ⟨ab,0,none⟩ (.string ((qC l0 aa).f0))).setCell ⟨ab,1,none⟩ (.string ((qC l0 aa).f1))).setCell ⟨ab,2,none⟩ (.slice ac ((qC l0 aa).f2).length ad)).setCell ⟨ab,3,none⟩ (.string ((qC l0 aa).f3))).setCell ⟨ab,4,none⟩ (.slice ae ((qC l0 aa).f4).length af)) ?_;intro aP hw;replace hst:=hst;rw[<-hw] at hst hbx;clear hw hb hbox hge HB ao aw ap ax ar ay au az av aA;replace HW:=zz (zv HW.out hst);replace an:=zz (zv an.out hst);replace ag:=qG ag hst;replace ah:=qG ah hst;replace ai:=qG ai hst;replace aj:=qG aj hst;replace ak:=qG ak hst;obtain⟨aG,aH,aI,aJ,aK⟩:=zx5 hbx;have HB:=Below.refl aP.heap.size aP;clear hbx hst))
    go_roundg aV
    case measure=>exact yM1 aL
    case rel=>exact⟨(wrap64 (aa+1)),zr,⟨H⟩,⟨yM1 aL⟩,⟨zv an.out HB⟩⟩
   obtain⟨aR,aS⟩:=zq c7;clear c7;obtain rfl:=zi H;go_wp2_with(first|(refine zN 6 ?_;(try(refine z4 ?_;dsimp only));refine zX 6 61 #[.string (⟨#[]⟩:ByteArray),.string (⟨#[]⟩:ByteArray),.slice none 0 0,.string (⟨#[]⟩:ByteArray),.slice none 0 0] ?_;intro ab hg w8 hbox hb;have hge:w.heap.size<=ab:=(by rw[hg];exact qE HB);clear hg;have hst:Below w.heap.size w (((((w8.setCell ⟨ab,0,none⟩ (.string ((qC l0 aa).f0))).setCell ⟨ab,1,none⟩ (.string ((qC l0 aa).f1))).setCell ⟨ab,2,none⟩ (.slice ac ((qC l0 aa).f2).length ad)).setCell ⟨ab,3,none⟩ (.string ((qC l0 aa).f3))).setCell ⟨ab,4,none⟩ (.slice ae ((qC l0 aa).f4).length af)):=(qJ (qJ (qJ (qJ (qJ (zv HB hb) hge) hge) hge) hge) hge);have hbx:(((((w8.setCell ⟨ab,0,none⟩ (.string ((qC l0 aa).f0))).setCell ⟨ab,1,none⟩ (.string ((qC l0 aa).f1))).setCell ⟨ab,2,none⟩ (.slice ac ((qC l0 aa).f2).length ad)).setCell ⟨ab,3,none⟩ (.string ((qC l0 aa).f3))).setCell ⟨ab,4,none⟩ (.slice ae ((qC l0 aa).f4).length af)).heap[ab]?=some (.cells #[.string ((qC l0 aa).f0),.string ((qC l0 aa).f1),.slice ac ((qC l0 aa).f2).length ad,.string ((qC l0 aa).f3),.slice ae ((qC l0 aa).f4).length af] 61 (0,0)):=(yP hbox);obtain⟨ao,ap,ar,au,av,aw,ax,ay,az,aA⟩:=zc5 hbox)|((with_reducible refine qR (t:=61) (p:=6) rfl ?_);(try(refine z4 ?_;dsimp only));refine ye 61 6 (((((w8.setCell ⟨ab,0,none⟩ (.string ((qC l0 aa).f0))).setCell ⟨ab,1,none⟩ (.string ((qC l0 aa).f1))).setCell ⟨ab,2,none⟩ (.slice ac ((qC l0 aa).f2).length ad)).setCell ⟨ab,3,none⟩ (.string ((qC l0 aa).f3))).setCell ⟨ab,4,none⟩ (.slice ae ((qC l0 aa).f4).length af)) ?_;intro w9 hw;replace hst:=hst;rw[<-hw] at hst hbx;clear hw hb hbox hge HB ao aw ap ax ar ay au az av aA;replace HW:=zz (zv HW.out hst);replace an:=zz (zv an.out hst);replace ag:=qG ag hst;replace ah:=qG ah hst;replace ai:=qG ai hst;replace aj:=qG aj hst;replace ak:=qG ak hst;obtain⟨aG,aH,aI,aJ,aK⟩:=zx5 hbx;have HB:=Below.refl w9.heap.size w9;clear hbx hst))
   go_ret;exact⟨ze,zv HW.out HB⟩
mutual
def impl_ProfilesOk.l0:Nat->List (S99)->List (S99)->Int->Int->Option (Bool)
 |0,_,_,_,_=>none
 |k+1,x0,ab,ah,aa=>if aa<ah then(if 0<=aa then(if aa<(ab.length:Int) then((impl_NameOk.f k ((qF ab aa).f0)).bind fun aj=>(if aj=true then(if aa>0 then(if 0<=(wrap64 (aa - 1)) then(if(wrap64 (aa - 1))<(x0.length:Int) then(if((Op.bytesLess (((qF x0 (wrap64 (aa - 1))).f0).toList) (((qF ab aa).f0).toList))=true) then(if(((qF ab aa).f2).length:Int)>50 then(some false) else(impl_ProfilesOk.l1 k x0 (((qF ab aa).f1)==0) ab ah aa ((qF ab aa).f2) (((qF ab aa).f2).length:Int) 0 ((qF ab aa).f0) ((qF ab aa).f1) ((qF ab aa).f2))) else(some false)) else(none)) else(none)) else(if(((qF ab aa).f2).length:Int)>50 then(some false) else(impl_ProfilesOk.l1 k x0 (((qF ab aa).f1)==0) ab ah aa ((qF ab aa).f2) (((qF ab aa).f2).length:Int) 0 ((qF ab aa).f0) ((qF ab aa).f1) ((qF ab aa).f2)))) else(some false))) else(none)) else(none)) else(some true)
def impl_ProfilesOk.l1:Nat->List (S99)->Bool->List (S99)->Int->Int->List (S101)->Int->Int->ByteArray->Int->List (S101)->Option (Bool)
 |0,_,_,_,_,_,_,_,_,_,_,_=>none
 |k+1,x0,x5,ab,ah,aa,af,ai,ac,ag,ad,ae=>if ac<ai then(if 0<=ac then(if ac<(af.length:Int) then(if((qN af ac).f0)<1 then(some false) else(if((qN af ac).f0)>9007199254740992 then(some false) else((impl_AddressOk.f k ((qN af ac).f1)).bind fun ak=>(if ak=true then(if ac>0 then(if 0<=(wrap64 (ac - 1)) then(if(wrap64 (ac - 1))<(ae.length:Int) then(if((qN ae (wrap64 (ac - 1))).f0)>=((qN af ac).f0) then(some false) else(if x5=true then(impl_ProfilesOk.l1 k x0 true ab ah aa af ai (wrap64 (ac+1)) ag ad ae) else(impl_ProfilesOk.l1 k x0 (((qN af ac).f0)==ad) ab ah aa af ai (wrap64 (ac+1)) ag ad ae))) else(none)) else(none)) else(if x5=true then(impl_ProfilesOk.l1 k x0 true ab ah aa af ai (wrap64 (ac+1)) ag ad ae) else(impl_ProfilesOk.l1 k x0 (((qN af ac).f0)==ad) ab ah aa af ai (wrap64 (ac+1)) ag ad ae))) else(some false))))) else(none)) else(none)) else(if x5=true then(impl_ProfilesOk.l0 k x0 ab ah (wrap64 (aa+1))) else(some false))
end
def impl_ProfilesOk.f(k:Nat)(l0:List (S99)):Option (Bool):=if(l0.length:Int)>20 then(some false) else(impl_ProfilesOk.l0 k l0 l0 (l0.length:Int) 0)
theorem impl_ProfilesOk.calls(k:Nat)(A0:Option Addr)(c0:Nat)(l0:List (S99))(r:Bool)(w:World)(bw:Kd.C k99 w A0 l0.length l0)(bz:l0.length<=c0)(H:impl_ProfilesOk.f k l0=some r):
 Calls Tryz.prog 59 #[.slice A0 l0.length c0] w fun e w'=>e= .returned (.bool r)/\Below w.heap.size w w':=by
 have cj:=Tryz.underlying99;have bX:=Tryz.underlying101;have aQ:=zz bw;have cv:=zz bz;clear bw bz;have HB:=yB w;unfold impl_ProfilesOk.f at H;replace HB:=HB.out;have HW:=yB w;go_enter Tryz.func59,Tryz.ntmps59;refine yC H ?_ ?_<;>clear H<;>intro c2 H
 ·have bA:=zgt c2;have bB:decide (20<l0.length)=true:=z1 yo_;clear c2;obtain rfl:=zi H;exact yR
 have bA:=zgtn c2;have bB:decide (20<l0.length)=false:=z0 yo_;clear c2;go_wp2_with(fail)
 go_loopg[13] k (fun kq bL w'=>∃(aa:Int),bL= .int .i64 aa/\qB (impl_ProfilesOk.l0 kq l0 l0 (l0.length:Int) aa=some r)/\qB (kq<=k)/\qB (Below w.heap.size w w'))
 case atStart=>exact⟨(0),zr,⟨H⟩,⟨Nat.le_refl _⟩,⟨HB⟩⟩
 case round=>
  clear H HB;obtain⟨aa,rfl,H,ad,HB⟩:=hrel;replace HB:=HB.out;replace H:=H.out;have ao:=yB w;cases gk with
  |zero=>simp[impl_ProfilesOk.l0] at H
  |succ aE=>
   simp only[impl_ProfilesOk.l0] at H;refine yDn H ?_ ?_<;>clear H<;>intro ck H
   ·obtain rfl:=zi H;exact yR
   replace H:=yAD H;obtain⟨cm,H⟩:=H;replace H:=yAD H;obtain⟨cn,H⟩:=H;have co:=yt (0<=(aa:Int));have cp:=yt ((aa:Int)<(l0.length:Int));obtain⟨bn,aF,aG,bC,ak,al,am,aU,aV⟩:=at_T99 aQ.out aa z2 z2;cases bC;replace ak:=qL ak;replace al:=qL al;replace am:=qL am;have af:=zz aV;have bJ:=zz aU;clear aV aU;go_wp2_with(first|(refine zN 4 ?_;(try(refine z4 ?_;dsimp only));refine zX 4 99 #[.string (⟨#[]⟩:ByteArray),.int .i64 0,.slice none 0 0] ?_;intro an hg w7 hbox hb;have hge:w.heap.size<=an:=(by rw[hg];exact qE HB);clear hg;have hst:Below w.heap.size w (((w7.setCell ⟨an,0,none⟩ (.string ((qF l0 aa).f0))).setCell ⟨an,1,none⟩ (.int .i64 ((qF l0 aa).f1))).setCell ⟨an,2,none⟩ (.slice aF ((qF l0 aa).f2).length aG)):=(qJ (qJ (qJ (zv HB hb) hge) hge) hge);have hbx:(((w7.setCell ⟨an,0,none⟩ (.string ((qF l0 aa).f0))).setCell ⟨an,1,none⟩ (.int .i64 ((qF l0 aa).f1))).setCell ⟨an,2,none⟩ (.slice aF ((qF l0 aa).f2).length aG)).heap[an]?=some (.cells #[.string ((qF l0 aa).f0),.int .i64 ((qF l0 aa).f1),.slice aF ((qF l0 aa).f2).length aG] 99 (0,0)):=(yP hbox);obtain⟨bc,bd,be,bf,bg,bh⟩:=zc3 hbox)|((with_reducible refine qR (t:=99) (p:=4) rfl ?_);(try(refine z4 ?_;dsimp only));refine ye 99 4 (((w7.setCell ⟨an,0,none⟩ (.string ((qF l0 aa).f0))).setCell ⟨an,1,none⟩ (.int .i64 ((qF l0 aa).f1))).setCell ⟨an,2,none⟩ (.slice aF ((qF l0 aa).f2).length aG)) ?_;intro w8 hw;replace hst:=hst;rw[<-hw] at hst hbx;clear hw hb hbox hge HB bc bf bd bg be bh;replace HW:=zz (zv HW.out hst);replace ao:=zz (zv ao.out hst);replace aQ:=zz (Kd.qD aQ.out hst);replace af:=zz (Kd.qD af.out hst);replace ak:=qG ak hst;replace al:=qG al hst;replace am:=qG am hst;obtain⟨aw,ax,ay⟩:=zx3 hbx;have HB:=Below.refl w8.heap.size w8;clear hbx hst))
   try simp only[Act.put,List.setIfInBounds_toArray,List.set_cons_zero,List.set_cons_succ]
   refine qT (C:=fun W_=>Below w8.heap.size w8 W_) zk zk (qK HB) ?_;replace H:=yf H;obtain⟨cq,A9,H⟩:=H;refine yF H ?_ ?_<;>clear H<;>rintro rfl H
   ·obtain rfl:=zi H;repeat(first|go_big_quiet_skip|(go_big_quiet_want;go_big_quiet_op;first|go_big_quiet_on|(apply zU;intro W hW;(first|with_reducible rfl|(go_at_call 61;exact callD (impl_NameOk.calls aE _ _ _ A9.out) hW)|(go_simp;with_reducible rfl));go_big_quiet_on)))
    exact yW
   refine yGn H ?_ ?_<;>clear H<;>intro bY H
   ·refine yC H ?_ ?_<;>clear H<;>intro a9 H
    ·have bo:=zgt a9;have bq:decide (50<((qF l0 aa).f2).length)=true:=z1 yo_;clear a9;obtain rfl:=zi H;repeat(first|go_big_quiet_skip|(go_big_quiet_want;go_big_quiet_op;first|go_big_quiet_on|(apply zU;intro W hW;(first|with_reducible rfl|(go_at_call 61;exact callD (impl_NameOk.calls aE _ _ _ A9.out) hW)|(go_simp;with_reducible rfl));go_big_quiet_on)))
     exact yW
    have bo:=zgtn a9;have bq:decide (50<((qF l0 aa).f2).length)=false:=z0 yo_;clear a9;repeat(first|go_big_quiet_skip|(go_big_quiet_want;go_big_quiet_op;first|go_big_quiet_on|(apply zU;intro W hW;(first|with_reducible rfl|(go_at_call 61;exact callD (impl_NameOk.calls aE _ _ _ A9.out) hW)|(go_simp;with_reducible rfl));go_big_quiet_on)))
    clear HB;refine zW fun bM (HB:Below w8.heap.size w8 bM)=>?_;go_wp2_with(fail)
    go_loopg[5,49] aE (fun kq v5 bi w'=>∃(aJ:Bool) (ab:Int),v5= .bool aJ/\bi= .int .i64 ab/\qB (impl_ProfilesOk.l1 kq l0 aJ l0 (l0.length:Int) aa ((qF l0 aa).f2) (((qF l0 aa).f2).length:Int) ab ((qF l0 aa).f0) ((qF l0 aa).f1) ((qF l0 aa).f2)=some r)/\qB (kq<=aE)/\qB (Below w8.heap.size w8 w'))
    case atStart=>exact⟨((((qF l0 aa).f1)==0)),(0),zr,zr,⟨H⟩,⟨Nat.le_refl _⟩,⟨HB⟩⟩
    case round=>
     clear H HB;obtain⟨aJ,ab,rfl,rfl,H,ai,HB⟩:=hrel;replace HB:=HB.out;replace H:=H.out;have ap:=yB w8;cases gk with
     |zero=>simp[impl_ProfilesOk.l1] at H
     |succ az=>
      simp only[impl_ProfilesOk.l1] at H;refine yD H ?_ ?_<;>clear H<;>intro bZ H
      ·replace H:=yAD H;obtain⟨b0,H⟩:=H;replace H:=yAD H;obtain⟨b1,H⟩:=H;have bD:=yt (0<=(ab:Int));have bE:=yt ((ab:Int)<(((qF l0 aa).f2).length:Int));obtain⟨aZ,a5,ag,ah⟩:=at_T101 af.out ab z2 z2;cases a5;replace ag:=qL ag;replace ah:=qL ah;go_wp2_with(first|(refine zN 7 ?_;(try(refine z4 ?_;dsimp only));refine zX 7 101 #[.int .i64 0,.string (⟨#[]⟩:ByteArray)] ?_;intro ae hg bj hbox hb;have hge:w8.heap.size<=ae:=(by rw[hg];exact qE HB);clear hg;have hst:Below w8.heap.size w8 ((bj.setCell ⟨ae,0,none⟩ (.int .i64 ((qN ((qF l0 aa).f2) ab).f0))).setCell ⟨ae,1,none⟩ (.string ((qN ((qF l0 aa).f2) ab).f1))):=(qJ (qJ (zv HB hb) hge) hge);have hbx:((bj.setCell ⟨ae,0,none⟩ (.int .i64 ((qN ((qF l0 aa).f2) ab).f0))).setCell ⟨ae,1,none⟩ (.string ((qN ((qF l0 aa).f2) ab).f1))).heap[ae]?=some (.cells #[.int .i64 ((qN ((qF l0 aa).f2) ab).f0),.string ((qN ((qF l0 aa).f2) ab).f1)] 101 (0,0)):=(yP hbox);obtain⟨aK,aL,aM,aN⟩:=zc2 hbox)|((with_reducible refine qR (t:=101) (p:=7) rfl ?_);(try(refine z4 ?_;dsimp only));refine ye 101 7 ((bj.setCell ⟨ae,0,none⟩ (.int .i64 ((qN ((qF l0 aa).f2) ab).f0))).setCell ⟨ae,1,none⟩ (.string ((qN ((qF l0 aa).f2) ab).f1))) ?_;intro aR hw;replace hst:=hst;rw[<-hw] at hst hbx;clear hw hb hbox hge HB aK aM aL aN;replace HW:=zz (zv HW.out hst);replace ao:=zz (zv ao.out hst);replace ap:=zz (zv ap.out hst);replace aQ:=zz (Kd.qD aQ.out hst);replace af:=zz (Kd.qD af.out hst);replace ak:=qG ak hst;replace al:=qG al hst;replace am:=qG am hst;replace aw:=qG aw hst;replace ax:=qG ax hst;replace ay:=qG ay hst;replace ag:=qG ag hst;replace ah:=qG ah hst;obtain⟨a6,a7⟩:=zx2 hbx;have HB:=Below.refl aR.heap.size aR;clear hbx hst))
       try simp only[Act.put,List.setIfInBounds_toArray,List.set_cons_zero,List.set_cons_succ]
       refine qT (C:=fun W_=>Below aR.heap.size aR W_) zk zk (qK HB) ?_;refine yD H ?_ ?_<;>clear H<;>intro b2 H
       ·obtain rfl:=zi H;exact yQ
       refine yG H ?_ ?_<;>clear H<;>intro b3 H
       ·obtain rfl:=zi H;exact yQ
       replace H:=yf H;obtain⟨bF,a3,H⟩:=H;refine yF H ?_ ?_<;>clear H<;>rintro rfl H
       ·obtain rfl:=zi H;repeat(first|go_big_quiet_skip|(go_big_quiet_want;go_big_quiet_op;first|go_big_quiet_on|(apply zU;intro W hW;(first|with_reducible rfl|(go_at_call 62;exact callD (impl_AddressOk.calls az _ _ _ a3.out) hW)|(go_simp;with_reducible rfl));go_big_quiet_on)))
        exact yW
       refine yGn H ?_ ?_<;>clear H<;>intro b4 H
       ·repeat(first|go_big_quiet_skip|(go_big_quiet_want;go_big_quiet_op;first|go_big_quiet_on|(apply zU;intro W hW;(first|with_reducible rfl|(go_at_call 62;exact callD (impl_AddressOk.calls az _ _ _ a3.out) hW)|(go_simp;with_reducible rfl));go_big_quiet_on)))
        clear HB;refine zW fun bN (HB:Below aR.heap.size aR bN)=>?_;refine yT H ?_ ?_<;>clear H<;>rintro rfl H
        ·go_wp2_with(fail)
         go_roundg az
         case measure=>exact yM2 ad ai
         case rel=>exact⟨(true),(wrap64 (ab+1)),zr,zr,⟨H⟩,⟨yM2 ad ai⟩,⟨zv ap.out HB⟩⟩
        go_wp2_with(fail)
        go_roundg az
        case measure=>exact yM2 ad ai
        case rel=>exact⟨((((qN ((qF l0 aa).f2) ab).f0)==((qF l0 aa).f1))),(wrap64 (ab+1)),zr,zr,⟨H⟩,⟨yM2 ad ai⟩,⟨zv ap.out HB⟩⟩
       obtain⟨a0,aH⟩:∃j_:Int,(wrap64 (ab - 1))=j_:=⟨_,rfl⟩
       (first|rw[aH] at H|simp only[aH] at H)
       have bO:(IntKind.i64.wrap (ab - 1))=a0:=(i64_w _).trans aH
       (try rw[aH] at A9)
       (try rw[aH] at a3)
       replace H:=yAD H;obtain⟨b5,H⟩:=H;replace H:=yAD H;obtain⟨b6,H⟩:=H;have bG:=yt (0<=((a0):Int));have bH:=yt (((a0):Int)<(((qF l0 aa).f2).length:Int));obtain⟨a1,a8,ar,au⟩:=at_T101 af.out (a0) z2 z2;obtain rfl:aZ=a1:=(by injection a8)
       replace ar:=qL ar;replace au:=qL au;refine yE H ?_ ?_<;>clear H<;>intro b7 H
       ·obtain rfl:=zi H;repeat(first|go_big_quiet_skip|(go_big_quiet_want;go_big_quiet_op;first|go_big_quiet_on|(apply zU;intro W hW;(first|with_reducible rfl|(go_at_call 62;exact callD (impl_AddressOk.calls az _ _ _ a3.out) hW)|(go_simp;with_reducible rfl));go_big_quiet_on)))
        exact yW
       repeat(first|go_big_quiet_skip|(go_big_quiet_want;go_big_quiet_op;first|go_big_quiet_on|(apply zU;intro W hW;(first|with_reducible rfl|(go_at_call 62;exact callD (impl_AddressOk.calls az _ _ _ a3.out) hW)|(go_simp;with_reducible rfl));go_big_quiet_on)))
       clear HB;refine zW fun bP (HB:Below aR.heap.size aR bP)=>?_;refine yT H ?_ ?_<;>clear H<;>rintro rfl H
       ·go_wp2_with(fail)
        go_roundg az
        case measure=>exact yM2 ad ai
        case rel=>exact⟨(true),(wrap64 (ab+1)),zr,zr,⟨H⟩,⟨yM2 ad ai⟩,⟨zv ap.out HB⟩⟩
       go_wp2_with(fail)
       go_roundg az
       case measure=>exact yM2 ad ai
       case rel=>exact⟨((((qN ((qF l0 aa).f2) ab).f0)==((qF l0 aa).f1))),(wrap64 (ab+1)),zr,zr,⟨H⟩,⟨yM2 ad ai⟩,⟨zv ap.out HB⟩⟩
      refine yT H ?_ ?_<;>clear H<;>rintro rfl H
      ·go_wp2_with(fail)
       go_roundg az
       case measure=>exact yM2 ad ai
       case rel=>exact⟨(wrap64 (aa+1)),zr,⟨H⟩,⟨yM2 ad ai⟩,⟨zv ao.out HB⟩⟩
      obtain rfl:=zi H;exact yR
   obtain⟨aO,aT⟩:∃j_:Int,(wrap64 (aa - 1))=j_:=⟨_,rfl⟩
   (first|rw[aT] at H|simp only[aT] at H)
   have bQ:(IntKind.i64.wrap (aa - 1))=aO:=(i64_w _).trans aT
   (try rw[aT] at A9)
   replace H:=yAD H;obtain⟨b8,H⟩:=H;replace H:=yAD H;obtain⟨b9,H⟩:=H;have cr:=yt (0<=((aO):Int));have cu:=yt (((aO):Int)<(l0.length:Int));obtain⟨br,bR,bS,bI,aB,aC,aD,aW,aX⟩:=at_T99 aQ.out (aO) z2 z2;obtain rfl:bn=br:=(by injection bI)
   replace aB:=qL aB;replace aC:=qL aC;replace aD:=qL aD;have aY:=zz aX;have bK:=zz aW;clear aX aW;refine yCn H ?_ ?_<;>clear H<;>intro ba H
   ·have bs:(Op.bytesLess (((qF l0 (aO)).f0).toList) (((qF l0 aa).f0).toList))=false:=by simpa using ba
    clear ba;obtain rfl:=zi H;repeat(first|go_big_quiet_skip|(go_big_quiet_want;go_big_quiet_op;first|go_big_quiet_on|(apply zU;intro W hW;(first|with_reducible rfl|(go_at_call 61;exact callD (impl_NameOk.calls aE _ _ _ A9.out) hW)|(go_simp;with_reducible rfl));go_big_quiet_on)))
    exact yW
   have bs:(Op.bytesLess (((qF l0 (aO)).f0).toList) (((qF l0 aa).f0).toList))=true:=ba;clear ba;refine yC H ?_ ?_<;>clear H<;>intro bb H
   ·have bu:=zgt bb;have bv:decide (50<((qF l0 aa).f2).length)=true:=z1 yo_;clear bb;obtain rfl:=zi H;repeat(first|go_big_quiet_skip|(go_big_quiet_want;go_big_quiet_op;first|go_big_quiet_on|(apply zU;intro W hW;(first|with_reducible rfl|(go_at_call 61;exact callD (impl_NameOk.calls aE _ _ _ A9.out) hW)|(go_simp;with_reducible rfl));go_big_quiet_on)))
    exact yW
   have bu:=zgtn bb;have bv:decide (50<((qF l0 aa).f2).length)=false:=z0 yo_;clear bb;repeat(first|go_big_quiet_skip|(go_big_quiet_want;go_big_quiet_op;first|go_big_quiet_on|(apply zU;intro W hW;(first|with_reducible rfl|(go_at_call 61;exact callD (impl_NameOk.calls aE _ _ _ A9.out) hW)|(go_simp;with_reducible rfl));go_big_quiet_on)))
   clear HB;refine zW fun bT (HB:Below w8.heap.size w8 bT)=>?_;go_wp2_with(fail)
   go_loopg[5,49] aE (fun kq v5 bi w'=>∃(aP:Bool) (ac:Int),v5= .bool aP/\bi= .int .i64 ac/\qB (impl_ProfilesOk.l1 kq l0 aP l0 (l0.length:Int) aa ((qF l0 aa).f2) (((qF l0 aa).f2).length:Int) ac ((qF l0 aa).f0) ((qF l0 aa).f1) ((qF l0 aa).f2)=some r)/\qB (kq<=aE)/\qB (Below w8.heap.size w8 w'))
   case atStart=>exact⟨((((qF l0 aa).f1)==0)),(0),zr,zr,⟨H⟩,⟨Nat.le_refl _⟩,⟨HB⟩⟩
   case round=>
    clear H HB;obtain⟨aP,ac,rfl,rfl,H,aj,HB⟩:=hrel;replace HB:=HB.out;replace H:=H.out;have av:=yB w8;cases gk with
    |zero=>simp[impl_ProfilesOk.l1] at H
    |succ aA=>
     simp only[impl_ProfilesOk.l1] at H;refine yD H ?_ ?_<;>clear H<;>intro ca H
     ·replace H:=yAD H;obtain⟨cb,H⟩:=H;replace H:=yAD H;obtain⟨cc,H⟩:=H;have bD:=yt (0<=(ac:Int));have bE:=yt ((ac:Int)<(((qF l0 aa).f2).length:Int));obtain⟨aZ,a5,ag,ah⟩:=at_T101 af.out ac z2 z2;cases a5;replace ag:=qL ag;replace ah:=qL ah;go_wp2_with(first|(refine zN 7 ?_;(try(refine z4 ?_;dsimp only));refine zX 7 101 #[.int .i64 0,.string (⟨#[]⟩:ByteArray)] ?_;intro ae hg bk hbox hb;have hge:w8.heap.size<=ae:=(by rw[hg];exact qE HB);clear hg;have hst:Below w8.heap.size w8 ((bk.setCell ⟨ae,0,none⟩ (.int .i64 ((qN ((qF l0 aa).f2) ac).f0))).setCell ⟨ae,1,none⟩ (.string ((qN ((qF l0 aa).f2) ac).f1))):=(qJ (qJ (zv HB hb) hge) hge);have hbx:((bk.setCell ⟨ae,0,none⟩ (.int .i64 ((qN ((qF l0 aa).f2) ac).f0))).setCell ⟨ae,1,none⟩ (.string ((qN ((qF l0 aa).f2) ac).f1))).heap[ae]?=some (.cells #[.int .i64 ((qN ((qF l0 aa).f2) ac).f0),.string ((qN ((qF l0 aa).f2) ac).f1)] 101 (0,0)):=(yP hbox);obtain⟨aK,aL,aM,aN⟩:=zc2 hbox)|((with_reducible refine qR (t:=101) (p:=7) rfl ?_);(try(refine z4 ?_;dsimp only));refine ye 101 7 ((bk.setCell ⟨ae,0,none⟩ (.int .i64 ((qN ((qF l0 aa).f2) ac).f0))).setCell ⟨ae,1,none⟩ (.string ((qN ((qF l0 aa).f2) ac).f1))) ?_;intro aS hw;replace hst:=hst;rw[<-hw] at hst hbx;clear hw hb hbox hge HB aK aM aL aN;replace HW:=zz (zv HW.out hst);replace ao:=zz (zv ao.out hst);replace av:=zz (zv av.out hst);replace af:=zz (Kd.qD af.out hst);replace ak:=qG ak hst;replace al:=qG al hst;replace am:=qG am hst;replace aw:=qG aw hst;replace ax:=qG ax hst;replace ay:=qG ay hst;replace aB:=qG aB hst;replace aC:=qG aC hst;replace aD:=qG aD hst;replace ag:=qG ag hst;replace ah:=qG ah hst;obtain⟨a6,a7⟩:=zx2 hbx;have HB:=Below.refl aS.heap.size aS;clear hbx hst))
      try simp only[Act.put,List.setIfInBounds_toArray,List.set_cons_zero,List.set_cons_succ]
      refine qT (C:=fun W_=>Below aS.heap.size aS W_) zk zk (qK HB) ?_;refine yD H ?_ ?_<;>clear H<;>intro cd H
      ·obtain rfl:=zi H;exact yQ
      refine yG H ?_ ?_<;>clear H<;>intro ce H
      ·obtain rfl:=zi H;exact yQ
      replace H:=yf H;obtain⟨bF,a4,H⟩:=H;refine yF H ?_ ?_<;>clear H<;>rintro rfl H
      ·obtain rfl:=zi H;repeat(first|go_big_quiet_skip|(go_big_quiet_want;go_big_quiet_op;first|go_big_quiet_on|(apply zU;intro W hW;(first|with_reducible rfl|(go_at_call 62;exact callD (impl_AddressOk.calls aA _ _ _ a4.out) hW)|(go_simp;with_reducible rfl));go_big_quiet_on)))
       exact yW
      refine yGn H ?_ ?_<;>clear H<;>intro cf H
      ·repeat(first|go_big_quiet_skip|(go_big_quiet_want;go_big_quiet_op;first|go_big_quiet_on|(apply zU;intro W hW;(first|with_reducible rfl|(go_at_call 62;exact callD (impl_AddressOk.calls aA _ _ _ a4.out) hW)|(go_simp;with_reducible rfl));go_big_quiet_on)))
       clear HB;refine zW fun bU (HB:Below aS.heap.size aS bU)=>?_;refine yT H ?_ ?_<;>clear H<;>rintro rfl H
       ·go_wp2_with(fail)
        go_roundg aA
        case measure=>exact yM2 ad aj
        case rel=>exact⟨(true),(wrap64 (ac+1)),zr,zr,⟨H⟩,⟨yM2 ad aj⟩,⟨zv av.out HB⟩⟩
       go_wp2_with(fail)
       go_roundg aA
       case measure=>exact yM2 ad aj
       case rel=>exact⟨((((qN ((qF l0 aa).f2) ac).f0)==((qF l0 aa).f1))),(wrap64 (ac+1)),zr,zr,⟨H⟩,⟨yM2 ad aj⟩,⟨zv av.out HB⟩⟩
      obtain⟨a2,aI⟩:∃j_:Int,(wrap64 (ac - 1))=j_:=⟨_,rfl⟩
      (first|rw[aI] at H|simp only[aI] at H)
      have bV:(IntKind.i64.wrap (ac - 1))=a2:=(i64_w _).trans aI
      (try rw[aI] at A9)
      (try rw[aI] at a4)
      replace H:=yAD H;obtain⟨cg,H⟩:=H;replace H:=yAD H;obtain⟨ch,H⟩:=H;have bG:=yt (0<=((a2):Int));have bH:=yt (((a2):Int)<(((qF l0 aa).f2).length:Int));obtain⟨a1,a8,ar,au⟩:=at_T101 af.out (a2) z2 z2;obtain rfl:aZ=a1:=(by injection a8)
      replace ar:=qL ar;replace au:=qL au;refine yE H ?_ ?_<;>clear H<;>intro ci H
      ·obtain rfl:=zi H;repeat(first|go_big_quiet_skip|(go_big_quiet_want;go_big_quiet_op;first|go_big_quiet_on|(apply zU;intro W hW;(first|with_reducible rfl|(go_at_call 62;exact callD (impl_AddressOk.calls aA _ _ _ a4.out) hW)|(go_simp;with_reducible rfl));go_big_quiet_on)))
       exact yW
      repeat(first|go_big_quiet_skip|(go_big_quiet_want;go_big_quiet_op;first|go_big_quiet_on|(apply zU;intro W hW;(first|with_reducible rfl|(go_at_call 62;exact callD (impl_AddressOk.calls aA _ _ _ a4.out) hW)|(go_simp;with_reducible rfl));go_big_quiet_on)))
      clear HB;refine zW fun bW (HB:Below aS.heap.size aS bW)=>?_;refine yT H ?_ ?_<;>clear H<;>rintro rfl H
      ·go_wp2_with(fail)
       go_roundg aA
       case measure=>exact yM2 ad aj
       case rel=>exact⟨(true),(wrap64 (ac+1)),zr,zr,⟨H⟩,⟨yM2 ad aj⟩,⟨zv av.out HB⟩⟩
      go_wp2_with(fail)
      go_roundg aA
      case measure=>exact yM2 ad aj
      case rel=>exact⟨((((qN ((qF l0 aa).f2) ac).f0)==((qF l0 aa).f1))),(wrap64 (ac+1)),zr,zr,⟨H⟩,⟨yM2 ad aj⟩,⟨zv av.out HB⟩⟩
     refine yT H ?_ ?_<;>clear H<;>rintro rfl H
     ·go_wp2_with(fail)
      go_roundg aA
      case measure=>exact yM2 ad aj
      case rel=>exact⟨(wrap64 (aa+1)),zr,⟨H⟩,⟨yM2 ad aj⟩,⟨zv ao.out HB⟩⟩
     obtain rfl:=zi H;exact yR
def impl_pendingOk.f(k:Nat)(ab:ByteArray)(ac:List (S63))(aa:ByteArray):Option (Bool):=(impl_AddressOk.f k ab).bind fun ad=>(if ad=true then((impl_TreeOk.f k ac).bind fun ae=>(if ae=true then(if aa.toList=([]:List UInt8) then(some true) else((impl_AddressOk.f k aa).bind fun af=>(some af))) else(some false))) else(some false))
theorem impl_pendingOk.calls(k:Nat)(ad:ByteArray)(ae:Option Addr)(af:Nat)(ab:List (S63))(ag:ByteArray)(r:Bool)(w:World)(ah:Kd.C k63 w ae ab.length ab)(ai:ab.length<=af)(hG_:GOK w)(H:impl_pendingOk.f k ad ab ag=some r):
 Calls Tryz.prog 60 #[.agg #[.string ad,.slice ae ab.length af,.string ag]] w fun e w'=>e= .returned (.bool r)/\Below w.heap.size w w':=by
 have ar:=Tryz.underlying94;have HG:=zz hG_;clear hG_;have aa:=zz ah;have ac:=zz ai;clear ah ai;have HB:=yB w;unfold impl_pendingOk.f at H;replace HB:=HB.out;have HW:=yB w;go_enter Tryz.func60,Tryz.ntmps60;replace H:=yf H;obtain⟨au,A2,H⟩:=H;go_wp2_with(first|(refine zN 1 ?_;(try(refine z4 ?_;dsimp only));refine zX 1 94 #[.string ad,.slice ae ab.length af,.string ag] ?_;intro ap hg w4 hbox hb;have hst:=zv HB hb;clear hg hb HB;replace HW:=zz (zv HW.out hst);replace aa:=zz (Kd.qD aa.out hst);obtain⟨aj,ak,al⟩:=zx3 hbox;have HB:=Below.refl w4.heap.size w4;clear hbox hst))
 refine(impl_AddressOk.calls k _ _ _ A2.out).mono ?_;rintro e w5 ⟨rfl,hd⟩;replace HB:=zv HB hd.below;clear hd;refine yF H ?_ ?_<;>clear H<;>rintro rfl H
 ·obtain rfl:=zi H;exact yR
 replace H:=yf H;obtain⟨av,A6,H⟩:=H;refine yF H ?_ ?_<;>clear H<;>rintro rfl H
 ·go_wp2_with(fail)
  refine(impl_TreeOk.calls k _ _ _ _ _ (Kd.qD aa.out HB) ac.out (GOK.below HG.out (zv HW.out HB)) A6.out).mono ?_;rintro e ax ⟨rfl,hb⟩;replace HB:=zv HB hb;clear hb;obtain rfl:=zi H;exact yR
 refine yC H ?_ ?_<;>clear H<;>intro c8 H
 ·obtain⟨am,an⟩:=zq c8;clear c8;go_wp2_with(fail)
  refine(impl_TreeOk.calls k _ _ _ _ _ (Kd.qD aa.out HB) ac.out (GOK.below HG.out (zv HW.out HB)) A6.out).mono ?_;rintro e ay ⟨rfl,hb⟩;replace HB:=zv HB hb;clear hb;obtain rfl:=zi H;exact yR
 obtain⟨am,an⟩:=zw c8;go_wp2_with(fail)
 refine(impl_TreeOk.calls k _ _ _ _ _ (Kd.qD aa.out HB) ac.out (GOK.below HG.out (zv HW.out HB)) A6.out).mono ?_;rintro e az ⟨rfl,hb⟩;replace HB:=zv HB hb;clear hb;replace H:=yf H;obtain⟨aw,ao,H⟩:=H;go_wp2_with(fail)
 refine(impl_AddressOk.calls k _ _ _ ao.out).mono ?_;rintro e aA ⟨rfl,hd⟩;replace HB:=zv HB hd.below;clear hd;obtain rfl:=zi H;exact yR
mutual
def impl_WorldOk.l0:Nat->List (S94)->Int->Int->List (S61)->List (S99)->List (S94)->List (S96)->Option (Bool)
 |0,_,_,_,_,_,_,_=>none
 |k+1,ai,an,af,ac,aa,ad,ab=>if af<an then(if 0<=af then(if af<(ai.length:Int) then((impl_pendingOk.f k ((rd_T94 ai af).f0) ((rd_T94 ai af).f1) ((rd_T94 ai af).f2)).bind fun ar=>(if ar=true then(impl_WorldOk.l0 k ai an (wrap64 (af+1)) ac aa ad ab) else(some false))) else(none)) else(none)) else(impl_WorldOk.l1 k ab (ab.length:Int) 0 ac aa ad ab)
def impl_WorldOk.l1:Nat->List (S96)->Int->Int->List (S61)->List (S99)->List (S94)->List (S96)->Option (Bool)
 |0,_,_,_,_,_,_,_=>none
 |k+1,al,ao,ah,ac,aa,ad,ab=>if ah<ao then(if 0<=ah then(if ah<(al.length:Int) then((impl_NameOk.f k ((rd_T96 al ah).f0)).bind fun au=>(if au=true then((impl_AddressOk.f k ((rd_T96 al ah).f1)).bind fun av=>(if av=true then(impl_WorldOk.l1 k al ao (wrap64 (ah+1)) ac aa ad ab) else(some false))) else(some false))) else(none)) else(none)) else(impl_WorldOk.l2 k aa (aa.length:Int) 0 ac aa ad ab)
def impl_WorldOk.l2:Nat->List (S99)->Int->Int->List (S61)->List (S99)->List (S94)->List (S96)->Option (Bool)
 |0,_,_,_,_,_,_,_=>none
 |k+1,ag,aj,ae,ac,aa,ad,ab=>if ae<aj then(if 0<=ae then(if ae<(ag.length:Int) then(impl_WorldOk.l3 k ag aj ae ((qF ag ae).f2) (((qF ag ae).f2).length:Int) 0 ac aa ad ab) else(none)) else(none)) else(some true)
def impl_WorldOk.l3:Nat->List (S99)->Int->Int->List (S101)->Int->Int->List (S61)->List (S99)->List (S94)->List (S96)->Option (Bool)
 |0,_,_,_,_,_,_,_,_,_,_=>none
 |k+1,ag,aj,ae,am,ap,ak,ac,aa,ad,ab=>if ak<ap then(if 0<=ak then(if ak<(am.length:Int) then((impl_itemOf.f k ac ((qN am ak).f1)).bind fun aw=>(if aw<0 then(some false) else(impl_WorldOk.l3 k ag aj ae am ap (wrap64 (ak+1)) ac aa ad ab))) else(none)) else(none)) else(impl_WorldOk.l2 k ag aj (wrap64 (ae+1)) ac aa ad ab)
end
def impl_WorldOk.f(k:Nat)(ab:List (S61))(ac:List (S99))(aa:List (S94))(ad:List (S96)):Option (Bool):=(impl_StoreOk.f k ab).bind fun ae=>(if ae=true then((impl_ProfilesOk.f k ac).bind fun af=>(if af=true then(if(aa.length:Int)>20 then(some false) else(if(ad.length:Int)>20 then(some false) else(impl_WorldOk.l0 k aa (aa.length:Int) 0 ab ac aa ad))) else(some false))) else(some false))
theorem impl_WorldOk.calls(k:Nat)(a6:Option Addr)(a7:Nat)(aC:List (S61))(a8:Option Addr)(a9:Nat)(ac:List (S99))(ba:Option Addr)(bb:Nat)(af:List (S94))(bc:Option Addr)(bd:Nat)(ag:List (S96))(r:Bool)(w:World)(bf:Kd.C k61 w a6 aC.length aC)(bg:aC.length<=a7)(bh:Kd.C k99 w a8 ac.length ac)(bi:ac.length<=a9)(bj:Kd.C k94 w ba af.length af)(bk:af.length<=bb)(bn:Kd.C k96 w bc ag.length ag)(bo:ag.length<=bd)(hG_:GOK w)(H:impl_WorldOk.f k aC ac af ag=some r):
 Calls Tryz.prog 27 #[.agg #[.slice a6 aC.length a7,.slice a8 ac.length a9,.slice ba af.length bb,.slice bc ag.length bd]] w fun e w'=>e= .returned (.bool r)/\Below w.heap.size w w':=by
 have cK:=Tryz.underlying39;have cL:=Tryz.underlying94;have cM:=Tryz.underlying96;have cN:=Tryz.underlying99;have cn:=Tryz.underlying101;have HG:=zz hG_;clear hG_;have am:=zz bf;have bq:=zz bg;clear bf bg;have ah:=zz bh;have aW:=zz bi;clear bh bi;have an:=zz bj;have co:=zz bk;clear bj bk;have ao:=zz bn;have cp:=zz bo;clear bn bo;have HB:=yB w;unfold impl_WorldOk.f at H;replace HB:=HB.out;have HW:=yB w;go_enter Tryz.func27,Tryz.ntmps27;replace H:=yf H;obtain⟨cO,A2,H⟩:=H;go_wp2_with(first|(refine zN 1 ?_;(try(refine z4 ?_;dsimp only));refine zX 1 39 #[.slice a6 aC.length a7,.slice a8 ac.length a9,.slice ba af.length bb,.slice bc ag.length bd] ?_;intro cq hg w5 hbox hb;have hst:=zv HB hb;clear hg hb HB;replace HW:=zz (zv HW.out hst);replace am:=zz (Kd.qD am.out hst);replace ah:=zz (Kd.qD ah.out hst);replace an:=zz (Kd.qD an.out hst);replace ao:=zz (Kd.qD ao.out hst);obtain⟨ai,aj,ak,al⟩:=zx4 hbox;have HB:=Below.refl w5.heap.size w5;clear hbox hst))
 refine(impl_StoreOk.calls k _ _ _ _ _ (Kd.qD am.out HB) bq.out (GOK.below HG.out (zv HW.out HB)) A2.out).mono ?_;rintro e w6 ⟨rfl,hb⟩;replace HB:=zv HB hb;clear hb;refine yF H ?_ ?_<;>clear H<;>rintro rfl H
 ·obtain rfl:=zi H;exact yR
 replace H:=yf H;obtain⟨cP,A7,H⟩:=H;refine yF H ?_ ?_<;>clear H<;>rintro rfl H
 ·go_wp2_with(fail)
  refine(impl_ProfilesOk.calls k _ _ _ _ _ (Kd.qD ah.out HB) aW.out A7.out).mono ?_;rintro e c7 ⟨rfl,hb⟩;replace HB:=zv HB hb;clear hb;obtain rfl:=zi H;exact yR
 refine yC H ?_ ?_<;>clear H<;>intro c9 H
 ·have b1:=zgt c9;have b2:decide (20<af.length)=true:=z1 yo_;clear c9;go_wp2_with(fail)
  refine(impl_ProfilesOk.calls k _ _ _ _ _ (Kd.qD ah.out HB) aW.out A7.out).mono ?_;rintro e c8 ⟨rfl,hb⟩;replace HB:=zv HB hb;clear hb;obtain rfl:=zi H;exact yR
 have b1:=zgtn c9;have b2:decide (20<af.length)=false:=z0 yo_;clear c9;refine yC H ?_ ?_<;>clear H<;>intro br H
 ·have bV:=zgt br;have bW:decide (20<ag.length)=true:=z1 yo_;clear br;go_wp2_with(fail)
  refine(impl_ProfilesOk.calls k _ _ _ _ _ (Kd.qD ah.out HB) aW.out A7.out).mono ?_;rintro e da ⟨rfl,hb⟩;replace HB:=zv HB hb;clear hb;obtain rfl:=zi H;exact yR
 have bV:=zgtn br;have bW:decide (20<ag.length)=false:=z0 yo_;clear br;go_wp2_with(fail)
 refine(impl_ProfilesOk.calls k _ _ _ _ _ (Kd.qD ah.out HB) aW.out A7.out).mono ?_;rintro e db ⟨rfl,hb⟩;replace HB:=zv HB hb;clear hb;go_wp2_with(fail)
 go_loopg[36] k (fun kq cf w'=>∃(ab:Int),cf= .int .i64 ab/\qB (impl_WorldOk.l0 kq af (af.length:Int) ab aC ac af ag=some r)/\qB (kq<=k)/\qB (Below w5.heap.size w5 w'))
 case atStart=>exact⟨(0),zr,⟨H⟩,⟨Nat.le_refl _⟩,⟨HB⟩⟩
 case round=>
  clear H HB;obtain⟨ab,rfl,H,av,HB⟩:=hrel;replace HB:=HB.out;replace H:=H.out;have ap:=yB w5;cases gk with
  |zero=>simp[impl_WorldOk.l0] at H
  |succ a5=>
   simp only[impl_WorldOk.l0] at H;refine yD H ?_ ?_<;>clear H<;>intro cr H
   ·replace H:=yAD H;obtain⟨cu,H⟩:=H;replace H:=yAD H;obtain⟨cv,H⟩:=H;have cQ:=yt (0<=(ab:Int));have cR:=yt ((ab:Int)<(af.length:Int));obtain⟨cw,aN,aO,b3,aG,aH,aI,a1,a2⟩:=at_T94 an.out ab z2 z2;cases b3;replace aG:=qL aG;replace aH:=qL aH;replace aI:=qL aI;have aT:=zz a2;have bs:=zz a1;clear a2 a1;replace H:=yf H;obtain⟨cS,cg,H⟩:=H;go_wp2_with(first|(refine zN 4 ?_;(try(refine z4 ?_;dsimp only));refine zX 4 94 #[.string (⟨#[]⟩:ByteArray),.slice none 0 0,.string (⟨#[]⟩:ByteArray)] ?_;intro ar hg bQ hbox hb;have hge:w5.heap.size<=ar:=(by rw[hg];exact qE HB);clear hg;have hst:Below w5.heap.size w5 (((bQ.setCell ⟨ar,0,none⟩ (.string ((rd_T94 af ab).f0))).setCell ⟨ar,1,none⟩ (.slice aN ((rd_T94 af ab).f1).length aO)).setCell ⟨ar,2,none⟩ (.string ((rd_T94 af ab).f2))):=(qJ (qJ (qJ (zv HB hb) hge) hge) hge);have hbx:(((bQ.setCell ⟨ar,0,none⟩ (.string ((rd_T94 af ab).f0))).setCell ⟨ar,1,none⟩ (.slice aN ((rd_T94 af ab).f1).length aO)).setCell ⟨ar,2,none⟩ (.string ((rd_T94 af ab).f2))).heap[ar]?=some (.cells #[.string ((rd_T94 af ab).f0),.slice aN ((rd_T94 af ab).f1).length aO,.string ((rd_T94 af ab).f2)] 94 (0,0)):=(yP hbox);obtain⟨bu,bv,bw,bz,bA,bB⟩:=zc3 hbox)|((with_reducible refine qR (t:=94) (p:=4) rfl ?_);(try(refine z4 ?_;dsimp only));refine ye 94 4 (((bQ.setCell ⟨ar,0,none⟩ (.string ((rd_T94 af ab).f0))).setCell ⟨ar,1,none⟩ (.slice aN ((rd_T94 af ab).f1).length aO)).setCell ⟨ar,2,none⟩ (.string ((rd_T94 af ab).f2))) ?_;intro bX hw;replace hst:=hst;rw[<-hw] at hst hbx;clear hw hb hbox hge HB bu bz bv bA bw bB;replace HW:=zz (zv HW.out hst);replace ap:=zz (zv ap.out hst);replace am:=zz (Kd.qD am.out hst);replace ah:=zz (Kd.qD ah.out hst);replace ao:=zz (Kd.qD ao.out hst);replace aT:=zz (Kd.qD aT.out hst);replace ai:=qG ai hst;replace aj:=qG aj hst;replace ak:=qG ak hst;replace al:=qG al hst;replace aG:=qG aG hst;replace aH:=qG aH hst;replace aI:=qG aI hst;obtain⟨b4,b5,b6⟩:=zx3 hbx;have HB:=Below.refl bX.heap.size bX;clear hbx hst))
    refine(impl_pendingOk.calls a5 _ _ _ _ _ _ _ (Kd.qD aT.out HB) bs.out (GOK.below HG.out (zv HW.out HB)) cg.out).mono ?_;rintro e dc ⟨rfl,hb⟩;replace HB:=zv HB hb;clear hb;refine yT H ?_ ?_<;>clear H<;>rintro rfl H
    ·go_wp2_with(fail)
     go_roundg a5
     case measure=>exact yM1 av
     case rel=>exact⟨(wrap64 (ab+1)),zr,⟨H⟩,⟨yM1 av⟩,⟨zv ap.out HB⟩⟩
    obtain rfl:=zi H;exact yR
   go_wp2_with(fail)
   go_loopg[47] a5 (fun kq ch w'=>∃(ad:Int),ch= .int .i64 ad/\qB (impl_WorldOk.l1 kq ag (ag.length:Int) ad aC ac af ag=some r)/\qB (kq<=a5)/\qB (Below w5.heap.size w5 w'))
   case atStart=>exact⟨(0),zr,⟨H⟩,⟨Nat.le_refl _⟩,⟨HB⟩⟩
   case round=>
    clear H HB;obtain⟨ad,rfl,H,aD,HB⟩:=hrel;replace HB:=HB.out;replace H:=H.out;have az:=yB w5;cases gk with
    |zero=>simp[impl_WorldOk.l1] at H
    |succ aU=>
     simp only[impl_WorldOk.l1] at H;refine yD H ?_ ?_<;>clear H<;>intro cx H
     ·replace H:=yAD H;obtain⟨cy,H⟩:=H;replace H:=yAD H;obtain⟨cz,H⟩:=H;have cT:=yt (0<=(ad:Int));have cU:=yt ((ad:Int)<(ag.length:Int));obtain⟨cA,b7,aJ,aK⟩:=at_T96 ao.out ad z2 z2;cases b7;replace aJ:=qL aJ;replace aK:=qL aK;replace H:=yf H;obtain⟨cV,ci,H⟩:=H;go_wp2_with(first|(refine zN 6 ?_;(try(refine z4 ?_;dsimp only));refine zX 6 96 #[.string (⟨#[]⟩:ByteArray),.string (⟨#[]⟩:ByteArray)] ?_;intro aA hg bR hbox hb;have hge:w5.heap.size<=aA:=(by rw[hg];exact qE HB);clear hg;have hst:Below w5.heap.size w5 ((bR.setCell ⟨aA,0,none⟩ (.string ((rd_T96 ag ad).f0))).setCell ⟨aA,1,none⟩ (.string ((rd_T96 ag ad).f1))):=(qJ (qJ (zv HB hb) hge) hge);have hbx:((bR.setCell ⟨aA,0,none⟩ (.string ((rd_T96 ag ad).f0))).setCell ⟨aA,1,none⟩ (.string ((rd_T96 ag ad).f1))).heap[aA]?=some (.cells #[.string ((rd_T96 ag ad).f0),.string ((rd_T96 ag ad).f1)] 96 (0,0)):=(yP hbox);obtain⟨bC,bD,bE,bF⟩:=zc2 hbox)|((with_reducible refine qR (t:=96) (p:=6) rfl ?_);(try(refine z4 ?_;dsimp only));refine ye 96 6 ((bR.setCell ⟨aA,0,none⟩ (.string ((rd_T96 ag ad).f0))).setCell ⟨aA,1,none⟩ (.string ((rd_T96 ag ad).f1))) ?_;intro bY hw;replace hst:=hst;rw[<-hw] at hst hbx;clear hw hb hbox hge HB bC bE bD bF;replace HW:=zz (zv HW.out hst);replace ap:=zz (zv ap.out hst);replace az:=zz (zv az.out hst);replace am:=zz (Kd.qD am.out hst);replace ah:=zz (Kd.qD ah.out hst);replace ai:=qG ai hst;replace aj:=qG aj hst;replace ak:=qG ak hst;replace al:=qG al hst;replace aJ:=qG aJ hst;replace aK:=qG aK hst;obtain⟨b8,b9⟩:=zx2 hbx;have HB:=Below.refl bY.heap.size bY;clear hbx hst))
      refine(impl_NameOk.calls aU _ _ _ ci.out).mono ?_;rintro e de ⟨rfl,hd⟩;replace HB:=zv HB hd.below;clear hd;refine yF H ?_ ?_<;>clear H<;>rintro rfl H
      ·obtain rfl:=zi H;exact yR
      replace H:=yf H;obtain⟨cW,bZ,H⟩:=H;refine yT H ?_ ?_<;>clear H<;>rintro rfl H
      ·go_wp2_with(fail)
       refine(impl_AddressOk.calls aU _ _ _ bZ.out).mono ?_;rintro e df ⟨rfl,hd⟩;replace HB:=zv HB hd.below;clear hd;go_wp2_with(fail)
       go_roundg aU
       case measure=>exact yM2 av aD
       case rel=>exact⟨(wrap64 (ad+1)),zr,⟨H⟩,⟨yM2 av aD⟩,⟨zv az.out HB⟩⟩
      go_wp2_with(fail)
      refine(impl_AddressOk.calls aU _ _ _ bZ.out).mono ?_;rintro e dh ⟨rfl,hd⟩;replace HB:=zv HB hd.below;clear hd;obtain rfl:=zi H;exact yR
     go_wp2_with(fail)
     go_loopg[65] aU (fun kq cj w'=>∃(aa:Int),cj= .int .i64 aa/\qB (impl_WorldOk.l2 kq ac (ac.length:Int) aa aC ac af ag=some r)/\qB (kq<=aU)/\qB (Below w5.heap.size w5 w'))
     case atStart=>exact⟨(0),zr,⟨H⟩,⟨Nat.le_refl _⟩,⟨HB⟩⟩
     case round=>
      clear H HB;obtain⟨aa,rfl,H,aP,HB⟩:=hrel;replace HB:=HB.out;replace H:=H.out;have aF:=yB w5;cases gk with
      |zero=>simp[impl_WorldOk.l2] at H
      |succ bS=>
       simp only[impl_WorldOk.l2] at H;refine yDn H ?_ ?_<;>clear H<;>intro cB H
       ·obtain rfl:=zi H;exact yR
       replace H:=yAD H;obtain⟨cC,H⟩:=H;replace H:=yAD H;obtain⟨cD,H⟩:=H;have cX:=yt (0<=(aa:Int));have cY:=yt ((aa:Int)<(ac.length:Int));obtain⟨cE,aQ,aR,ca,aw,ax,ay,a3,a4⟩:=at_T99 ah.out aa z2 z2;cases ca;replace aw:=qL aw;replace ax:=qL ax;replace ay:=qL ay;have aE:=zz a4;have ce:=zz a3;clear a4 a3;go_wp2_with(first|(refine zN 8 ?_;(try(refine z4 ?_;dsimp only));refine zX 8 99 #[.string (⟨#[]⟩:ByteArray),.int .i64 0,.slice none 0 0] ?_;intro au hg bT hbox hb;have hge:w5.heap.size<=au:=(by rw[hg];exact qE HB);clear hg;have hst:Below w5.heap.size w5 (((bT.setCell ⟨au,0,none⟩ (.string ((qF ac aa).f0))).setCell ⟨au,1,none⟩ (.int .i64 ((qF ac aa).f1))).setCell ⟨au,2,none⟩ (.slice aQ ((qF ac aa).f2).length aR)):=(qJ (qJ (qJ (zv HB hb) hge) hge) hge);have hbx:(((bT.setCell ⟨au,0,none⟩ (.string ((qF ac aa).f0))).setCell ⟨au,1,none⟩ (.int .i64 ((qF ac aa).f1))).setCell ⟨au,2,none⟩ (.slice aQ ((qF ac aa).f2).length aR)).heap[au]?=some (.cells #[.string ((qF ac aa).f0),.int .i64 ((qF ac aa).f1),.slice aQ ((qF ac aa).f2).length aR] 99 (0,0)):=(yP hbox);obtain⟨bG,bH,bI,bJ,bK,bL⟩:=zc3 hbox)|((with_reducible refine qR (t:=99) (p:=8) rfl ?_);(try(refine z4 ?_;dsimp only));refine ye 99 8 (((bT.setCell ⟨au,0,none⟩ (.string ((qF ac aa).f0))).setCell ⟨au,1,none⟩ (.int .i64 ((qF ac aa).f1))).setCell ⟨au,2,none⟩ (.slice aQ ((qF ac aa).f2).length aR)) ?_;intro aV hw;replace hst:=hst;rw[<-hw] at hst hbx;clear hw hb hbox hge HB bG bJ bH bK bI bL;replace HW:=zz (zv HW.out hst);replace ap:=zz (zv ap.out hst);replace az:=zz (zv az.out hst);replace aF:=zz (zv aF.out hst);replace am:=zz (Kd.qD am.out hst);replace aE:=zz (Kd.qD aE.out hst);replace ai:=qG ai hst;replace aj:=qG aj hst;replace ak:=qG ak hst;replace al:=qG al hst;replace aw:=qG aw hst;replace ax:=qG ax hst;replace ay:=qG ay hst;obtain⟨aX,aY,aZ⟩:=zx3 hbx;have HB:=Below.refl aV.heap.size aV;clear hbx hst))
       go_loopg[72] bS (fun kq ck w'=>∃(ae:Int),ck= .int .i64 ae/\qB (impl_WorldOk.l3 kq ac (ac.length:Int) aa ((qF ac aa).f2) (((qF ac aa).f2).length:Int) ae aC ac af ag=some r)/\qB (kq<=bS)/\qB (Below aV.heap.size aV w'))
       case atStart=>exact⟨(0),zr,⟨H⟩,⟨Nat.le_refl _⟩,⟨HB⟩⟩
       case round=>
        clear H HB;obtain⟨ae,rfl,H,aS,HB⟩:=hrel;replace HB:=HB.out;replace H:=H.out;have a0:=yB aV;cases gk with
        |zero=>simp[impl_WorldOk.l3] at H
        |succ be=>
         simp only[impl_WorldOk.l3] at H;refine yDn H ?_ ?_<;>clear H<;>intro cF H
         ·go_wp2_with(fail)
          go_roundg be
          case measure=>exact yM4 av aD aP aS
          case rel=>exact⟨(wrap64 (aa+1)),zr,⟨H⟩,⟨yM4 av aD aP aS⟩,⟨zv aF.out HB⟩⟩
         replace H:=yAD H;obtain⟨cG,H⟩:=H;replace H:=yAD H;obtain⟨cH,H⟩:=H;have cZ:=yt (0<=(ae:Int));have c5:=yt ((ae:Int)<(((qF ac aa).f2).length:Int));obtain⟨cI,cb,aL,aM⟩:=at_T101 aE.out ae z2 z2;cases cb;replace aL:=qL aL;replace aM:=qL aM;replace H:=yf H;obtain⟨c6,cm,H⟩:=H;go_wp2_with(first|(refine zN 10 ?_;(try(refine z4 ?_;dsimp only));refine zX 10 101 #[.int .i64 0,.string (⟨#[]⟩:ByteArray)] ?_;intro aB hg bU hbox hb;have hge:aV.heap.size<=aB:=(by rw[hg];exact qE HB);clear hg;have hst:Below aV.heap.size aV ((bU.setCell ⟨aB,0,none⟩ (.int .i64 ((qN ((qF ac aa).f2) ae).f0))).setCell ⟨aB,1,none⟩ (.string ((qN ((qF ac aa).f2) ae).f1))):=(qJ (qJ (zv HB hb) hge) hge);have hbx:((bU.setCell ⟨aB,0,none⟩ (.int .i64 ((qN ((qF ac aa).f2) ae).f0))).setCell ⟨aB,1,none⟩ (.string ((qN ((qF ac aa).f2) ae).f1))).heap[aB]?=some (.cells #[.int .i64 ((qN ((qF ac aa).f2) ae).f0),.string ((qN ((qF ac aa).f2) ae).f1)] 101 (0,0)):=(yP hbox);obtain⟨bM,bN,bO,bP⟩:=zc2 hbox)|((with_reducible refine qR (t:=101) (p:=10) rfl ?_);(try(refine z4 ?_;dsimp only));refine ye 101 10 ((bU.setCell ⟨aB,0,none⟩ (.int .i64 ((qN ((qF ac aa).f2) ae).f0))).setCell ⟨aB,1,none⟩ (.string ((qN ((qF ac aa).f2) ae).f1))) ?_;intro b0 hw;replace hst:=hst;rw[<-hw] at hst hbx;clear hw hb hbox hge HB bM bO bN bP;replace HW:=zz (zv HW.out hst);replace ap:=zz (zv ap.out hst);replace az:=zz (zv az.out hst);replace aF:=zz (zv aF.out hst);replace a0:=zz (zv a0.out hst);replace am:=zz (Kd.qD am.out hst);replace ai:=qG ai hst;replace aj:=qG aj hst;replace ak:=qG ak hst;replace al:=qG al hst;replace aw:=qG aw hst;replace ax:=qG ax hst;replace ay:=qG ay hst;replace aX:=qG aX hst;replace aY:=qG aY hst;replace aZ:=qG aZ hst;replace aL:=qG aL hst;replace aM:=qG aM hst;obtain⟨cc,cd⟩:=zx2 hbx;have HB:=Below.refl b0.heap.size b0;clear hbx hst))
         refine(impl_itemOf.calls be _ _ _ _ _ _ (Kd.qD am.out HB) bq.out cm.out).mono ?_;rintro e di ⟨rfl,hb⟩;replace HB:=zv HB hb;clear hb;refine yD H ?_ ?_<;>clear H<;>intro cJ H
         ·obtain rfl:=zi H;exact yR
         go_wp2_with(fail)
         go_roundg be
         case measure=>exact yM4 av aD aP aS
         case rel=>exact⟨(wrap64 (ae+1)),zr,⟨H⟩,⟨yM4 av aD aP aS⟩,⟨zv a0.out HB⟩⟩
end Go.Proofs.YtgccknmddhbdgaaGreatDoor.Q
