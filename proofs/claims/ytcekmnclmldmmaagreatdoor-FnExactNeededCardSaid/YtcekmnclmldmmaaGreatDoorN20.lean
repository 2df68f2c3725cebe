import Derived.Test.YtcekmnclmldmmaaGreatDoorN18
set_option linter.unusedVariables false
set_option linter.unusedSimpArgs false
namespace Go.Proofs.YtcekmnclmldmmaaGreatDoor.Q
open Go.RowKit W1 W2 W3
attribute [local go_sem] max2_int min2_int max_two min_two max_three min_three max_four min_four
attribute [local go_sem high] bl_leq bl_gtr bl_geq
set_option maxHeartbeats 8000000
set_option maxRecDepth 100000
namespace MapB
open Go.WideMaps Go.Maps
def of:List ByteArray→DataW Unit
 |[]=> .map []
 |s::ds=>(of ds).put (.string s.data.toList) (.lit (.bool true))
theorem isMap:∀ds,IsMap (of ds)
 |[]=>isMap_empty
 |_::ds=>(isMap ds).put _ _
theorem at_(u:ByteArray):∀ds,(of ds).atKey (.string u.data.toList) (.lit (.bool false))= .lit (.bool (MapSet.has u ds))
 |[]=>rfl
 |s::ds=>by
  by_cases h:u.data.toList=s.data.toList
  ·have e:MapSet.has u (s::ds)=true:=by simp[MapSet.has,h]
   rw[of]
   rw[h,atKey_put_same (k:= .string s.data.toList) (isMap ds) trivial,e]
  ·have hne:(Lit.string u.data.toList)≠ .string s.data.toList:=fun e=>h (by injection e)
   have e:MapSet.has u (s::ds)=MapSet.has u ds:=by rw[MapSet.has,List.any_cons,decide_eq_false h];rfl
   rw[of,atKey_put_other hne,at_ u ds,e]
theorem has_dd(x:List UInt8):∀ds,Maps.has (of ds) (.string x)=true↔ ∃s ∈ ds,s.data.toList=x
 |[]=>by simp[of,has_eq]
 |s::ds=>by
  have ih:=has_dd x ds
  unfold of
  by_cases h:x=s.data.toList
  ·subst h
   rw[has_put_same (isMap ds) (show WideAt.IsKeyLit (.string s.data.toList) from trivial)]
   exact⟨fun _=>⟨s,List.mem_cons_self ..,rfl⟩,fun _=>rfl⟩
  ·have hne:(Lit.string x)≠ .string s.data.toList:=fun e=>h (by injection e)
   rw[has_put_other hne,ih]
   constructor
   ·rintro⟨t,ht,e⟩;exact⟨t,List.mem_cons_of_mem _ ht,e⟩
   ·rintro⟨t,ht,e⟩
    rcases List.mem_cons.1 ht with rfl|ht
    ·exact absurd e.symm h
    ·exact⟨t,ht,e⟩
theorem zero(w:World):(zeroValue 4).run Tryz.prog w= .ok (.bool false) w:=by kernel_rfl
def MS(w:World)(b:Nat)(ds:List ByteArray):Prop:=w.ownsMap Tryz.prog 9 (plainElem (H:=Unit) Tryz.prog 4) b ds.length (of ds)
theorem MS.below{w W:World}{b:Nat}{ds:List ByteArray}(h:MS w b ds)(hb:Below w.heap.size w W):MS W b ds:=
 World.ownsMap.kept (row:=none) h ⟨hb.os,hb.tape,hb.output,hb.size,fun k hk _=>hb.block k hk⟩ (by simp)
theorem MS.drewN{w:World}{b:Nat}{ds:List ByteArray}(h:MS w b ds)(m:Nat):MS (w.drewN m) b ds:=h.below (qZ (Below.refl _ _) m)
theorem MS.drew{w:World}{b:Nat}{ds:List ByteArray}(h:MS w b ds):MS w.drew b ds:=h
theorem MS.alloc{w:World}{b:Nat}{ds:List ByteArray}(h:MS w b ds)(o:Obj):MS (w.alloc o) b ds:=h.below (vA (Below.refl _ _) o)
theorem MS.kept{w w1:World}{b:Nat}{ds:List ByteArray}{row:Option Nat}(h:MS w b ds)(hg:w.grownBy w1 row)(hne:some b≠row):MS w1 b ds:=World.ownsMap.kept h hg hne
theorem MS.lt{w:World}{b:Nat}{ds:List ByteArray}(h:MS w b ds):b<w.heap.size:=World.ownsMap.lt h
theorem zm{P Q:Prop}(q:Q)(f:Q→P:=by intro q;(with_reducible repeat(first|apply MapB.MS.alloc|apply MapB.MS.drewN|apply MapB.MS.drew));exact q):P:=f q
theorem MS.ne{α:Type}{d:Kd α}{e base:Nat}{ok:Nat→Prop}{w:World}{b:Nat}{v:Value}{xs:List α}(h:d.R e w base ok v xs)(hok:∀k,ok k→k≠b):v.ownBlock≠some b:=
 fun e=>hok b (h.1 b e) rfl
theorem plain{P:Program}{e:TypeId}(he:P.underlying e=some .bool){v:Value}{z:DataW Unit×List MemPlace}(h:plainElem P e v=some z):∃c:Bool,v= .bool c∧z=(.lit (.bool c),[]):=by
 unfold plainElem at h
 rw[he] at h
 cases v<;>simp at h
 exact⟨_,rfl,h.symm⟩
def put(ds:List ByteArray)(s:ByteArray):Option (List ByteArray):=if s.size≤140737488355328∧ds.length<4194304 then some (s::ds) else none
def get(ds:List ByteArray)(s:ByteArray):Option Bool:=if s.size≤140737488355328 then some (MapSet.has s ds) else none
section
variable {ops : Array Oper} {rest : List Oper} {o : Oper} {a : Act} {Q : Exit → Act → World → Prop} {W : World} {b : Nat} {ds : List ByteArray}
theorem make_event(hgd:o.guard=none){N:Tmp}(hd:o.dst=some N){t:TypeId}(ho:o.op= .makeMap t none)
 (h:∀g w1,W.heap.size≤g→MS w1 g []→Below W.heap.size W w1→wpList Tryz.prog ops Q rest (a.put o.dst (.map (some g))) w1):wpList Tryz.prog ops Q (o::rest) a W:=by
 refine Kd.event_run hgd (w1:=W.alloc (.map #[] 0)) (v:= .map (some W.heap.size)) ?_ (h _ _ (Nat.le_refl _) (World.ownsMap_made _ _ _ _) (vA (Below.refl _ _) _))
 unfold execOp
 simp[ho,Instr.makeMap]
theorem put_event(hgd:o.guard=none){m k:Tmp}(ho:o.op= .mapUpdate 84 (.tmp m) (.tmp k) (.const (.bool true))){s:ByteArray}(hm:a.eval (.tmp m)= .map (some b))(hk:a.eval (.tmp k)= .string s)
 (hM:MS W b ds) {ds':List ByteArray} (hp:put ds s=some ds')
 (h:∀w1,MS w1 b ds'→W.grownBy w1 (some b)→wpList Tryz.prog ops Q rest (a.put o.dst undef) w1):wpList Tryz.prog ops Q (o::rest) a W:=by
 unfold put at hp
 split at hp
 ·rename_i hc
  obtain rfl:=Option.some.inj hp
  exact wpList_mapUpdate_own W hgd (.tmp m) (.tmp k) (.const (.bool true)) 84 ho 9 4 MapSet.keyed Tryz.underlying84 _ b ds.length (of ds) hm hM (by simp only[maxLen];omega) _ _ _ hk rfl (MapSet.key s (Nat.le_trans hc.1 (by decide))) (.lit (.bool true)) [] (plainElem_bool Tryz.underlying4 _) (fun w1 h1 h2=>h w1 h1 h2)
 ·exact absurd hp (by simp)
theorem get_event(hgd:o.guard=none){m k:Tmp}(ho:o.op= .lookup 84 (.tmp m) (.tmp k) false){s:ByteArray}(hm:a.eval (.tmp m)= .map (some b))(hk:a.eval (.tmp k)= .string s)
 (hM:MS W b ds) {c:Bool} (hp:get ds s=some c) (h:wpList Tryz.prog ops Q rest (a.put o.dst (.bool c)) W):wpList Tryz.prog ops Q (o::rest) a W:=by
 unfold get at hp
 split at hp
 ·rename_i hc
  obtain⟨v,ps,hrun,hv⟩:=World.ownsMap.lookup hM MapSet.keyed Tryz.underlying84 (zero W) (plainElem_bool Tryz.underlying4 false) (MapSet.key s (Nat.le_trans hc (by decide)))
  obtain⟨c',rfl,e⟩:=plain Tryz.underlying4 hv
  rw[at_] at e
  simp only[Prod.mk.injEq,DataW.lit.injEq,Lit.bool.injEq] at e
  obtain rfl:=Option.some.inj hp
  rw[←e.1] at hrun
  refine Kd.event_run hgd ?_ h
  unfold execOp
  simp only[ho,hm,hk,Sem.run_bind,hrun,Result.andThen_ok]
  rfl
 ·exact absurd hp (by simp)
end
end MapB
def impl_closure.l0:Nat→List S94→List ByteArray→List ByteArray→Option (List ByteArray)
 |0,_,_,_=>none
 |k+1,l,s,t=>if(t.length:Int)>0 then(if t.length<8796093022208 then((impl_itemOf.f k l (rdOf ByteArray.empty t (wrap64 ((t.length:Int) - 1)))).bind fun i=>if i<0 then impl_closure.l0 k l s (t.take (wrap64 ((t.length:Int) - 1)).toNat) else((MapB.get s (rdOf ByteArray.empty t (wrap64 ((t.length:Int) - 1)))).bind fun c=>if c=true then impl_closure.l0 k l s (t.take (wrap64 ((t.length:Int) - 1)).toNat) else((MapB.put s (rdOf ByteArray.empty t (wrap64 ((t.length:Int) - 1)))).bind fun s'=>if i<(l.length:Int)∧t.length+((qL l i).f2).length<8796093022208 then impl_closure.l0 k l s' (t.take (wrap64 ((t.length:Int) - 1)).toNat++(qL l i).f2) else none))) else none) else some s
def impl_closure.f(k:Nat)(l0:List S94)(l1:List ByteArray):Option (List ByteArray):=if l1.length<8796093022208 then impl_closure.l0 k l0 [] l1 else none
theorem impl_closure.calls(k:Nat)(A0:Option Addr)(c0:Nat)(l0:List S94)(A1:Option Addr)(c1:Nat)(l1:List ByteArray)(r:List ByteArray)(w:World)(hr0:Kd.C k94 w A0 l0.length l0)(hc0:l0.length≤c0)(hr1:Kd.C Kd.string w A1 l1.length l1)(hc1:l1.length≤c1)(h:impl_closure.f k l0 l1=some r):
 Calls Tryz.prog 57 #[.slice A0 l0.length c0,.slice A1 l1.length c1] w fun e w'=>∃b:Nat,e= .returned (.map (some b))∧MapB.MS w' b r∧w.heap.size≤b∧Below w.heap.size w w':=by
 have HR0:=zz hr0
 have HC0:=zz hc0
 have HR1:=zz hr1
 have HC1:=zz hc1
 clear hr0 hc0 hr1 hc1
 have HB:=zz (Below.refl w.heap.size w)
 unfold impl_closure.f at h
 by_cases c3:l1.length<8796093022208
 case neg=>exact zno h c3
 rw[if_pos c3] at h
 have LM:=zz c3
 have H':=zz h
 clear h c3
 go_enter Tryz.func57,Tryz.ntmps57
 go_wp2_with(first
  |((with_reducible refine gate_dst (N:=9) rfl ?_);refine MapB.make_event ?hg (N:=9) ?hd (t:=84) ?ho ?_;(case hd=>rfl);(case hg=>rfl);(case ho=>rfl);intro bm wm hbm hms hb;have HBM:=zz (Nat.le_trans (qG zb) hbm);have HM:=zz hms;replace HB:=zz (zv zb hb);clear hb hbm hms)
  |(refine zN 10 ?_;refine Kd.R_lit Kd.string w.heap.size 9 ?hg (N:=10) ?hd (xs:=([]:List ByteArray)) (inner:=[]) (ok:=fun k_=>k_≠bm) (okp:=fun _=>False) ?hr ?hp (fun _ hk=>hk.elim) (fun e_=>Nat.lt_irrefl _ (Nat.lt_of_lt_of_le (MapB.MS.lt (b:=bm) (ds:=[]) (MapB.zm HM.out)) (Nat.le_of_eq e_))) zb (qG zb) (by simp) ?_;(case hd=>rfl);(case hg=>rfl);(case hr=>first|(go_simp;done)|(go_simp;rfl));(case hp=>exact(Reps.none _ _));intro v487 w6 ho7 hb hg_ hnew_;clear hnew_;have HO:=zz ho7;replace HM:=zz (World.ownsMap.kept HM.out hg_ (by simp));replace HB:=zz hb;clear hb hg_ ho7)
  |((with_reducible refine vJ (b:= .append) (xs:= #[.tmp 10,.tmp 11]) rfl ?_);at_builtin;refine Kd.R_append_rows Kd.string (w0:=w) w.heap.size rfl (.tmp 10) (.tmp 11) 39 9 (.string ⟨#[]⟩) 16 rfl Tryz.underlying39 info9 rfl (by decide) (by omega) v487 [] l1 _ _ _ (fun k_=>k_≠bm) (fun _=>False) rfl rfl ?aO ?aR (fun _ _ h=>h) (fun _ h=>h.elim) ?aF ?aB ?aS ?aL ?_;(case aR=>exact zc HR1.out);(case aB=>exact zb);(case aF=>exact(fun k_ hk e_=>Nat.lt_irrefl _ (Nat.lt_of_lt_of_le (MapB.MS.lt (b:=bm) (ds:=[]) (MapB.zm HM.out)) (Nat.le_trans hk (Nat.le_of_eq e_)))));(case aO=>exact(zR HO.out));(case aS=>exact(qG zb));(case aL=>have:=LM.out;simp only[List.length_nil];omega);intro v490 w8 ho hb hg hat;rw[List.nil_append] at ho;replace HM:=zz (MapB.MS.kept (b:=bm) (ds:=[]) (MapB.zm HM.out) hg (Ne.symm (MapB.MS.ne HO.out (fun _ h=>h))));replace HB:=zz (hb);replace HO:=zz (ho);clear ho hb hg hat))
 go_loopg[6] k (fun kq v6 w'=>∃(s t:List ByteArray),qB (impl_closure.l0 kq l0 s t=some r)∧qB (kq≤k)∧qB (MapB.MS w' bm s)∧qB (Kd.R Kd.string 9 w' w.heap.size (fun k_=>k_≠bm) v6 t)∧qB (Below w.heap.size w w'))
 case atStart=>exact⟨[],l1,H',⟨Nat.le_refl _⟩,⟨MapB.zm HM.out⟩,⟨zR HO.out⟩,⟨zb⟩⟩
 case round=>
  clear H' HM HO HB
  obtain⟨s,t,HA,HK1,HM,HO,HB⟩:=hrel
  cases gk with
  |zero=>exact absurd HA.out (by simp[impl_closure.l0])
  |succ k1=>
   have H:=HA.out
   clear HA
   simp only[impl_closure.l0] at H
   by_cases c9:(t.length:Int)>0
   case neg=>
    rw[if_neg c9] at H
    have c9b0:=zgtn c9
    have c9b1:decide (0<t.length)=false:=z0 (by omega)
    clear c9
    obtain rfl:=zi H
    obtain⟨Ao,co,eo⟩:=Kd.vG HO.out
    subst eo
    go_wp2
    go_ret
    exact⟨bm,rfl,MapB.zm HM.out,HBM.out,zb⟩
   rw[if_pos c9] at H
   have c9b0:=zgt c9
   have c9b1:decide (0<t.length)=true:=z1 (by omega)
   by_cases c10:t.length<8796093022208
   case neg=>exact zno H c10
   rw[if_pos c10] at H
   obtain⟨ji,hji⟩:∃j_:Int,(wrap64 ((t.length:Int) - 1))=j_:=⟨_,rfl⟩
   simp only[hji] at H
   have hjiw:(IntKind.i64.wrap ((t.length:Int) - 1))=ji:=(i64_w _).trans hji
   have HJ:=zz (show ji=(t.length:Int) - 1 from by rw[←hji];simp[wrap64,IntKind.wrap];omega)
   have p492:0≤ji:=by rw[HJ.out];omega
   have q492:ji<(t.length:Int):=by rw[HJ.out];omega
   have q17:ji≤(t.length:Int):=by omega
   clear c9 c10
   obtain⟨Ao,co,eo⟩:=Kd.vG HO.out
   subst eo
   obtain⟨ad492,e492,hx492⟩:=Kd.vC (Kd.qS HO.out).2.2 ji p492 q492
   cases e492
   obtain⟨i0,hi0,_,_,_⟩:=info_parts info9
   have hcut:=cut_to (P:=Tryz.prog) 39 9 .i64 Tryz.underlying39 hi0 (some ad492) t.length co ji p492 q17 (Kd.qS HO.out).2.1
   have hr:=Kd.R_take (m:=ji.toNat) HO.out (by omega)
   obtain⟨t',ht'⟩:∃y,y=t.take ji.toNat:=⟨_,rfl⟩
   rw[←ht'] at hr H
   have hy:t'.length=ji.toNat:=by rw[ht',List.length_take];omega
   rw[←hy] at hr hcut
   have HT:=zz (show t'.length+1=t.length from by have:=HJ.out;omega)
   clear hi0 HO ht' hy
   have HO:=zz hr
   clear hr
   have c11b0:=z1 p492
   have c12b0:=z1 q492
   have c13b1:=z1 q17
   replace p492:=eq_true p492
   replace q492:=eq_true q492
   replace q17:=eq_true q17
   replace H:=zf H
   obtain⟨i,A14,H⟩:=H
   replace A14:=zz A14
   by_cases c15:i<0
   ·rw[if_pos c15] at H
    have c15b0:=z1 c15
    clear c15
    have H':=zz H
    clear H
    go_wp2_with(first|((with_reducible refine gate_callee (f:=47) rfl ?_);refine goesL_ (some 29) rfl rfl Tryz.func47 zk rfl #[.slice A0 l0.length c0,.string (rdOf ByteArray.empty t ji)] rfl (by(try simp only[List.map_toArray,List.map_cons,List.map_nil]);first|done|(simp only[hji];rfl)|rfl) ?_;(with_reducible refine(impl_itemOf.calls k1 _ _ l0 (rdOf ByteArray.empty t ji) i _ ?s1 ?s2 A14.out).mono ?_);(case s1=>exact zc HR0.out);(case s2=>exact HC0.out);rintro e w9 ⟨rfl,hb⟩;refine⟨_,rfl,?_⟩;replace HM:=zz (MapB.MS.below (MapB.zm HM.out) hb);replace HO:=zz (Kd.R_below (zR HO.out) hb);replace HB:=zz (zv zb hb);clear hb))
    go_roundg k1
    case measure=>have:=HK1.out;omega
    case rel=>exact⟨s,t',H',⟨by have:=HK1.out;omega⟩,⟨MapB.zm HM.out⟩,⟨zR HO.out⟩,⟨zb⟩⟩
   rw[if_neg c15] at H
   have c15b0:=z0 c15
   have HI:=zz c15
   clear c15
   replace H:=zf H
   obtain⟨c,A18,H⟩:=H
   replace A18:=zz A18
   by_cases c19:c=true
   ·subst c19
    rw[if_pos rfl] at H
    have H':=zz H
    clear H
    go_wp2_with(first|((with_reducible refine gate_callee (f:=47) rfl ?_);refine goesL_ (some 29) rfl rfl Tryz.func47 zk rfl #[.slice A0 l0.length c0,.string (rdOf ByteArray.empty t ji)] rfl (by(try simp only[List.map_toArray,List.map_cons,List.map_nil]);first|done|(simp only[hji];rfl)|rfl) ?_;(with_reducible refine(impl_itemOf.calls k1 _ _ l0 (rdOf ByteArray.empty t ji) i _ ?s1 ?s2 A14.out).mono ?_);(case s1=>exact zc HR0.out);(case s2=>exact HC0.out);rintro e w9 ⟨rfl,hb⟩;refine⟨_,rfl,?_⟩;replace HM:=zz (MapB.MS.below (MapB.zm HM.out) hb);replace HO:=zz (Kd.R_below (zR HO.out) hb);replace HB:=zz (zv zb hb);clear hb)|((with_reducible refine MapSet.gate_get (t:=84) (m:=33) (k:=34) rfl ?_);(try(refine gate_guard (by rfl) ?_;dsimp only));refine MapB.get_event rfl rfl rfl rfl (MapB.zm HM.out) A18.out ?_))
    go_roundg k1
    case measure=>have:=HK1.out;omega
    case rel=>exact⟨s,t',H',⟨by have:=HK1.out;omega⟩,⟨MapB.zm HM.out⟩,⟨zR HO.out⟩,⟨zb⟩⟩
   replace c19:=Bool.eq_false_iff.mpr c19
   subst c19
   rw[if_neg (show¬(false=true) by decide)] at H
   replace H:=zf H
   obtain⟨s',A23,H⟩:=H
   replace A23:=zz A23
   by_cases c25:i<(l0.length:Int)∧t.length+((qL l0 i).f2).length<8796093022208
   case neg=>exact zno H c25
   rw[if_pos c25] at H
   have LM:=zz c25
   have p501:0≤i:=by have:=HI.out;omega
   have q501:i<(l0.length:Int):=c25.1
   have c25b0:=z1 p501
   have c25b1:=z1 q501
   clear c25
   have H':=zz H
   clear H
   obtain⟨ad501,A501_2,c501_2,A501_4,c501_4,e501,hx501_0,hx501_1,hx501_2,hx501_3,hx501_4,hl501_2,hi501_2,hl501_4,hi501_4⟩:=at_T94 HR0.out i p501 q501
   cases e501
   have HX2:=zz hx501_2
   have HR2:=zz hi501_2
   have HC2:=zz hl501_2
   clear hx501_0 hx501_1 hx501_2 hx501_3 hx501_4 hl501_2 hi501_2 hl501_4 hi501_4
   replace p501:=eq_true p501
   replace q501:=eq_true q501
   go_wp2_with(first|((with_reducible refine gate_callee (f:=47) rfl ?_);refine goesL_ (some 29) rfl rfl Tryz.func47 zk rfl #[.slice (some ad501) l0.length c0,.string (rdOf ByteArray.empty t ji)] rfl (by(try simp only[List.map_toArray,List.map_cons,List.map_nil]);first|done|(simp only[hji];rfl)|rfl) ?_;(with_reducible refine(impl_itemOf.calls k1 _ _ l0 (rdOf ByteArray.empty t ji) i _ ?s1 ?s2 A14.out).mono ?_);(case s1=>exact zc HR0.out);(case s2=>exact HC0.out);rintro e w9 ⟨rfl,hb⟩;refine⟨_,rfl,?_⟩;replace HM:=zz (MapB.MS.below (MapB.zm HM.out) hb);replace HO:=zz (Kd.R_below (zR HO.out) hb);replace HB:=zz (zv zb hb);clear hb)|((with_reducible refine MapSet.gate_get (t:=84) (m:=33) (k:=34) rfl ?_);(try(refine gate_guard (by rfl) ?_;dsimp only));refine MapB.get_event rfl rfl rfl rfl (MapB.zm HM.out) A18.out ?_)|((with_reducible refine MapSet.gate_put (t:=84) (m:=37) (k:=38) rfl ?_);refine MapB.put_event rfl rfl rfl rfl (MapB.zm HM.out) A23.out ?_;intro wp hms hg;replace HO:=zz (Kd.R_grown (ok:=fun k_=>k_≠bm) (zR HO.out) hg (fun k_ (hk:k_≠bm) e=>hk (Option.some.inj e)));replace HB:=zz (MapSet.grown zb hg HBM.out);replace HM:=zz hms;clear hms hg;have hx2:=z3 HB.out HX2.out)|((with_reducible refine vJ (b:= .append) (xs:= #[.tmp 39,.tmp 44]) rfl ?_);at_builtin;refine Kd.R_append_rows Kd.string (w0:=w) w.heap.size rfl (.tmp 39) (.tmp 44) 39 9 (.string ⟨#[]⟩) 16 rfl Tryz.underlying39 info9 rfl (by decide) (by omega) (.slice (some ad492) t'.length co) t' ((qL l0 i).f2) _ _ _ (fun k_=>k_≠bm) (fun _=>False) rfl rfl ?aO ?aR (fun _ _ h=>h) (fun _ h=>h.elim) ?aF ?aB ?aS ?aL ?_;(case aR=>exact zc HR2.out);(case aB=>exact zb);(case aF=>exact(fun k_ hk e_=>Nat.lt_irrefl _ (Nat.lt_of_lt_of_le (MapB.MS.lt (b:=bm) (ds:=s') (MapB.zm HM.out)) (Nat.le_trans hk (Nat.le_of_eq e_)))));(case aO=>exact(zR HO.out));(case aS=>exact(qG zb));(case aL=>have h1:=LM.out;have h2:=HT.out;omega);intro v503 w31 ho hb hg hat;replace HM:=zz (MapB.MS.kept (b:=bm) (ds:=s') (MapB.zm HM.out) hg (Ne.symm (MapB.MS.ne HO.out (fun _ h=>h))));replace HB:=zz (hb);replace HO:=zz (ho);clear ho hb hg hat))
   go_roundg k1
   case measure=>have:=HK1.out;omega
   case rel=>exact⟨s',t'++(qL l0 i).f2,H',⟨by have:=HK1.out;omega⟩,⟨MapB.zm HM.out⟩,⟨zR HO.out⟩,⟨zb⟩⟩
namespace Ss
open Go
theorem dataInj{a b:ByteArray}(h:a.data.toList=b.data.toList):a=b:=by
 cases a with|mk x=>cases b with|mk y=>cases x;cases y;simp_all
def at'(L:List ByteArray)(i:Nat):List UInt8:=(L.getD i ⟨#[]⟩).data.toList
def InsI(L:List ByteArray)(i j:Nat):Prop:=j≤i∧(∀a b,a<b→b≤i→a≠j→b≠j→at' L a≤at' L b)∧∀b,j<b→b≤i→at' L j≤at' L b
def Up(L:List ByteArray)(n:Nat):Prop:=∀a b,a<b→b<n→at' L a≤at' L b
theorem Up.start{L:List ByteArray}{i:Nat}(h:Up L i):InsI L i i:=⟨Nat.le_refl _,fun a b h1 h2 h3 h4=>h a b h1 (by omega),fun b h1 h2=>by omega⟩
def swp(L:List ByteArray)(j:Nat):List ByteArray:=(L.set j (L.getD (j+1) ⟨#[]⟩)).set (j+1) (L.getD j ⟨#[]⟩)
theorem swp_at(L:List ByteArray)(j a:Nat)(h:j+1<L.length):at' (swp L j) a=if a=j then at' L (j+1) else if a=j+1 then at' L j else at' L a:=by
 unfold at' swp
 simp only[List.getD_eq_getElem?_getD,List.getElem?_set,List.length_set]
 by_cases h1:a=j
 ·subst h1
  simp[show a<L.length by omega]
 ·by_cases h2:a=j+1
  ·subst h2
   simp[h]
  ·simp[h1,h2,show¬j+1=a by omega,show¬j=a by omega]
theorem InsI.swap{L:List ByteArray}{i j:Nat}(h:InsI L i (j+1))(hi:i<L.length)(hlt:¬at' L j≤at' L (j+1)):InsI (swp L j) i j:=by
 obtain⟨h0,h1,h2⟩:=h
 have hs:at' L (j+1)≤at' L j:=(List.le_total _ _).resolve_left hlt
 refine⟨by omega,fun a b hab hb ha' hb'=>?_,fun b hb hbi=>?_⟩
 ·rw[swp_at L j a (by omega),swp_at L j b (by omega),if_neg ha',if_neg hb']
  by_cases ea:a=j+1
  ·rw[if_pos ea,if_neg (show¬b=j+1 by omega)]
   exact h1 j b (by omega) hb (by omega) (by omega)
  ·rw[if_neg ea]
   by_cases eb:b=j+1
   ·rw[if_pos eb]
    exact h1 a j (by omega) (by omega) (by omega) (by omega)
   ·rw[if_neg eb]
    exact h1 a b hab hb ea eb
 ·rw[swp_at L j j (by omega),swp_at L j b (by omega),if_pos rfl,if_neg (show¬b=j by omega)]
  by_cases eb:b=j+1
  ·rw[if_pos eb];exact hs
  ·rw[if_neg eb];exact h2 b (by omega) hbi
theorem InsI.done{L:List ByteArray}{i j:Nat}(h:InsI L i j)(hj:j=0∨at' L (j - 1)≤at' L j):Up L (i+1):=by
 obtain⟨h0,h1,h2⟩:=h
 intro a b hab hb
 by_cases ea:a=j
 ·subst ea;exact h2 b hab (by omega)
 ·by_cases eb:b=j
  ·subst eb
   rcases hj with hj|hj
   ·omega
   ·by_cases e:a=b - 1
    ·subst e;exact hj
    ·exact List.le_trans (h1 a (b - 1) (by omega) (by omega) (by omega) (by omega)) hj
  ·exact h1 a b hab (by omega) ea eb
theorem swp_perm(L:List ByteArray)(j:Nat)(h:j+1<L.length):(swp L j).Perm L:=by
 unfold swp
 rw[List.getD_eq_getElem?_getD,List.getD_eq_getElem?_getD,List.getElem?_eq_getElem h,List.getElem?_eq_getElem (show j<L.length by omega)]
 exact List.set_set_perm (by omega) h
theorem Up.eq{L M:List ByteArray}(h:Up L L.length)(hp:L.Perm M):L=((M.map fun s=>s.data.toList).mergeSort leB).map fun l=>(⟨l.toArray⟩:ByteArray):=by
 have h1:(L.map fun s=>s.data.toList).Pairwise (fun a b=>leB a b=true):=by
  rw[List.pairwise_iff_getElem]
  intro i j hi hj hij
  rw[List.length_map] at hi hj
  have:=h i j hij hj
  unfold at' at this
  rw[List.getD_eq_getElem?_getD,List.getD_eq_getElem?_getD,List.getElem?_eq_getElem hi,List.getElem?_eq_getElem hj] at this
  simpa[leB] using this
 rw[mergeSort_of_perm (hp.map _).symm,List.mergeSort_of_pairwise h1,List.map_map]
 conv=>lhs;rw[←List.map_id L]
 refine List.map_congr_left fun s _=>?_
 exact dataInj (by simp)
end Ss
open Go.WideMaps Go.Maps Go.Sort in
theorem impl_sorted.out_congr{ds es:List ByteArray}(h:∀x,x ∈ ds↔x ∈ es):impl_sorted.out ds=impl_sorted.out es:=by
 have h4:(impl_sorted.dd ds).Perm (impl_sorted.dd es):=by
  refine(List.perm_ext_iff_of_nodup (impl_sorted.dd_nodup ds) (impl_sorted.dd_nodup es)).2 fun x=>?_
  rw[impl_sorted.dd_mem,impl_sorted.dd_mem]
  constructor
  ·rintro⟨s,hs,e⟩;exact⟨s,(h s).1 hs,e⟩
  ·rintro⟨s,hs,e⟩;exact⟨s,(h s).2 hs,e⟩
 unfold impl_sorted.out
 rw[Go.mergeSort_of_perm h4]
def impl_sortedSet.f(l:List ByteArray):Option (List ByteArray):=if l.length<4194304∧(l.all fun s=>decide (s.size≤140737488355328))=true then some (impl_sorted.out l) else none
theorem Ss.up_out{L:List ByteArray}{ss:List (List UInt8)}{l:List ByteArray}(h:Ss.Up L L.length)(hp:L.Perm (ss.map fun x=>(⟨x.toArray⟩:ByteArray)))(hs:ss.Perm (impl_sorted.dd l.reverse)):L=impl_sorted.out l:=by
 rw[h.eq hp,List.map_map,impl_sorted.out_congr (ds:=l) (es:=l.reverse) (fun x=>by simp)]
 unfold impl_sorted.out
 rw[show((fun s:ByteArray=>s.data.toList) ∘ fun x:List UInt8=>(⟨x.toArray⟩:ByteArray))=id from funext fun x=>by simp,List.map_id,Go.mergeSort_of_perm hs]
theorem Ss.bl_eq:∀(x y:List UInt8),Op.bytesLess x y=decide (x<y)
 |[],[]=>by simp[Op.bytesLess]
 |[],b::y=>by simp[Op.bytesLess]
 |a::x,[]=>by simp[Op.bytesLess]
 |a::x,b::y=>by
  have ih:=Ss.bl_eq x y
  simp only[Op.bytesLess,ih]
  by_cases h:a=b
  ·subst h
   simp[List.cons_lt_cons_iff]
  ·simp[List.cons_lt_cons_iff,h]
theorem Ss.put_take{l:List ByteArray}(h1:l.length<4194304)(h2:(l.all fun s=>decide (s.size≤140737488355328))=true){n:Nat}(hn:n<l.length):MapB.put (l.take n).reverse (l.getD n ByteArray.empty)=some (l.take (n+1)).reverse:=by
 have h3:=of_decide_eq_true (List.all_eq_true.1 h2 _ (List.getElem_mem hn))
 rw[List.getD_eq_getElem?_getD,List.getElem?_eq_getElem hn,Option.getD_some]
 unfold MapB.put
 rw[if_pos ⟨h3,by rw[List.length_reverse,List.length_take];omega⟩,List.take_add_one,List.getElem?_eq_getElem hn,List.reverse_append]
 rfl
structure Ss.Bx where
 b:Bool
theorem Ss.row0{w:World}{base:Nat}{ok:Nat→Prop}{v:Value}(h:Kd.string.R 9 w base ok v []):w.ownsRow base 9 1 v ([]:List (List UInt8)).length (([]:List (List UInt8)).map encStr):=by
 obtain⟨_,inner,ho,hr⟩:=h
 have e:inner=[]:=List.length_eq_zero_iff.1 hr.1
 rw[e] at ho
 exact ho
theorem Ss.R_row{w:World}{base:Nat}{v:Value}{ss:List (List UInt8)}(h:w.ownsRow base 9 1 v ss.length (ss.map encStr)):Kd.string.R 9 w base (fun _=>True) v (ss.map fun x=>(⟨x.toArray⟩:ByteArray)):=by
 refine Kd.R_of_own ?_ (fun _ _=>trivial)
 rw[impl_sorted.encs_out,List.length_map]
 exact h
theorem Ss.swap_R{w:World}{base g n cap:Nat}{ok:Nat→Prop}{M:List ByteArray}{y y1:Int}(h:Kd.string.R 9 w base ok (.slice (some ⟨g,0,none⟩) n cap) M)(hy:y.toNat=y1.toNat+1):
 Kd.string.R 9 ((w.setCell ⟨g,y1.toNat,none⟩ (.string (rdOf (⟨#[]⟩:ByteArray) M y))).setCell ⟨g,y.toNat,none⟩ (.string (rdOf (⟨#[]⟩:ByteArray) M y1))) base ok (.slice (some ⟨g,0,none⟩) n cap) (Ss.swp M y1.toNat):=by
 have:=Kd.R_putn (Kd.R_putn h y1 (rdOf (⟨#[]⟩:ByteArray) M y)) y (rdOf (⟨#[]⟩:ByteArray) M y1)
 unfold Ss.swp
 unfold rdOf at this⊢
 rw[hy] at this⊢
 exact this
theorem Ss.bl(a b:ByteArray):Op.bytesLess a.toList b.toList=decide (a.data.toList<b.data.toList):=by rw[Ss.bl_eq,ByteArray.toList_eq,ByteArray.toList_eq]
theorem impl_sortedSet.calls(A0:Option Addr)(c0:Nat)(l0 r:List ByteArray)(w:World)(hr0:Kd.C Kd.string w A0 l0.length l0)(hc0:l0.length≤c0)(h:impl_sortedSet.f l0=some r):
 Calls Tryz.prog 65 #[.slice A0 l0.length c0] w fun e w'=>∃v0_:Value,e= .returned v0_∧Kd.R Kd.string 9 w' w.heap.size (fun _=>True) v0_ r∧Below w.heap.size w w':=by
 unfold impl_sortedSet.f at h
 by_cases hc:l0.length<4194304∧(l0.all fun s=>decide (s.size≤140737488355328))=true
 case neg=>exact zno h hc
 rw[if_pos hc] at h
 have HE:=zz (zi h)
 have HLl:=zz hc.1
 have HSz:=zz hc.2
 have HR0:=zz hr0
 clear hc h hr0 hc0
 have HB:=zz (Below.refl w.heap.size w)
 obtain⟨i0,hi,hz0,hz1,hz2⟩:=info_parts info9
 have HI0:=zz (And.intro hi (And.intro hz0 (And.intro hz1 hz2)))
 clear hi hz0 hz1 hz2
 go_enter Tryz.func65,Tryz.ntmps65
 go_wp2_with(first
  |((with_reducible refine gate_dst (N:=10) rfl ?_);refine MapB.make_event ?hg (N:=10) ?hd (t:=84) ?ho ?_;(case hd=>rfl);(case hg=>rfl);(case ho=>rfl);intro bm wm hbm hms hb;have HBM:=zz (Nat.le_trans (qG zb) hbm);have HM:=zz hms;replace HB:=zz (zv zb hb);clear hb hbm hms))
 go_loopg[13] l0.length (fun kq v13 w'=>∃(x:Int),v13= .int .i64 x∧qB (0≤x∧x.toNat+kq=l0.length)∧qB (MapB.MS w' bm (l0.take x.toNat).reverse)∧qB (Below w.heap.size w w'))
 case atStart=>exact⟨0,rfl,⟨⟨by omega,by simp⟩⟩,⟨MapB.zm HM.out⟩,⟨zb⟩⟩
 case round=>
  clear HM HB
  obtain⟨x,rfl,HX,HM,HB⟩:=hrel
  by_cases c3:x<(l0.length:Int)
  case pos=>
   cases gk with
   |zero=>exact absurd HX.out (by intro h;omega)
   |succ k1=>
    have p0:0≤x:=HX.out.1
    have c3b0:=z1 c3
    obtain⟨ad,e0,hx0⟩:=Kd.vC HR0.out x p0 c3
    cases e0
    replace hx0:=z3 HB.out hx0
    have HP:=zz (Ss.put_take HLl.out HSz.out (show x.toNat<l0.length by omega))
    have HXW:=zz (show wrap64 (x+1)=x+1 from by have:=HLl.out;simp[wrap64,IntKind.wrap];omega)
    have q0:=eq_true c3
    replace p0:=eq_true p0
    have HC:=zz c3
    clear c3
    go_wp2_with(first
     |((with_reducible refine MapSet.gate_put (t:=84) (m:=17) (k:=18) rfl ?_);refine MapB.put_event rfl rfl rfl rfl (MapB.zm HM.out) HP.out ?_;intro wp hms hg;replace HB:=zz (MapSet.grown zb hg HBM.out);replace HM:=zz hms;clear hms hg))
    go_roundg k1
    case measure=>omega
    case rel=>exact⟨wrap64 (x+1),rfl,⟨⟨by have:=HXW.out;have:=HX.out;omega,by have:=HXW.out;have:=HX.out;omega⟩⟩,⟨by rw[show(wrap64 (x+1)).toNat=x.toNat+1 by have:=HXW.out;have:=HX.out;omega];exact MapB.zm HM.out⟩,⟨zb⟩⟩
  have c3b0:=z0 c3
  rename World=>wz
  have HM:=zz (show MapB.MS wz bm l0.reverse from by
   have:=HM.out
   rwa [List.take_of_length_le (by have:=HX.out;omega)] at this)
  clear c3 HX
  have HBL:=zz (MapB.MS.lt HM.out)
  go_wp2_with(first
   |(refine zN 20 ?_;refine Kd.R_lit Kd.string (w0:=wz) wz.heap.size 9 ?hg (N:=20) ?hd (xs:=([]:List ByteArray)) (inner:=[]) (ok:=fun _=>True) (okp:=fun _=>False) ?hr ?hp (fun _ hk=>hk.elim) trivial (by repeat(first|exact Below.refl _ _|apply vA|apply qZ|apply qQ)) (by first|exact Nat.le_refl _|simp) (by simp) ?_;(case hd=>rfl);(case hg=>rfl);(case hr=>first|(go_simp;done)|(go_simp;rfl));(case hp=>exact(Reps.none _ _));intro v20 w6 ho7 hb hg_ hnew_;clear hnew_;have HO:=zz (Ss.row0 ho7);have HBz:=zz hb;replace HM:=zz (MapB.MS.kept (b:=bm) (ds:=l0.reverse) (MapB.zm HM.out) hg_ (by simp));clear hb hg_ ho7)
   |(at_range;refine wpList_range_own _ rfl _ 84 rfl 9 4 MapSet.keyed Tryz.underlying84 _ bm _ _ rfl HM.out ?_;intro w7 hrg0 hg0 hs0;have HZ:=zz (World.ownsMap.size_le HM.out);rw[List.length_reverse] at hrg0;generalize hD:MapB.of l0.reverse=D0 at hrg0 HZ;have hD0:=Lib.hid hD;clear hD;have HRG:=zz hrg0;have HB7w:=zz (HBz.out.size);have HB7:=zz (HBz.out.grown hg0 HBz.out.size (fun j hj=>by cases hj));have HRW:=zz (World.ownsRow.kept HO.out hg0 (by by_cases e_:(v20:Value).ownBlock=none;exact .inl e_;exact .inr e_));clear hrg0 hg0 hs0 HM HO HBz))
  go_frame
  go_loopw[6] (fun v wr=>∃(left:Lit→Bool) (cnt:Nat) (ss:List (List UInt8)),wr.ranges Tryz.prog 9 (plainElem (H:=Unit) Tryz.prog 4) bm w6.heap.size l0.length D0 left cnt∧ss.length+cnt≤Maps.size D0∧
   wr.ownsRow wz.heap.size 9 1 v ss.length (ss.map encStr)∧Collected D0 left ss∧Below wz.heap.size wz wr)
   (fun _ wr=>wr.rangeLeft bm w6.heap.size)
  case atStart=>exact⟨_,_,[],HRG.out,by simp,HRW.out,Collected.start D0,HB7.out⟩
  case round=>
   obtain⟨left,cnt,ss,hrg,hcs,hrow,hC,hnx⟩:=hrel
   have hlen:ss.length+cnt<4194304:=by have:=HZ.out;have:=HLl.out;rw[List.length_reverse] at*;omega
   go_wp2_with(at_next;refine wpList_next_ranges _ rfl _ rfl 9 MapSet.keyed (plainElem Tryz.prog 4) encStr (fun c:Ss.Bx=>Value.bool c.b) (fun key kl hk=>by obtain⟨x,hx,_⟩:=Maps.keyOf_str Tryz.underlying9 hk;exact⟨x,hx⟩) (fun v y hv=>by obtain⟨c,rfl,_⟩:=MapB.plain Tryz.underlying4 hv;exact⟨⟨c⟩,rfl⟩) bm w6.heap.size l0.length _ _ _ rfl hrg ?_ ?_)
   ·intro hc0 hl0
    have HP:=zz (show ss.Perm (impl_sorted.dd l0.reverse) from(List.perm_ext_iff_of_nodup hC.1 (impl_sorted.dd_nodup _)).2 fun x=>by
     rw[hC.2 x,hl0,←hD0.out,MapB.has_dd,impl_sorted.dd_mem];simp)
    have HO:=zz (Ss.R_row hrow)
    have HBz:=zz hnx
    have HLn:=zz hlen
    clear hc0 hl0 hrow hnx hC hcs hrg hlen
    obtain⟨L0,hL0⟩:∃L:List ByteArray,L=ss.map (fun x=>(⟨x.toArray⟩:ByteArray)):=⟨_,rfl⟩
    rw[←hL0] at HO
    have HLL:=zz (show L0.length<4194304 from by rw[hL0,List.length_map];have:=HLn.out;omega)
    have HL0:=zz hL0
    clear hL0
    obtain⟨A,cp,hv⟩:=Kd.vG HO.out
    subst hv
    go_wp2_with(fail)
    go_loopg[8] L0.length (fun kq v8 w'=>∃(x:Int) (L:List ByteArray),v8= .int .i64 x∧qB (1≤x∧x.toNat+kq=L0.length+1)∧qB (L.length=L0.length∧L.Perm L0∧Ss.Up L x.toNat)∧qB (Kd.R Kd.string 9 w' wz.heap.size (fun _=>True) (.slice A L0.length cp) L)∧qB (Below wz.heap.size wz w'))
    case atStart=>exact⟨1,L0,rfl,⟨⟨by omega,by show 1+L0.length=_;omega⟩⟩,⟨⟨rfl,List.Perm.refl _,fun a b h1 h2=>by have:b<1:=h2;omega⟩⟩,⟨zR HO.out⟩,⟨by repeat(first|exact HBz.out|apply vA|apply qZ|apply qQ)⟩⟩
    case round=>
     clear HO HBz
     obtain⟨x,L,rfl,HX,HL,HO,HBz⟩:=hrel
     by_cases c3:x<(L0.length:Int)
     case neg=>
      have c3b0:=z0 c3
      have HLe:=zz (show L=r from(Ss.up_out (fun a b h1 h2=>HL.out.2.2 a b h1 (by have:=HL.out.1;have:=HX.out;omega)) (HL0.out ▸ HL.out.2.1) HP.out).trans HE.out)
      clear c3
      go_wp2_with(fail)
      go_ret
      exact⟨_,rfl,HLe.out ▸ Kd.vH (zR HO.out) HB.out.size,zv HB.out (by repeat(first|exact HBz.out|apply vA|apply qZ|apply qQ))⟩
     cases gk with
     |zero=>exact absurd HX.out (by intro h;omega)
     |succ k1=>
      have c3b0:=z1 c3
      have HC:=zz c3
      clear c3
      go_wp2_with(fail)
      go_loopg[9] x.toNat (fun kq v9 w'=>∃(y:Int) (M:List ByteArray),v9= .int .i64 y∧qB (0≤y∧y.toNat=kq)∧qB (M.length=L0.length∧M.Perm L0∧Ss.InsI M x.toNat y.toNat)∧qB (Kd.R Kd.string 9 w' wz.heap.size (fun _=>True) (.slice A L0.length cp) M)∧qB (Below wz.heap.size wz w'))
      case atStart=>exact⟨x,L,rfl,⟨⟨by have:=HX.out;omega,rfl⟩⟩,⟨⟨HL.out.1,HL.out.2.1,HL.out.2.2.start⟩⟩,⟨zR HO.out⟩,⟨by repeat(first|exact HBz.out|apply vA|apply qZ|apply qQ)⟩⟩
      case round=>
       clear HO HBz
       obtain⟨y,M,rfl,HY,HM,HO,HBz⟩:=hrel
       have HXW:=zz (show wrap64 (x+1)=x+1 from by have:=HX.out;have:=HC.out;have:=HLL.out;simp[wrap64,IntKind.wrap];omega)
       by_cases c4:y>0
       case neg=>
        have c4b0:=zgtn c4
        have HU:=zz (HM.out.2.2.done (.inl (by have:=HY.out;omega)))
        clear c4
        go_wp2_with(fail)
        repeat(go_quiet (fail);try go_wp2)
        go_roundg k1
        case measure=>omega
        case rel=>exact⟨wrap64 (x+1),M,rfl,⟨⟨by have:=HXW.out;have:=HX.out;omega,by have:=HXW.out;have:=HX.out;omega⟩⟩,⟨⟨HM.out.1,HM.out.2.1,by rw[show(wrap64 (x+1)).toNat=x.toNat+1 by have:=HXW.out;have:=HX.out;omega];exact HU.out⟩⟩,⟨zR HO.out⟩,⟨by repeat(first|exact HBz.out|apply vA|apply qZ|apply qQ)⟩⟩
       cases gk with
       |zero=>exact absurd HY.out (by intro h;omega)
       |succ k2=>
        have c4b0:=zgt c4
        obtain⟨y1,hy1⟩:∃z:Int,wrap64 (y - 1)=z:=⟨_,rfl⟩
        have hy1w:IntKind.i64.wrap (y - 1)=y1:=(i64_w _).trans hy1
        have HYX:=zz HM.out.2.2.1
        have HY1:=zz (show y1=y - 1∧y.toNat=y1.toNat+1∧y<(L0.length:Int) from by
         have h1:=HY.out;have h2:=HYX.out;have h3:=HC.out;have h4:=HLL.out
         have:y1=y - 1:=by rw[←hy1];simp[wrap64,IntKind.wrap];omega
         omega)
        have p1:0≤y1:=by have:=HY1.out;omega
        have q1:y1<(L0.length:Int):=by have:=HY1.out;omega
        have p2:0≤y:=by omega
        have q2:y<(L0.length:Int):=HY1.out.2.2
        obtain⟨g,cp',eo,gb,gl,cl,hcl⟩:=Kd.R_form HO.out (by have:=HM.out.1;omega)
        (first|cases eo|(injection eo with ea_ en_ ec_;(first|subst ea_|(injection ea_ with ea_;subst ea_));subst ec_;clear en_))
        have GB:=zz gb
        clear gb gl hcl c4
        obtain⟨hx1,hf1⟩:=Kd.R_celln (⟨#[]⟩:ByteArray) HO.out y1 p1 q1
        obtain⟨hx2,hf2⟩:=Kd.R_celln (⟨#[]⟩:ByteArray) HO.out y p2 q2
        have n1:y.toNat≠y1.toNat:=by rw[HY1.out.2.1];omega
        have n2:y1.toNat≠y.toNat:=Ne.symm n1
        have d1:=z1 p1
        have d2:=z1 q1
        have d3:=z1 p2
        have d4:=z1 q2
        replace p1:=eq_true p1
        replace q1:=eq_true q1
        replace p2:=eq_true p2
        replace q2:=eq_true q2
        by_cases c5:Op.bytesLess (rdOf (⟨#[]⟩:ByteArray) M y).toList (rdOf (⟨#[]⟩:ByteArray) M y1).toList=true
        ·have HSw:=zz (show Ss.InsI (Ss.swp M y1.toNat) x.toNat y1.toNat from by
          have h:=HM.out.2.2
          rw[HY1.out.2.1] at h
          refine h.swap (by have:=HC.out;have:=HM.out.1;have:=HX.out;omega) ?_
          rw[Ss.bl] at c5
          have h5:=of_decide_eq_true c5
          unfold rdOf at h5
          rw[HY1.out.2.1] at h5
          exact fun hle=>absurd h5 (List.not_lt.2 hle))
         go_wp2_with(fail)
         repeat(go_quiet (fail);try go_wp2)
         go_region
         all_goals go_wp2
         go_roundg k2
         case measure=>omega
         case rel=>exact⟨wrap64 (y - 1),Ss.swp M y1.toNat,by simp[hy1],⟨⟨by rw[hy1];have:=HY1.out;omega,by rw[hy1];have:=HY1.out;have:=HY.out;omega⟩⟩,⟨⟨by unfold Ss.swp;rw[List.length_set,List.length_set];exact HM.out.1,(Ss.swp_perm M _ (by have:=HY1.out;have:=HM.out.1;omega)).trans HM.out.2.1,by rw[hy1];exact HSw.out⟩⟩,⟨by repeat(first|exact Ss.swap_R HO.out HY1.out.2.1|apply Kd.qT|apply Kd.qX)⟩,⟨by repeat(first|exact HBz.out|apply vA|apply qZ|apply qQ|refine qM ?_ GB.out)⟩⟩
        have c5b:Op.bytesLess (rdOf (⟨#[]⟩:ByteArray) M y).toList (rdOf (⟨#[]⟩:ByteArray) M y1).toList=false:=by simpa using c5
        have HU:=zz (show Ss.Up M (x.toNat+1) from HM.out.2.2.done (.inr (by
         rw[Ss.bl] at c5b
         have h5:=of_decide_eq_false c5b
         unfold rdOf at h5
         rw[show y.toNat - 1=y1.toNat by have:=HY1.out;omega]
         exact List.not_lt.1 h5)))
        clear c5
        go_wp2_with(fail)
        repeat(go_quiet (fail);try go_wp2)
        go_roundg k1
        case measure=>omega
        case rel=>exact⟨wrap64 (x+1),M,rfl,⟨⟨by have:=HXW.out;have:=HX.out;omega,by have:=HXW.out;have:=HX.out;omega⟩⟩,⟨⟨HM.out.1,HM.out.2.1,by rw[show(wrap64 (x+1)).toNat=x.toNat+1 by have:=HXW.out;have:=HX.out;omega];exact HU.out⟩⟩,⟨zR HO.out⟩,⟨by repeat(first|exact HBz.out|apply vA|apply qZ|apply qQ)⟩⟩
   ·intro x c kl yd yp w2 cnt2 hkey hlk hv hat hrg2 hlt hg2 hs2 hen
    obtain⟨x',ex,rfl,_⟩:=Maps.keyOf_str Tryz.underlying9 hkey
    obtain rfl:x=x':=encStr_inj ex
    have hrow2:=hrow.kept hg2 (Or.inr (row_ne_iter hrow hrg).symm)
    have hS2:=Lib.hid hs2
    have hbl:=HBL.out
    obtain⟨hi,hz0,hz1,hz2⟩:=HI0.out
    clear hs2
    go_wp2_with(at_builtin;refine wpList_append_own_at _ rfl _ _ 39 rfl wz.heap.size 9 i0 (.string ⟨#[]⟩) 1 16 Tryz.underlying39 hi hz0 hz1 hz2 rfl (by decide) _ _ _ rfl (hrow2.alloc _) ⟨w2.heap.size,0,none⟩ 1 1 [encStr x] rfl rfl (cell_one_new _ _ _) (by simp[Value.oneCell',encStr]) (by unfold maxLen at*;omega) (by omega) (by have:=hnx.size;have:=hg2.size;simp;omega) ?_;intro v' w3 hown' hg3 hnil3 hat3;go_frame)
    have hrg3:=(hrg2.alloc _).kept hg3 (row_ne_low hrow2 hbl) (row_ne_iter hrow2 hrg2)
    go_roundw
    case rel=>
     refine⟨_,cnt2,ss++[x],hrg3,by simp;omega,by simpa using hown',hC.step hlk hat,?_⟩
     exact((hnx.grown hg2 hnx.size (fun j hj=>by cases hj;exact HB7w.out)).alloc (by have:=hnx.size;have:=hg2.size;omega) _).grown hg3 (by have:=hnx.size;have:=hg2.size;simp;omega) (fun j hj=>(hrow2.lt j hj).1)
    case measure=>rw[hrg3.left_eq,hrg.left_eq];exact hlt
def impl_keysOf.f(ds:List ByteArray):Option (List ByteArray):=if ds.length<4194304∧(ds.all fun s=>decide (s.size≤140737488355328))=true then some (impl_sorted.out ds) else none
theorem Ss.keys_f{ds:List ByteArray}{ss:List (List UInt8)}(h1:ds.length<4194304)(h2:(ds.all fun s=>decide (s.size≤140737488355328))=true)(hp:ss.Perm (impl_sorted.dd ds))(hl:ss.length<4194304):impl_sortedSet.f (ss.map fun x=>(⟨x.toArray⟩:ByteArray))=some (impl_sorted.out ds):=by
 have hm:∀x,x ∈ (ss.map fun x=>(⟨x.toArray⟩:ByteArray))↔x ∈ ds:=fun x=>by
  rw[List.mem_map]
  constructor
  ·rintro⟨y,hy,rfl⟩
   obtain⟨s,hs,e⟩:=(impl_sorted.dd_mem y ds).1 (hp.mem_iff.1 hy)
   have:s=⟨y.toArray⟩:=Ss.dataInj (by rw[e])
   exact this ▸ hs
  ·intro hx
   exact⟨x.data.toList,hp.mem_iff.2 ((impl_sorted.dd_mem _ ds).2 ⟨x,hx,rfl⟩),Ss.dataInj (by simp)⟩
 unfold impl_sortedSet.f
 rw[if_pos ⟨by rw[List.length_map];exact hl,List.all_eq_true.2 fun x hx=>List.all_eq_true.1 h2 x ((hm x).1 hx)⟩,impl_sorted.out_congr hm]
theorem impl_keysOf.calls(b:Nat)(ds r:List ByteArray)(w:World)(hM:MapB.MS w b ds)(h:impl_keysOf.f ds=some r):
 Calls Tryz.prog 56 #[.map (some b)] w fun e w'=>∃v0_:Value,e= .returned v0_∧Kd.R Kd.string 9 w' w.heap.size (fun _=>True) v0_ r∧Below w.heap.size w w':=by
 unfold impl_keysOf.f at h
 by_cases hc:ds.length<4194304∧(ds.all fun s=>decide (s.size≤140737488355328))=true
 case neg=>exact zno h hc
 rw[if_pos hc] at h
 have HE:=zz (zi h)
 have HLl:=zz hc.1
 have HSz:=zz hc.2
 clear hc h
 have HB:=zz (Below.refl w.heap.size w)
 have HM:=zz hM
 have HBL:=zz (MapB.MS.lt hM)
 clear hM
 obtain⟨i0,hi,hz0,hz1,hz2⟩:=info_parts info9
 have HI0:=zz (And.intro hi (And.intro hz0 (And.intro hz1 hz2)))
 clear hi hz0 hz1 hz2
 go_enter Tryz.func56,Tryz.ntmps56
 go_wp2_with(first
  |(refine zN 5 ?_;refine Kd.R_lit Kd.string (w0:=w) w.heap.size 9 ?hg (N:=5) ?hd (xs:=([]:List ByteArray)) (inner:=[]) (ok:=fun _=>True) (okp:=fun _=>False) ?hr ?hp (fun _ hk=>hk.elim) trivial (by repeat(first|exact Below.refl _ _|apply vA|apply qZ|apply qQ)) (by first|exact Nat.le_refl _|simp) (by simp) ?_;(case hd=>rfl);(case hg=>rfl);(case hr=>first|(go_simp;done)|(go_simp;rfl));(case hp=>exact(Reps.none _ _));intro v20 w6 ho7 hb hg_ hnew_;clear hnew_;have HO:=zz (Ss.row0 ho7);replace HB:=zz hb;replace HM:=zz (MapB.MS.kept (b:=b) (ds:=ds) (MapB.zm HM.out) hg_ (by simp));clear hb hg_ ho7)
  |(at_range;refine wpList_range_own _ rfl _ 84 rfl 9 4 MapSet.keyed Tryz.underlying84 _ b _ _ rfl HM.out ?_;intro w7 hrg0 hg0 hs0;have HZ:=zz (World.ownsMap.size_le HM.out);generalize hD:MapB.of ds=D0 at hrg0 HZ;have hD0:=Lib.hid hD;clear hD;have HRG:=zz hrg0;have HB7w:=zz (HB.out.size);replace HB:=zz (HB.out.grown hg0 HB.out.size (fun j hj=>by cases hj));have HRW:=zz (World.ownsRow.kept HO.out hg0 (by by_cases e_:(v20:Value).ownBlock=none;exact .inl e_;exact .inr e_));clear hrg0 hg0 hs0 HM HO))
 go_frame
 go_loopw[3] (fun v wr=>∃(left:Lit→Bool) (cnt:Nat) (ss:List (List UInt8)),wr.ranges Tryz.prog 9 (plainElem (H:=Unit) Tryz.prog 4) b w6.heap.size ds.length D0 left cnt∧ss.length+cnt≤Maps.size D0∧
  wr.ownsRow w.heap.size 9 1 v ss.length (ss.map encStr)∧Collected D0 left ss∧Below w.heap.size w wr)
  (fun _ wr=>wr.rangeLeft b w6.heap.size)
 case atStart=>exact⟨_,_,[],HRG.out,by simp,HRW.out,Collected.start D0,HB.out⟩
 case round=>
  obtain⟨left,cnt,ss,hrg,hcs,hrow,hC,hnx⟩:=hrel
  have hlen:ss.length+cnt<4194304:=by have:=HZ.out;have:=HLl.out;omega
  go_wp2_with(at_next;refine wpList_next_ranges _ rfl _ rfl 9 MapSet.keyed (plainElem Tryz.prog 4) encStr (fun c:Ss.Bx=>Value.bool c.b) (fun key kl hk=>by obtain⟨x,hx,_⟩:=Maps.keyOf_str Tryz.underlying9 hk;exact⟨x,hx⟩) (fun v y hv=>by obtain⟨c,rfl,_⟩:=MapB.plain Tryz.underlying4 hv;exact⟨⟨c⟩,rfl⟩) b w6.heap.size ds.length _ _ _ rfl hrg ?_ ?_)
  ·intro hc0 hl0
   have HF:=zz (Ss.keys_f HLl.out HSz.out (show ss.Perm (impl_sorted.dd ds) from(List.perm_ext_iff_of_nodup hC.1 (impl_sorted.dd_nodup _)).2 fun x=>by
    rw[hC.2 x,hl0,←hD0.out,MapB.has_dd,impl_sorted.dd_mem];simp) (by omega))
   have HO:=zz (Ss.R_row hrow)
   replace HB:=zz hnx
   clear hc0 hl0 hrow hnx hC hcs hrg hlen
   obtain⟨L0,hL0⟩:∃L:List ByteArray,L=ss.map (fun x=>(⟨x.toArray⟩:ByteArray)):=⟨_,rfl⟩
   rw[←hL0] at HO HF
   clear hL0
   obtain⟨A,cp,hv⟩:=Kd.vG HO.out
   subst hv
   go_wp2_with(first|(refine zL 65 17 Tryz.func65 #[.slice A L0.length cp] ?_;(with_reducible refine(impl_sortedSet.calls A cp L0 (impl_sorted.out ds) _ (Kd.qS (zR HO.out)).2.2 (Kd.qS HO.out).2.1 HF.out).mono ?_);rintro e w9 ⟨v9,rfl,ho,hb⟩;refine⟨_,rfl,?_⟩;have HB9:=zz (zv zb hb);have HO9:=zz (Kd.vH ho (qG zb));clear ho hb))
   go_ret
   exact⟨_,rfl,HE.out ▸ zR HO9.out,HB9.out⟩
  ·intro x c kl yd yp w2 cnt2 hkey hlk hv hat hrg2 hlt hg2 hs2 hen
   obtain⟨x',ex,rfl,_⟩:=Maps.keyOf_str Tryz.underlying9 hkey
   obtain rfl:x=x':=encStr_inj ex
   have hrow2:=hrow.kept hg2 (Or.inr (row_ne_iter hrow hrg).symm)
   have hS2:=Lib.hid hs2
   have hbl:=HBL.out
   obtain⟨hi,hz0,hz1,hz2⟩:=HI0.out
   clear hs2
   go_wp2_with(at_builtin;refine wpList_append_own_at _ rfl _ _ 39 rfl w.heap.size 9 i0 (.string ⟨#[]⟩) 1 16 Tryz.underlying39 hi hz0 hz1 hz2 rfl (by decide) _ _ _ rfl (hrow2.alloc _) ⟨w2.heap.size,0,none⟩ 1 1 [encStr x] rfl rfl (cell_one_new _ _ _) (by simp[Value.oneCell',encStr]) (by unfold maxLen at*;omega) (by omega) (by have:=hnx.size;have:=hg2.size;simp;omega) ?_;intro v' w3 hown' hg3 hnil3 hat3;go_frame)
   have hrg3:=(hrg2.alloc _).kept hg3 (row_ne_low hrow2 hbl) (row_ne_iter hrow2 hrg2)
   go_roundw
   case rel=>
    refine⟨_,cnt2,ss++[x],hrg3,by simp;omega,by simpa using hown',hC.step hlk hat,?_⟩
    exact((hnx.grown hg2 hnx.size (fun j hj=>by cases hj;exact HB7w.out)).alloc (by have:=hnx.size;have:=hg2.size;omega) _).grown hg3 (by have:=hnx.size;have:=hg2.size;simp;omega) (fun j hj=>(hrow2.lt j hj).1)
   case measure=>rw[hrg3.left_eq,hrg.left_eq];exact hlt
def impl_profileOf.l0:Nat→ByteArray→List (S67)→Int→Int→Option (Int)
 |0,_,_,_,_=>none
 |k+1,x1,x7,x8,x9=>if x9<x8 then(if 0≤x9 then(if x9<(x7.length:Int) then(if((qD x7 x9).f0).toList=x1.toList then(some x9) else(impl_profileOf.l0 k x1 x7 x8 (wrap64 (x9+1)))) else(none)) else(none)) else(some (-1))
def impl_profileOf.f(k:Nat)(l0:List (S67))(a1:ByteArray):Option (Int):=impl_profileOf.l0 k a1 l0 (l0.length:Int) 0
theorem impl_profileOf.calls(k:Nat)(A0:Option Addr)(c0:Nat)(l0:List (S67))(a1:ByteArray)(r:Int)(w:World)(hr0:Kd.C k67 w A0 l0.length l0)(hc0:l0.length≤c0)(h:impl_profileOf.f k l0 a1=some r):
 Calls Tryz.prog 55 #[.slice A0 l0.length c0,.string a1] w fun e w'=>e= .returned (.int .i64 r)∧Below w.heap.size w w':=by
 have hu67:=Tryz.underlying67
 have HR0:=zz hr0
 have HC0:=zz hc0
 clear hr0 hc0
 have HB:=zz (Below.refl w.heap.size w)
 unfold impl_profileOf.f at h
 have H:=h
 clear h
 replace HB:=HB.out
 have HW:=zz (Below.refl w.heap.size w)
 go_enter Tryz.func55,Tryz.ntmps55
 go_wp2_with(fail)
 go_loopg[9] k (fun kq v9 w'=>∃(x9_kl3:Int),v9= .int .i64 x9_kl3∧qB (impl_profileOf.l0 kq a1 l0 (l0.length:Int) x9_kl3=some r)∧qB (kq≤k)∧qB (Below w.heap.size w w'))
 case atStart=>exact⟨(0),zr,⟨H⟩,⟨Nat.le_refl _⟩,⟨HB⟩⟩
 case round=>
  clear H HB
  obtain⟨x9_kl3,rfl,H,HKkl3,HB⟩:=hrel
  replace HB:=HB.out
  replace H:=H.out
  have HLkl3:=zz (Below.refl w.heap.size w)
  cases gk with
  |zero=>exact absurd H (by simp[impl_profileOf.l0])
  |succ kl3=>
   simp only[impl_profileOf.l0] at H
   by_cases c4:x9_kl3<(l0.length:Int)
   case neg=>
    rw[if_neg c4] at H
    have c4b0:=z0 c4
    clear c4
    obtain rfl:=zi H
    go_wp2_with(fail)
    go_ret
    exact⟨ze,zv HW.out HB⟩
   rw[if_pos c4] at H
   have c4b0:=z1 c4
   clear c4
   by_cases c5:0≤x9_kl3
   case neg=>exact zno H c5
   rw[if_pos c5] at H
   have c5b0:=z1 c5
   clear c5
   by_cases c6:x9_kl3<(l0.length:Int)
   case neg=>exact zno H c6
   rw[if_pos c6] at H
   have c6b0:=z1 c6
   clear c6
   have p675:0≤(x9_kl3:Int):=z2
   have q675:(x9_kl3:Int)<(l0.length:Int):=z2
   obtain⟨ad675,A675_2,c675_2,e675,hx675_0,hx675_1,hx675_2,hl675_2,hC675_2⟩:=at_T67 HR0.out x9_kl3 p675 q675
   cases e675
   replace hx675_0:=qR hx675_0
   replace hx675_1:=qR hx675_1
   replace hx675_2:=qR hx675_2
   have HR675_2:=zz hC675_2
   have HC675_2:=zz hl675_2
   clear hC675_2 hl675_2
   replace p675:=eq_true p675
   replace q675:=eq_true q675
   by_cases c7:((qD l0 x9_kl3).f0).toList=a1.toList
   case neg=>
    rw[if_neg c7] at H
    obtain⟨c7b0,c7b1⟩:=zw c7
    go_wp2_with(first|(refine zN 6 ?_;(try(refine z4 ?_;dsimp only));refine zX 6 67 #[.string (⟨#[]⟩:ByteArray),.int .i64 0,.slice none 0 0] ?_;intro gb676 hg w10 hbox hb;have hge:w.heap.size≤gb676:=(by rw[hg];exact qG HB);clear hg;have hst:Below w.heap.size w (((w10.setCell ⟨gb676,0,none⟩ (.string ((qD l0 x9_kl3).f0))).setCell ⟨gb676,1,none⟩ (.int .i64 ((qD l0 x9_kl3).f1))).setCell ⟨gb676,2,none⟩ (.slice A675_2 ((qD l0 x9_kl3).f2).length c675_2)):=(qM (qM (qM (zv HB hb) hge) hge) hge);have hbx:(((w10.setCell ⟨gb676,0,none⟩ (.string ((qD l0 x9_kl3).f0))).setCell ⟨gb676,1,none⟩ (.int .i64 ((qD l0 x9_kl3).f1))).setCell ⟨gb676,2,none⟩ (.slice A675_2 ((qD l0 x9_kl3).f2).length c675_2)).heap[gb676]?=some (.cells #[.string ((qD l0 x9_kl3).f0),.int .i64 ((qD l0 x9_kl3).f1),.slice A675_2 ((qD l0 x9_kl3).f2).length c675_2] 67 (0,0)):=(qP (cs:= #[.string ((qD l0 x9_kl3).f0),.int .i64 ((qD l0 x9_kl3).f1),.slice none 0 0]) (qP (cs:= #[.string ((qD l0 x9_kl3).f0),.int .i64 0,.slice none 0 0]) (qP (cs:= #[.string (⟨#[]⟩:ByteArray),.int .i64 0,.slice none 0 0]) hbox 0 _ rfl) 1 _ rfl) 2 _ rfl);obtain⟨hs676_0,hs676_1,hs676_2,hf676_0,hf676_1,hf676_2⟩:=zc3 hbox)|((with_reducible refine qY (t:=67) (p:=6) rfl ?_);(try(refine z4 ?_;dsimp only));refine qV (t:=67) (p:=6) (v:=?vo_w11) (w1:=(((w10.setCell ⟨gb676,0,none⟩ (.string ((qD l0 x9_kl3).f0))).setCell ⟨gb676,1,none⟩ (.int .i64 ((qD l0 x9_kl3).f1))).setCell ⟨gb676,2,none⟩ (.slice A675_2 ((qD l0 x9_kl3).f2).length c675_2))) ?hg ?ho ?hn ?hr ?_;(case ho=>rfl);(case hg=>rfl);(case hn=>rfl);(case hr=>first|(go_simp;done)|(go_simp;rfl));intro w11 hw;replace hst:=hst;rw[←hw] at hst hbx;clear hw hb hbox hge HB hs676_0 hf676_0 hs676_1 hf676_1 hs676_2 hf676_2;replace HW:=zz (zv HW.out hst);replace HLkl3:=zz (zv HLkl3.out hst);replace HR0:=zz (Kd.qC HR0.out hst);replace HR675_2:=zz (Kd.qC HR675_2.out hst);replace hx675_0:=qH hx675_0 hst;replace hx675_1:=qH hx675_1 hst;replace hx675_2:=qH hx675_2 hst;obtain⟨hbx676_0,hbx676_1,hbx676_2⟩:=zx3 hbx;have HB:=Below.refl w11.heap.size w11;clear hbx hst))
    go_roundg kl3
    case measure=>have:=HKkl3.out;omega
    case rel=>exact⟨(wrap64 (x9_kl3+1)),zr,⟨H⟩,⟨by have:=HKkl3.out;omega⟩,⟨zv HLkl3.out HB⟩⟩
   rw[if_pos c7] at H
   obtain⟨c7b0,c7b1⟩:=zq c7
   clear c7
   obtain rfl:=zi H
   go_wp2_with(first|(refine zN 6 ?_;(try(refine z4 ?_;dsimp only));refine zX 6 67 #[.string (⟨#[]⟩:ByteArray),.int .i64 0,.slice none 0 0] ?_;intro gb676 hg w8 hbox hb;have hge:w.heap.size≤gb676:=(by rw[hg];exact qG HB);clear hg;have hst:Below w.heap.size w (((w8.setCell ⟨gb676,0,none⟩ (.string ((qD l0 x9_kl3).f0))).setCell ⟨gb676,1,none⟩ (.int .i64 ((qD l0 x9_kl3).f1))).setCell ⟨gb676,2,none⟩ (.slice A675_2 ((qD l0 x9_kl3).f2).length c675_2)):=(qM (qM (qM (zv HB hb) hge) hge) hge);have hbx:(((w8.setCell ⟨gb676,0,none⟩ (.string ((qD l0 x9_kl3).f0))).setCell ⟨gb676,1,none⟩ (.int .i64 ((qD l0 x9_kl3).f1))).setCell ⟨gb676,2,none⟩ (.slice A675_2 ((qD l0 x9_kl3).f2).length c675_2)).heap[gb676]?=some (.cells #[.string ((qD l0 x9_kl3).f0),.int .i64 ((qD l0 x9_kl3).f1),.slice A675_2 ((qD l0 x9_kl3).f2).length c675_2] 67 (0,0)):=(qP (cs:= #[.string ((qD l0 x9_kl3).f0),.int .i64 ((qD l0 x9_kl3).f1),.slice none 0 0]) (qP (cs:= #[.string ((qD l0 x9_kl3).f0),.int .i64 0,.slice none 0 0]) (qP (cs:= #[.string (⟨#[]⟩:ByteArray),.int .i64 0,.slice none 0 0]) hbox 0 _ rfl) 1 _ rfl) 2 _ rfl);obtain⟨hs676_0,hs676_1,hs676_2,hf676_0,hf676_1,hf676_2⟩:=zc3 hbox)|((with_reducible refine qY (t:=67) (p:=6) rfl ?_);(try(refine z4 ?_;dsimp only));refine qV (t:=67) (p:=6) (v:=?vo_w9) (w1:=(((w8.setCell ⟨gb676,0,none⟩ (.string ((qD l0 x9_kl3).f0))).setCell ⟨gb676,1,none⟩ (.int .i64 ((qD l0 x9_kl3).f1))).setCell ⟨gb676,2,none⟩ (.slice A675_2 ((qD l0 x9_kl3).f2).length c675_2))) ?hg ?ho ?hn ?hr ?_;(case ho=>rfl);(case hg=>rfl);(case hn=>rfl);(case hr=>first|(go_simp;done)|(go_simp;rfl));intro w9 hw;replace hst:=hst;rw[←hw] at hst hbx;clear hw hb hbox hge HB hs676_0 hf676_0 hs676_1 hf676_1 hs676_2 hf676_2;replace HW:=zz (zv HW.out hst);replace HLkl3:=zz (zv HLkl3.out hst);replace HR0:=zz (Kd.qC HR0.out hst);replace HR675_2:=zz (Kd.qC HR675_2.out hst);replace hx675_0:=qH hx675_0 hst;replace hx675_1:=qH hx675_1 hst;replace hx675_2:=qH hx675_2 hst;obtain⟨hbx676_0,hbx676_1,hbx676_2⟩:=zx3 hbx;have HB:=Below.refl w9.heap.size w9;clear hbx hst))
   go_ret
   exact⟨ze,zv HW.out HB⟩
def impl_current.l0:Nat→List (S70)→Int→Int→ByteArray→Int→List (S70)→Option (ByteArray)
 |0,_,_,_,_,_,_=>none
 |k+1,x6,x7,x8,x678000,x678001,x678002=>if x8<x7 then(if 0≤x8 then(if x8<(x6.length:Int) then(if((qN x6 x8).f0)=x678001 then(some ((qN x6 x8).f1)) else(impl_current.l0 k x6 x7 (wrap64 (x8+1)) x678000 x678001 x678002)) else(none)) else(none)) else(some (⟨#[]⟩:ByteArray))
def impl_current.f(k:Nat)(a0_0:ByteArray)(a0_1:Int)(l0_2:List (S70)):Option (ByteArray):=impl_current.l0 k l0_2 (l0_2.length:Int) 0 a0_0 a0_1 l0_2
theorem impl_current.calls(k:Nat)(a0_0:ByteArray)(a0_1:Int)(A0_2:Option Addr)(c0_2:Nat)(l0_2:List (S70))(r:ByteArray)(w:World)(hr0_2:Kd.C k70 w A0_2 l0_2.length l0_2)(hc0_2:l0_2.length≤c0_2)(h:impl_current.f k a0_0 a0_1 l0_2=some r):
 Calls Tryz.prog 58 #[.agg #[.string a0_0,.int .i64 a0_1,.slice A0_2 l0_2.length c0_2]] w fun e w'=>e= .returned (.string r)∧Below w.heap.size w w':=by
 have hu67:=Tryz.underlying67
 have hu70:=Tryz.underlying70
 have HR0_2:=zz hr0_2
 have HC0_2:=zz hc0_2
 clear hr0_2 hc0_2
 have HB:=zz (Below.refl w.heap.size w)
 unfold impl_current.f at h
 have H:=h
 clear h
 replace HB:=HB.out
 have HW:=zz (Below.refl w.heap.size w)
 go_enter Tryz.func58,Tryz.ntmps58
 go_wp2_with(first|(refine zN 1 ?_;(try(refine z4 ?_;dsimp only));refine zX 1 67 #[.string a0_0,.int .i64 a0_1,.slice A0_2 l0_2.length c0_2] ?_;intro gb677 hg w3 hbox hb;have hst:=zv HB hb;clear hg hb HB;replace HW:=zz (zv HW.out hst);replace HR0_2:=zz (Kd.qC HR0_2.out hst);obtain⟨hbx677_0,hbx677_1,hbx677_2⟩:=zx3 hbox;have HB:=Below.refl w3.heap.size w3;clear hbox hst))
 go_loopg[8] k (fun kq v8 w'=>∃(x8_kl2:Int),v8= .int .i64 x8_kl2∧qB (impl_current.l0 kq l0_2 (l0_2.length:Int) x8_kl2 a0_0 a0_1 l0_2=some r)∧qB (kq≤k)∧qB (Below w3.heap.size w3 w'))
 case atStart=>exact⟨(0),zr,⟨H⟩,⟨Nat.le_refl _⟩,⟨HB⟩⟩
 case round=>
  clear H HB
  obtain⟨x8_kl2,rfl,H,HKkl2,HB⟩:=hrel
  replace HB:=HB.out
  replace H:=H.out
  have HLkl2:=zz (Below.refl w3.heap.size w3)
  cases gk with
  |zero=>exact absurd H (by simp[impl_current.l0])
  |succ kl2=>
   simp only[impl_current.l0] at H
   by_cases c4:x8_kl2<(l0_2.length:Int)
   case neg=>
    rw[if_neg c4] at H
    have c4b0:=z0 c4
    clear c4
    obtain rfl:=zi H
    go_wp2_with(fail)
    go_ret
    exact⟨ze,zv HW.out HB⟩
   rw[if_pos c4] at H
   have c4b0:=z1 c4
   clear c4
   by_cases c5:0≤x8_kl2
   case neg=>exact zno H c5
   rw[if_pos c5] at H
   have c5b0:=z1 c5
   clear c5
   by_cases c6:x8_kl2<(l0_2.length:Int)
   case neg=>exact zno H c6
   rw[if_pos c6] at H
   have c6b0:=z1 c6
   clear c6
   have p678:0≤(x8_kl2:Int):=z2
   have q678:(x8_kl2:Int)<(l0_2.length:Int):=z2
   obtain⟨ad678,e678,hx678_0,hx678_1⟩:=at_T70 HR0_2.out x8_kl2 p678 q678
   cases e678
   replace hx678_0:=qR hx678_0
   replace hx678_1:=qR hx678_1
   replace p678:=eq_true p678
   replace q678:=eq_true q678
   by_cases c7:((qN l0_2 x8_kl2).f0)=a0_1
   case neg=>
    rw[if_neg c7] at H
    obtain⟨c7b0,c7b1⟩:=zw c7
    go_wp2_with(first|(refine zN 4 ?_;(try(refine z4 ?_;dsimp only));refine zX 4 70 #[.int .i64 0,.string (⟨#[]⟩:ByteArray)] ?_;intro gb679 hg w10 hbox hb;have hge:w3.heap.size≤gb679:=(by rw[hg];exact qG HB);clear hg;have hst:Below w3.heap.size w3 ((w10.setCell ⟨gb679,0,none⟩ (.int .i64 ((qN l0_2 x8_kl2).f0))).setCell ⟨gb679,1,none⟩ (.string ((qN l0_2 x8_kl2).f1))):=(qM (qM (zv HB hb) hge) hge);have hbx:((w10.setCell ⟨gb679,0,none⟩ (.int .i64 ((qN l0_2 x8_kl2).f0))).setCell ⟨gb679,1,none⟩ (.string ((qN l0_2 x8_kl2).f1))).heap[gb679]?=some (.cells #[.int .i64 ((qN l0_2 x8_kl2).f0),.string ((qN l0_2 x8_kl2).f1)] 70 (0,0)):=(qP (cs:= #[.int .i64 ((qN l0_2 x8_kl2).f0),.string (⟨#[]⟩:ByteArray)]) (qP (cs:= #[.int .i64 0,.string (⟨#[]⟩:ByteArray)]) hbox 0 _ rfl) 1 _ rfl);obtain⟨hs679_0,hs679_1,hf679_0,hf679_1⟩:=zc2 hbox)|((with_reducible refine qY (t:=70) (p:=4) rfl ?_);(try(refine z4 ?_;dsimp only));refine qV (t:=70) (p:=4) (v:=?vo_w11) (w1:=((w10.setCell ⟨gb679,0,none⟩ (.int .i64 ((qN l0_2 x8_kl2).f0))).setCell ⟨gb679,1,none⟩ (.string ((qN l0_2 x8_kl2).f1)))) ?hg ?ho ?hn ?hr ?_;(case ho=>rfl);(case hg=>rfl);(case hn=>rfl);(case hr=>first|(go_simp;done)|(go_simp;rfl));intro w11 hw;replace hst:=hst;rw[←hw] at hst hbx;clear hw hb hbox hge HB hs679_0 hf679_0 hs679_1 hf679_1;replace HW:=zz (zv HW.out hst);replace HLkl2:=zz (zv HLkl2.out hst);replace HR0_2:=zz (Kd.qC HR0_2.out hst);replace hbx677_0:=qH hbx677_0 hst;replace hbx677_1:=qH hbx677_1 hst;replace hbx677_2:=qH hbx677_2 hst;replace hx678_0:=qH hx678_0 hst;replace hx678_1:=qH hx678_1 hst;obtain⟨hbx679_0,hbx679_1⟩:=zx2 hbx;have HB:=Below.refl w11.heap.size w11;clear hbx hst))
    go_roundg kl2
    case measure=>have:=HKkl2.out;omega
    case rel=>exact⟨(wrap64 (x8_kl2+1)),zr,⟨H⟩,⟨by have:=HKkl2.out;omega⟩,⟨zv HLkl2.out HB⟩⟩
   rw[if_pos c7] at H
   obtain⟨c7b0,c7b1⟩:=zq c7
   clear c7
   obtain rfl:=zi H
   go_wp2_with(first|(refine zN 4 ?_;(try(refine z4 ?_;dsimp only));refine zX 4 70 #[.int .i64 0,.string (⟨#[]⟩:ByteArray)] ?_;intro gb679 hg w8 hbox hb;have hge:w3.heap.size≤gb679:=(by rw[hg];exact qG HB);clear hg;have hst:Below w3.heap.size w3 ((w8.setCell ⟨gb679,0,none⟩ (.int .i64 ((qN l0_2 x8_kl2).f0))).setCell ⟨gb679,1,none⟩ (.string ((qN l0_2 x8_kl2).f1))):=(qM (qM (zv HB hb) hge) hge);have hbx:((w8.setCell ⟨gb679,0,none⟩ (.int .i64 ((qN l0_2 x8_kl2).f0))).setCell ⟨gb679,1,none⟩ (.string ((qN l0_2 x8_kl2).f1))).heap[gb679]?=some (.cells #[.int .i64 ((qN l0_2 x8_kl2).f0),.string ((qN l0_2 x8_kl2).f1)] 70 (0,0)):=(qP (cs:= #[.int .i64 ((qN l0_2 x8_kl2).f0),.string (⟨#[]⟩:ByteArray)]) (qP (cs:= #[.int .i64 0,.string (⟨#[]⟩:ByteArray)]) hbox 0 _ rfl) 1 _ rfl);obtain⟨hs679_0,hs679_1,hf679_0,hf679_1⟩:=zc2 hbox)|((with_reducible refine qY (t:=70) (p:=4) rfl ?_);(try(refine z4 ?_;dsimp only));refine qV (t:=70) (p:=4) (v:=?vo_w9) (w1:=((w8.setCell ⟨gb679,0,none⟩ (.int .i64 ((qN l0_2 x8_kl2).f0))).setCell ⟨gb679,1,none⟩ (.string ((qN l0_2 x8_kl2).f1)))) ?hg ?ho ?hn ?hr ?_;(case ho=>rfl);(case hg=>rfl);(case hn=>rfl);(case hr=>first|(go_simp;done)|(go_simp;rfl));intro w9 hw;replace hst:=hst;rw[←hw] at hst hbx;clear hw hb hbox hge HB hs679_0 hf679_0 hs679_1 hf679_1;replace HW:=zz (zv HW.out hst);replace HLkl2:=zz (zv HLkl2.out hst);replace HR0_2:=zz (Kd.qC HR0_2.out hst);replace hbx677_0:=qH hbx677_0 hst;replace hbx677_1:=qH hbx677_1 hst;replace hbx677_2:=qH hbx677_2 hst;replace hx678_0:=qH hx678_0 hst;replace hx678_1:=qH hx678_1 hst;obtain⟨hbx679_0,hbx679_1⟩:=zx2 hbx;have HB:=Below.refl w9.heap.size w9;clear hbx hst))
   go_ret
   exact⟨ze,zv HW.out HB⟩
def impl_Needed.j0:Nat→Int→Bool→List (S94)→List (S67)→List (S61)→List (S64)→Option (List ByteArray)
 |0,_,_,_,_,_,_=>none
 |k+1,x5,x23,x681000,x681001,x681002,x681003=>if x23=true then(some ([]:List ByteArray)) else(if 0≤x5 then(if x5<(x681001.length:Int) then((impl_current.f k ((qD x681001 x5).f0) ((qD x681001 x5).f1) ((qD x681001 x5).f2)).bind fun t685=>((impl_closure.f k x681000 (([t685]:List ByteArray))).bind fun t689=>((impl_keysOf.f t689).bind fun t692=>(some t692)))) else(none)) else(none))
def impl_Needed.f(k:Nat)(l0_0:List (S94))(l0_1:List (S67))(l0_2:List (S61))(l0_3:List (S64))(a1:ByteArray):Option (List ByteArray):=(impl_WorldOk.f k l0_0 l0_1 l0_2 l0_3).bind fun t681=>(if t681=true then((impl_profileOf.f k l0_1 a1).bind fun t682=>(if t682<0 then(impl_Needed.j0 k t682 true l0_0 l0_1 l0_2 l0_3) else(if 0≤t682 then(if t682<(l0_1.length:Int) then(impl_Needed.j0 k t682 (((qD l0_1 t682).f1)==0) l0_0 l0_1 l0_2 l0_3) else(none)) else(none)))) else(some ([]:List ByteArray)))
def impl_Needed.T6:Bool×List (List Nat×List Nat):=(true,[([],[]),([0],[0]),([],[]),([2],[2]),([],[]),([3,4],[3,4]),([5],[5]),([6],[6]),([7],[7]),([1,8,7],[1,8]),([9,9],[9]),([10,10,0,1,2,3,4,5,6,7,8,9,10],[10])])
def impl_Needed.B6:List Nat:=[0,1,0,4,0,28,60,124,252,511,1023,2047]
theorem impl_Needed.tab6:rtab .any (opsOf Tryz.f13 6)=impl_Needed.T6:=by kernel_rfl
theorem impl_Needed.bits6:waitsOk impl_Needed.T6.2 impl_Needed.B6=true:=by kernel_rfl
theorem impl_Needed.calls(k:Nat)(A0_0:Option Addr)(c0_0:Nat)(l0_0:List (S94))(A0_1:Option Addr)(c0_1:Nat)(l0_1:List (S67))(A0_2:Option Addr)(c0_2:Nat)(l0_2:List (S61))(A0_3:Option Addr)(c0_3:Nat)(l0_3:List (S64))(a1:ByteArray)(r:List ByteArray)(w:World)(hr0_0:Kd.C k94 w A0_0 l0_0.length l0_0)(hc0_0:l0_0.length≤c0_0)(hr0_1:Kd.C k67 w A0_1 l0_1.length l0_1)(hc0_1:l0_1.length≤c0_1)(hr0_2:Kd.C k61 w A0_2 l0_2.length l0_2)(hc0_2:l0_2.length≤c0_2)(hr0_3:Kd.C k64 w A0_3 l0_3.length l0_3)(hc0_3:l0_3.length≤c0_3)(hG_:GOK w)(h:impl_Needed.f k l0_0 l0_1 l0_2 l0_3 a1=some r):
 Calls Tryz.prog 13 #[.agg #[.slice A0_0 l0_0.length c0_0,.slice A0_1 l0_1.length c0_1,.slice A0_2 l0_2.length c0_2,.slice A0_3 l0_3.length c0_3],.string a1] w fun e w'=>∃v0_:Value,e= .returned (v0_)∧Kd.R Kd.string 9 w' w.heap.size (fun _=>True) v0_ r∧Below w.heap.size w w':=by
 have hu35:=Tryz.underlying35
 have hu67:=Tryz.underlying67
 have HG:=zz hG_
 clear hG_
 have HR0_0:=zz hr0_0
 have HC0_0:=zz hc0_0
 clear hr0_0 hc0_0
 have HR0_1:=zz hr0_1
 have HC0_1:=zz hc0_1
 clear hr0_1 hc0_1
 have HR0_2:=zz hr0_2
 have HC0_2:=zz hc0_2
 clear hr0_2 hc0_2
 have HR0_3:=zz hr0_3
 have HC0_3:=zz hc0_3
 clear hr0_3 hc0_3
 have HB:=zz (Below.refl w.heap.size w)
 unfold impl_Needed.f at h
 have H:=h
 clear h
 replace H:=zf H
 obtain⟨t681,A30,H⟩:=H
 try dsimp only at H
 have A3:=zz A30
 clear A30
 by_cases c4:t681=true
 case neg=>
  replace c4:=Bool.eq_false_iff.mpr c4
  subst c4
  rw[if_neg (show¬(false=true) by decide)] at H
  obtain rfl:=zi H
  go_enter Tryz.func13,Tryz.ntmps13
  go_wp2_with(first|(refine zX 2 35 #[.slice A0_0 l0_0.length c0_0,.slice A0_1 l0_1.length c0_1,.slice A0_2 l0_2.length c0_2,.slice A0_3 l0_3.length c0_3] ?_;intro gb680 hg w30 hbox hb;have BK680:=zz (hbox);have GW680:=zz ((zg:w.heap.size≤gb680));have GE680:=zz ((zg:w.heap.size≤gb680));replace HB:=zz (zv zb hb);clear hb hbox hg;obtain⟨hcz31_0,hcz31_1,hcz31_2,hcz31_3,hfz31_0,hfz31_1,hfz31_2,hfz31_3⟩:=zc4 BK680.out)|(refine zL 10 7 Tryz.func10 #[.agg #[.slice A0_0 l0_0.length c0_0,.slice A0_1 l0_1.length c0_1,.slice A0_2 l0_2.length c0_2,.slice A0_3 l0_3.length c0_3]] ?_;(with_reducible refine(impl_WorldOk.calls k _ _ l0_0 _ _ l0_1 _ _ l0_2 _ _ l0_3 false _ ?s1 ?s2 ?s3 ?s4 ?s5 ?s6 ?s7 ?s8 ?s9 A3.out).mono ?_);(case s1=>exact zc HR0_0.out);(case s2=>exact HC0_0.out);(case s3=>exact zc HR0_1.out);(case s4=>exact HC0_1.out);(case s5=>exact zc HR0_2.out);(case s6=>exact HC0_2.out);(case s7=>exact zc HR0_3.out);(case s8=>exact HC0_3.out);(case s9=>exact zG);rintro e w32 ⟨rfl,hb⟩;refine⟨_,rfl,?_⟩;replace BK680:=zz (zJ BK680 hb);replace HB:=zz (zv zb hb);(try clear hb);(try clear hb2);(try clear hk);(try clear hi)))
  go_ret
  exact⟨_,ze,by first|exact Kd.R_nil _ _ _ _ _|exact Kd.N_nil _ _ _ _ _|exact Kd.V_nil _ _ _ _ _|exact Kd.Q_nil _ _ _ _ _|exact Kd.S_nil _ _ _ _ _,zb⟩
 subst c4
 rw[if_pos rfl] at H
 replace H:=zf H
 obtain⟨t682,A50,H⟩:=H
 try dsimp only at H
 have A5:=zz A50
 clear A50
 have HC6:=zz H
 clear H
 go_enter Tryz.func13,Tryz.ntmps13
 go_upto_region 4 with(first|(refine zX 2 35 #[.slice A0_0 l0_0.length c0_0,.slice A0_1 l0_1.length c0_1,.slice A0_2 l0_2.length c0_2,.slice A0_3 l0_3.length c0_3] ?_;intro gb680 hg w7 hbox hb;have BK680:=zz (hbox);have GW680:=zz ((zg:w.heap.size≤gb680));have GE680:=zz ((zg:w.heap.size≤gb680));replace HB:=zz (zv zb hb);clear hb hbox hg;obtain⟨hcz8_0,hcz8_1,hcz8_2,hcz8_3,hfz8_0,hfz8_1,hfz8_2,hfz8_3⟩:=zc4 BK680.out)|(refine zL 10 7 Tryz.func10 #[.agg #[.slice A0_0 l0_0.length c0_0,.slice A0_1 l0_1.length c0_1,.slice A0_2 l0_2.length c0_2,.slice A0_3 l0_3.length c0_3]] ?_;(with_reducible refine(impl_WorldOk.calls k _ _ l0_0 _ _ l0_1 _ _ l0_2 _ _ l0_3 true _ ?s1 ?s2 ?s3 ?s4 ?s5 ?s6 ?s7 ?s8 ?s9 A3.out).mono ?_);(case s1=>exact zc HR0_0.out);(case s2=>exact HC0_0.out);(case s3=>exact zc HR0_1.out);(case s4=>exact HC0_1.out);(case s5=>exact zc HR0_2.out);(case s6=>exact HC0_2.out);(case s7=>exact zc HR0_3.out);(case s8=>exact HC0_3.out);(case s9=>exact zG);rintro e w9 ⟨rfl,hb⟩;refine⟨_,rfl,?_⟩;replace BK680:=zz (zJ BK680 hb);replace HB:=zz (zv zb hb);(try clear hb);(try clear hb2);(try clear hk);(try clear hi);obtain⟨hcz10_0,hcz10_1,hcz10_2,hcz10_3,hfz10_0,hfz10_1,hfz10_2,hfz10_3⟩:=zc4 BK680.out)|(refine zL 55 12 Tryz.func55 #[.slice A0_1 l0_1.length c0_1,.string a1] ?_;(with_reducible refine(impl_profileOf.calls k _ _ l0_1 a1 t682 _ ?s1 ?s2 A5.out).mono ?_);(case s1=>exact zc HR0_1.out);(case s2=>exact HC0_1.out);rintro e w11 ⟨rfl,hb⟩;refine⟨_,rfl,?_⟩;replace BK680:=zz (zJ BK680 hb);replace HB:=zz (zv zb hb);(try clear hb);(try clear hb2);(try clear hk);(try clear hi)))
 (try simp only[Act.put,List.setIfInBounds_toArray,List.set_cons_zero,List.set_cons_succ])
 go_cut [23] (fun v23 wc=>∃(kq:Nat) (x23_5:Bool),v23= .bool x23_5∧qB (impl_Needed.j0 kq t682 x23_5 l0_0 l0_1 l0_2 l0_3=some r)∧qB (kq≤k)∧qB (wc.heap[gb680]?=some (.cells #[(.slice A0_0 l0_0.length c0_0),(.slice A0_1 l0_1.length c0_1),(.slice A0_2 l0_2.length c0_2),(.slice A0_3 l0_3.length c0_3)] 35 (0,0)))∧qB (Below w.heap.size w wc))
 case first=>
  have H:=HC6.out
  clear HC6
  by_cases c12:t682<0
  ·rw[if_pos c12] at H
   have c12b0:=z1 c12
   clear c12
   (first|rw[c12b0]|(simp only[i64_w,i32_w];rw[c12b0])|skip)
   have H':=zz H
   clear H
   go_wp2
   go_meet
   case rel=>exact⟨_,(true),zr,H',⟨by first|omega|exact Nat.le_refl _⟩,⟨by(with_reducible repeat(first|refine qJ ?_ _|refine qK ?_|refine qF ?_ _));exact BK680.out⟩,⟨zb⟩⟩
  ·rw[if_neg c12] at H
   have c12b0:=z0 c12
   clear c12
   (first|rw[c12b0]|(simp only[i64_w,i32_w];rw[c12b0])|skip)
   by_cases c13:0≤t682
   ·rw[if_pos c13] at H
    have c13b0:=z1 c13
    clear c13
    by_cases c14:t682<(l0_1.length:Int)
    ·rw[if_pos c14] at H
     have c14b0:=z1 c14
     clear c14
     have H':=zz H
     clear H
     obtain⟨hcz15_0,hcz15_1,hcz15_2,hcz15_3,hfz15_0,hfz15_1,hfz15_2,hfz15_3⟩:=zc4 BK680.out
     have p683:0≤(t682:Int):=z2
     have q683:t682<(l0_1.length:Int):=z2
     obtain⟨ad683,A683_2,c683_2,e683,hx683_0,hx683_1,hx683_2,hl683_2,hi683_2⟩:=at_T67 HR0_1.out t682 p683 q683
     cases e683
     replace hx683_0:=z3 HB.out hx683_0
     replace hx683_1:=z3 HB.out hx683_1
     replace hx683_2:=z3 HB.out hx683_2
     have HR683_2:=zz hi683_2
     have HC683_2:=zz hl683_2
     clear hi683_2 hl683_2
     replace p683:=eq_true p683
     replace q683:=eq_true q683
     go_wp2
     go_meet
     case rel=>exact⟨_,((((qD l0_1 t682).f1)==0)),zr,H',⟨by first|omega|exact Nat.le_refl _⟩,⟨by(with_reducible repeat(first|refine qJ ?_ _|refine qK ?_|refine qF ?_ _));exact BK680.out⟩,⟨zb⟩⟩
    ·rw[if_neg c14] at H
     exact absurd H (by simp)
   ·rw[if_neg c13] at H
    exact absurd H (by simp)
 case rest=>
  clear HC6
  try clear c1
  try clear p2
  try clear c4
  try clear c5
  try clear c6
  try clear p6
  try clear q6
  try clear hx6
  try clear c10
  try clear c12
  try clear c12b0
  try clear c13
  try clear c13b0
  try clear c14
  try clear c14b0
  try clear hcz10_0
  try clear hcz10_1
  try clear hcz10_2
  try clear hcz10_3
  try clear hcz15_0
  try clear hcz15_1
  try clear hcz15_2
  try clear hcz15_3
  try clear hcz8_0
  try clear hcz8_1
  try clear hcz8_2
  try clear hcz8_3
  try clear hfz10_0
  try clear hfz10_1
  try clear hfz10_2
  try clear hfz10_3
  try clear hfz15_0
  try clear hfz15_1
  try clear hfz15_2
  try clear hfz15_3
  try clear hfz8_0
  try clear hfz8_1
  try clear hfz8_2
  try clear hfz8_3
  try clear hx683_0
  try clear hx683_1
  try clear hx683_2
  try clear p683
  try clear q683
  obtain⟨kq,x23_5,rfl,HA,HJ5,BK680,HB⟩:=hcut
  cases kq with
  |zero=>exact absurd HA.out (by simp[impl_Needed.j0])
  |succ kj5=>
   have H:=HA.out
   clear HA
   simp only[impl_Needed.j0] at H
   by_cases c16:x23_5=true
   ·subst c16
    rw[if_pos rfl] at H
    obtain rfl:=zi H
    go_wp2
    go_ret
    exact⟨_,ze,by first|exact Kd.R_nil _ _ _ _ _|exact Kd.N_nil _ _ _ _ _|exact Kd.V_nil _ _ _ _ _|exact Kd.Q_nil _ _ _ _ _|exact Kd.S_nil _ _ _ _ _,zb⟩
   replace c16:=Bool.eq_false_iff.mpr c16
   subst c16
   rw[if_neg (show¬(false=true) by decide)] at H
   by_cases c17:0≤t682
   case neg=>exact zno H c17
   rw[if_pos c17] at H
   have c17b0:=z1 c17
   clear c17
   by_cases c18:t682<(l0_1.length:Int)
   case neg=>exact zno H c18
   rw[if_pos c18] at H
   have c18b0:=z1 c18
   clear c18
   replace H:=zf H
   obtain⟨t685,A190,H⟩:=H
   try dsimp only at H
   have A19:=zz A190
   clear A190
   obtain⟨y686,hy686⟩:∃y_:List ByteArray,y_=(([t685]:List ByteArray)):=⟨_,rfl⟩
   replace H:((impl_closure.f kj5 l0_0 y686).bind fun t689=>((impl_keysOf.f t689).bind fun t692=>(some t692)))=some r:=by first|(rw[hy686];with_reducible exact H)|(have H2_:=(Option.bind_some _ _).symm.trans H;rw[hy686];with_reducible exact H2_)|(have H2_:=(Option.bind_some _ _).symm.trans H;with_reducible exact H2_)|with_reducible exact H|(rw[hy686];exact H)|exact H
   have Ny686:=zz hy686
   clear hy686
   replace H:=zf H
   obtain⟨t689,A200,H⟩:=H
   try dsimp only at H
   have A20:=zz A200
   clear A200
   replace H:=zf H
   obtain⟨t692,A210,H⟩:=H
   try dsimp only at H
   have A21:=zz A210
   clear A210
   obtain rfl:=zi H
   try go_wp2
   replace BK680:=zz (qK BK680.out)
   replace HB:=zz (qQ HB.out)
   have p684:0≤(t682:Int):=z2
   have q684:t682<(l0_1.length:Int):=z2
   obtain⟨ad684,A684_2,c684_2,e684,hx684_0,hx684_1,hx684_2,hl684_2,hi684_2⟩:=at_T67 HR0_1.out t682 p684 q684
   have hw684_2:=hx684_2
   have hw684_1:=hx684_1
   have hw684_0:=hx684_0
   cases e684
   replace hx684_0:=z3 HB.out hx684_0
   replace hx684_1:=z3 HB.out hx684_1
   replace hx684_2:=z3 HB.out hx684_2
   have HR684_2:=zz hi684_2
   have HC684_2:=zz hl684_2
   clear hi684_2 hl684_2
   replace p684:=eq_true p684
   replace q684:=eq_true q684
   refine start_ (n:=12) (S:=fun w'=>w'.cell? ⟨gb680,0,none⟩=some (.slice A0_0 l0_0.length c0_0)∧w'.cell? ⟨gb680,1,none⟩=some (.slice (some ad684) l0_1.length c0_1)∧w'.cell? ⟨gb680,2,none⟩=some (.slice A0_2 l0_2.length c0_2)∧w'.cell? ⟨gb680,3,none⟩=some (.slice A0_3 l0_3.length c0_3)∧w'.cell? (ad684.add ((t682).toNat*3))=some (.string ((qD l0_1 t682).f0))∧w'.cell? ⟨(ad684.add ((t682).toNat*3)).block,(ad684.add ((t682).toNat*3)).off+1,none⟩=some (.int .i64 ((qD l0_1 t682).f1))∧w'.cell? ⟨(ad684.add ((t682).toNat*3)).block,(ad684.add ((t682).toNat*3)).off+2,none⟩=some (.slice A684_2 ((qD l0_1 t682).f2).length c684_2)) (ds:=[]) (bp 0 12) zk rfl rfl ⟨(qW BK680.out 0).trans rfl,(qW BK680.out 1).trans rfl,(qW BK680.out 2).trans rfl,(qW BK680.out 3).trans rfl,(z3 HB.out hw684_0),(z3 HB.out hw684_1),(z3 HB.out hw684_2)⟩ (fun hHeld=>?_);refine with_tabW impl_Needed.tab6 impl_Needed.bits6 (fun HT_ HW_=>?_)
   generalize wc.drew=w22 at BK680 HB HR684_2 hx684_0 hx684_1 hx684_2 hHeld⊢
   refine zp 0 24 (bp 1 11) ?_
   refine zp 2 26 (bm 12 5) ?_
   refine zp 4 28 (bm 12 21) ?_
   refine zt 1 25 (bm 12 23) ?_
   refine zt 3 27 (bp 5 7) ?_
   refine zp 5 29 (bp 6 6) ?_
   refine zt 6 30 (bp 7 5) ?_
   refine zo 7 31 (bp 8 4) fun K hK=>?_
   refine zh Tryz.func58 #[.agg #[.string ((qD l0_1 t682).f0),.int .i64 ((qD l0_1 t682).f1),.slice A684_2 ((qD l0_1 t682).f2).length c684_2]] ?_
   with_reducible refine(impl_current.calls kj5 ((qD l0_1 t682).f0) ((qD l0_1 t682).f1) _ _ ((qD l0_1 t682).f2) t685 _ ?s1 ?s2 A19.out).mono ?_
   (case s1=>exact zc HR684_2.out)
   (case s2=>exact HC684_2.out)
   rintro e w23 ⟨rfl,hb⟩
   refine⟨_,rfl,?_⟩
   replace BK680:=zz (zJ BK680 hb)
   replace HB:=zz (zv zb hb)
   (try clear hb)
   (try clear hb2)
   (try clear hk)
   (try clear hi)
   refine hK.out _ _ ⟨(qW BK680.out 0).trans rfl,(qW BK680.out 1).trans rfl,(qW BK680.out 2).trans rfl,(qW BK680.out 3).trans rfl,(z3 HB.out hw684_0),(z3 HB.out hw684_1),(z3 HB.out hw684_2)⟩ (fun hHeld=>?_)
   clear hK K
   refine zn 31 ?_
   refine zo 8 32 (bp 9 3) fun K hK=>?_
   refine Kd.R_lit_step Kd.string _ 9 ?hg (N:=32) ?hd (xs:=([t685]:List ByteArray)) (inner:=[.string t685]) (ok:=fun _=>True) (okp:=fun _=>True) ?hr ?hp (fun _ hk=>hk) trivial (Below.refl _ _) (Nat.le_refl _) (by simp) ?_;(case hd=>rfl);(case hg=>rfl);(case hr=>first|(go_simp;done)|(go_simp;rfl));(case hp=>exact(Reps.one (show Kd.M Kd.string _ _ _ t685 [.string t685] from rfl) (Reps.none _ _)))
   intro v687 w24 ho25 hb hg_ hnew_
   clear hg_ hnew_
   (first|rw[←Ny686.out] at ho25|(simp only[Int.reduceToNat] at ho25;rw[←Ny686.out] at ho25))
   have HO688:=zz (Kd.vH ho25 (qG zb))
   replace BK680:=zz (zJ BK680 hb)
   replace HB:=zz (zv zb hb)
   clear hb ho25
   obtain⟨Ao26,co26,eo26⟩:=Kd.vG HO688.out
   (first|subst eo26|(injection eo26 with f1_ f2_ f3_;have f4_:=f1_.symm;have f5_:=f3_.symm;clear f1_ f2_ f3_;subst f4_;subst f5_))
   refine hK.out _ _ ⟨(qW BK680.out 0).trans rfl,(qW BK680.out 1).trans rfl,(qW BK680.out 2).trans rfl,(qW BK680.out 3).trans rfl,(z3 HB.out hw684_0),(z3 HB.out hw684_1),(z3 HB.out hw684_2)⟩ (fun hHeld=>?_)
   clear hK K
   refine zn 32 ?_
   refine zo 9 33 (bp 10 2) fun K hK=>?_
   refine zh Tryz.func57 #[.slice A0_0 l0_0.length c0_0,.slice Ao26 y686.length co26] ?_
   with_reducible refine(impl_closure.calls kj5 _ _ l0_0 _ _ y686 t689 _ ?s1 ?s2 ?s3 ?s4 A20.out).mono ?_
   (case s1=>exact zc HR0_0.out)
   (case s2=>exact HC0_0.out)
   (case s3=>repeat(first|exact(Kd.qS HO688.out).2.2|(with_reducible refine Kd.C_alloc ?_ _)|(with_reducible refine Kd.C_drewN ?_ _)|(with_reducible refine Kd.C_drew ?_)))
   (case s4=>exact(Kd.qS HO688.out).2.1)
   rintro e w27 ⟨b690,rfl,hm0,_,hb⟩
   refine⟨_,rfl,?_⟩
   have HO691:=zz hm0
   replace HO688:=zz (Kd.R_below (zR HO688.out) hb)
   replace BK680:=zz (zJ BK680 hb)
   replace HB:=zz (zv zb hb)
   (try clear hb)
   (try clear hb2)
   (try clear hk)
   (try clear hi)
   (try clear ho0)
   refine hK.out _ _ ⟨(qW BK680.out 0).trans rfl,(qW BK680.out 1).trans rfl,(qW BK680.out 2).trans rfl,(qW BK680.out 3).trans rfl,(z3 HB.out hw684_0),(z3 HB.out hw684_1),(z3 HB.out hw684_2)⟩ (fun hHeld=>?_)
   clear hK K
   refine zn 33 ?_
   refine zo 10 34 (bp 11 1) fun K hK=>?_
   refine zh Tryz.func56 #[.map (some b690)] ?_
   with_reducible refine(impl_keysOf.calls _ t689 t692 _ (MapB.zm HO691.out) A21.out).mono ?_
   rintro e w29 ⟨v693,rfl,ho0,hb⟩
   refine⟨_,rfl,?_⟩
   have HO694:=zz (Kd.vH (Kd.R_new' ho0 (Kd.R_lt (zR HO688.out))) (qG zb))
   replace HO688:=zz (Kd.R_elder' (zR HO688.out) (Kd.R_base ho0) hb)
   replace BK680:=zz (zJ BK680 hb)
   replace HB:=zz (zv zb hb)
   (try clear hb)
   (try clear hb2)
   (try clear hk)
   (try clear hi)
   (try clear ho0)
   refine hK.out _ _ ⟨(qW BK680.out 0).trans rfl,(qW BK680.out 1).trans rfl,(qW BK680.out 2).trans rfl,(qW BK680.out 3).trans rfl,(z3 HB.out hw684_0),(z3 HB.out hw684_1),(z3 HB.out hw684_2)⟩ (fun hHeld=>?_)
   clear hK K
   refine zn 34 ?_
   refine zp 11 4 (bp 12 0) ?_
   refine done_ (done_of HT_.out zk) ?_
   try go_wp2
   go_ret
   exact⟨_,ze,by(with_reducible repeat(first|apply Kd.qU|apply Kd.qT|apply Kd.qX));exact Kd.vF HO694.out (fun _ hk=>trivial),zb⟩
def spec_l13Find.l0:Nat→List (S67)→ByteArray→Int→Option (Int)
 |0,_,_,_=>none
 |k+1,x0,x1,x5=>if x5<(x0.length:Int) then(if 0≤x5 then(if((qD x0 x5).f0).toList=x1.toList then(some x5) else(spec_l13Find.l0 k x0 x1 (wrap64 (x5+1)))) else(none)) else(some (-1))
def spec_l13Find.f(k:Nat)(l0:List (S67))(a1:ByteArray):Option (Int):=spec_l13Find.l0 k l0 a1 0
theorem spec_l13Find.calls(k:Nat)(A0:Option Addr)(c0:Nat)(l0:List (S67))(a1:ByteArray)(r:Int)(w:World)(hr0:Kd.C k67 w A0 l0.length l0)(hc0:l0.length≤c0)(h:spec_l13Find.f k l0 a1=some r):
 Calls Tryz.prog 52 #[.slice A0 l0.length c0,.string a1] w fun e w'=>e= .returned (.int .i64 r)∧qE w w':=by
 have HR0:=zz hr0
 have HC0:=zz hc0
 clear hr0 hc0
 unfold spec_l13Find.f at h
 have H:=h
 clear h
 have H':=zz H
 clear H
 go_enter Tryz.func52,Tryz.ntmps52
 go_wp2
 go_loopg[5] k (fun kq v5 w'=>∃(x5_1:Int),v5= .int .i64 x5_1∧qB (spec_l13Find.l0 kq l0 a1 x5_1=some r)∧qB (kq≤k)∧qE w w')
 case atStart=>exact⟨(0),zr,H',⟨Nat.le_refl _⟩,by repeat(first|exact qE.refl _|apply qE.step)⟩
 case round=>
  clear H'
  try clear p2
  obtain⟨x5_1,rfl,HA,HK1,⟨m1,rfl⟩⟩:=hrel
  cases gk with
  |zero=>exact absurd HA.out (by simp[spec_l13Find.l0])
  |succ k1=>
   have H:=HA.out
   clear HA
   simp only[spec_l13Find.l0] at H
   by_cases c3:x5_1<(l0.length:Int)
   case neg=>
    rw[if_neg c3] at H
    have c3b0:=z0 c3
    clear c3
    obtain rfl:=zi H
    go_wp2
    go_ret
    exact⟨zr,by repeat(first|exact qE.refl _|apply qE.step)⟩
   rw[if_pos c3] at H
   have c3b0:=z1 c3
   clear c3
   by_cases c4:0≤x5_1
   case neg=>exact zno H c4
   rw[if_pos c4] at H
   have c4b0:=z1 c4
   clear c4
   by_cases c5:((qD l0 x5_1).f0).toList=a1.toList
   ·rw[if_pos c5] at H
    obtain⟨c5b0,c5b1⟩:=zq c5
    clear c5
    obtain rfl:=zi H
    have p481:0≤(x5_1:Int):=z2
    have q481:x5_1<(l0.length:Int):=z2
    obtain⟨ad481,A481_2,c481_2,e481,hx481_0,hx481_1,hx481_2,hl481_2,hi481_2⟩:=at_T67 HR0.out x5_1 p481 q481
    cases e481
    have HR481_2:=zz hi481_2
    have HC481_2:=zz hl481_2
    clear hi481_2 hl481_2
    replace p481:=eq_true p481
    replace q481:=eq_true q481
    go_wp2
    go_ret
    exact⟨zr,by repeat(first|exact qE.refl _|apply qE.step)⟩
   rw[if_neg c5] at H
   obtain⟨c5b0,c5b1⟩:=zw c5
   have H':=zz H
   clear H
   have p481:0≤(x5_1:Int):=z2
   have q481:x5_1<(l0.length:Int):=z2
   obtain⟨ad481,A481_2,c481_2,e481,hx481_0,hx481_1,hx481_2,hl481_2,hi481_2⟩:=at_T67 HR0.out x5_1 p481 q481
   cases e481
   have HR481_2:=zz hi481_2
   have HC481_2:=zz hl481_2
   clear hi481_2 hl481_2
   replace p481:=eq_true p481
   replace q481:=eq_true q481
   go_wp2
   go_roundg k1
   case measure=>have:=HK1.out;omega
   case rel=>exact⟨(wrap64 (x5_1+1)),zr,H',⟨by have:=HK1.out;omega⟩,by repeat(first|exact qE.refl _|apply qE.step)⟩
def spec_l3Has.l0:Nat→List ByteArray→ByteArray→Int→Option (Bool)
 |0,_,_,_=>none
 |k+1,x0,x1,x5=>if x5<(x0.length:Int) then(if 0≤x5 then(if(rdOf ByteArray.empty x0 x5).toList=x1.toList then(some true) else(spec_l3Has.l0 k x0 x1 (wrap64 (x5+1)))) else(none)) else(some false)
def spec_l3Has.f(k:Nat)(l0:List ByteArray)(a1:ByteArray):Option (Bool):=spec_l3Has.l0 k l0 a1 0
theorem spec_l3Has.calls(k:Nat)(A0:Option Addr)(c0:Nat)(l0:List ByteArray)(a1:ByteArray)(r:Bool)(w:World)(hr0:Kd.C Kd.string w A0 l0.length l0)(hc0:l0.length≤c0)(h:spec_l3Has.f k l0 a1=some r):
 Calls Tryz.prog 100 #[.slice A0 l0.length c0,.string a1] w fun e w'=>e= .returned (.bool r)∧qE w w':=by
 have HR0:=zz hr0
 have HC0:=zz hc0
 clear hr0 hc0
 unfold spec_l3Has.f at h
 have H:=h
 clear h
 have H':=zz H
 clear H
 go_enter Tryz.func100,Tryz.ntmps100
 go_wp2
 go_loopg[5] k (fun kq v5 w'=>∃(x5_1:Int),v5= .int .i64 x5_1∧qB (spec_l3Has.l0 kq l0 a1 x5_1=some r)∧qB (kq≤k)∧qE w w')
 case atStart=>exact⟨(0),zr,H',⟨Nat.le_refl _⟩,by repeat(first|exact qE.refl _|apply qE.step)⟩
 case round=>
  clear H'
  try clear c1
  try clear p2
  obtain⟨x5_1,rfl,HA,HK1,⟨m1,rfl⟩⟩:=hrel
  cases gk with
  |zero=>exact absurd HA.out (by simp[spec_l3Has.l0])
  |succ k1=>
   have H:=HA.out
   clear HA
   simp only[spec_l3Has.l0] at H
   by_cases c3:x5_1<(l0.length:Int)
   case neg=>
    rw[if_neg c3] at H
    have c3b0:=z0 c3
    clear c3
    obtain rfl:=zi H
    go_wp2
    go_ret
    exact⟨zr,by repeat(first|exact qE.refl _|apply qE.step)⟩
   rw[if_pos c3] at H
   have c3b0:=z1 c3
   clear c3
   by_cases c4:0≤x5_1
   case neg=>exact zno H c4
   rw[if_pos c4] at H
   have c4b0:=z1 c4
   clear c4
   by_cases c5:(rdOf ByteArray.empty l0 x5_1).toList=a1.toList
   ·rw[if_pos c5] at H
    obtain⟨c5b0,c5b1⟩:=zq c5
    clear c5
    obtain rfl:=zi H
    have p482:0≤(x5_1:Int):=z2
    have q482:x5_1<(l0.length:Int):=z2
    obtain⟨ad482,e482,hx482_0⟩:=Kd.vC HR0.out x5_1 p482 q482
    cases e482
    replace p482:=eq_true p482
    replace q482:=eq_true q482
    go_wp2
    go_ret
    exact⟨zr,by repeat(first|exact qE.refl _|apply qE.step)⟩
   rw[if_neg c5] at H
   obtain⟨c5b0,c5b1⟩:=zw c5
   have H':=zz H
   clear H
   have p482:0≤(x5_1:Int):=z2
   have q482:x5_1<(l0.length:Int):=z2
   obtain⟨ad482,e482,hx482_0⟩:=Kd.vC HR0.out x5_1 p482 q482
   cases e482
   replace p482:=eq_true p482
   replace q482:=eq_true q482
   go_wp2
   go_roundg k1
   case measure=>have:=HK1.out;omega
   case rel=>exact⟨(wrap64 (x5_1+1)),zr,H',⟨by have:=HK1.out;omega⟩,by repeat(first|exact qE.refl _|apply qE.step)⟩
end Go.Proofs.YtcekmnclmldmmaaGreatDoor.Q
