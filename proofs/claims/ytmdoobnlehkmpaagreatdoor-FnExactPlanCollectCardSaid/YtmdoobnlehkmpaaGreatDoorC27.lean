import Derived.Test.YtmdoobnlehkmpaaGreatDoorC18
import Derived.Deep.Upon
namespace Go.Proofs.YtmdoobnlehkmpaaGreatDoor.Q
open Go.RowKit W1 W2 W3
attribute [local go_sem] max2_int min2_int max_two min_two max_three min_three max_four min_four
attribute [local go_sem high] bl_leq bl_gtr bl_geq
set_option maxHeartbeats 8000000
set_option maxRecDepth 100000
namespace MapB
open Go.WideMaps Go.Maps
def of:List ByteArray->DataW Unit
 |[]=> .map []
 |s::ds=>(of ds).put (.string s.data.toList) (.lit (.bool true))
theorem isMap:∀ds,IsMap (of ds)
 |[]=>isMap_empty
 |_::ds=>(isMap ds).put _ _
theorem at_(u:ByteArray):∀ds,(of ds).atKey (.string u.data.toList) (.lit (.bool false))= .lit (.bool (MapSet.has u ds))
 |[]=>rfl
 |s::ds=>by
  by_cases h:u.data.toList=s.data.toList
  ·have e:MapSet.has u (s::ds)=true:=by simp[MapSet.has,h]
   rw[of];rw[h,atKey_put_same (k:= .string s.data.toList) (isMap ds) trivial,e]
  ·have hne:(Lit.string u.data.toList)≠ .string s.data.toList:=fun e=>h (by injection e);have e:MapSet.has u (s::ds)=MapSet.has u ds:=by rw[MapSet.has,List.any_cons,decide_eq_false h];rfl
   rw[of,atKey_put_other hne,at_ u ds,e]
theorem has_dd(x:List UInt8):∀ds,Maps.has (of ds) (.string x)=true↔ ∃s ∈ ds,s.data.toList=x
 |[]=>by simp[of,has_eq]
 |s::ds=>by
  have ih:=has_dd x ds;unfold of;by_cases h:x=s.data.toList
  ·subst h;rw[has_put_same (isMap ds) (show WideAt.IsKeyLit (.string s.data.toList) from trivial)];exact⟨fun _=>⟨s,List.mem_cons_self ..,rfl⟩,fun _=>rfl⟩
  ·have hne:(Lit.string x)≠ .string s.data.toList:=fun e=>h (by injection e);rw[has_put_other hne,ih];constructor
   ·rintro⟨t,ht,e⟩;exact⟨t,List.mem_cons_of_mem _ ht,e⟩
   ·rintro⟨t,ht,e⟩;rcases List.mem_cons.1 ht with rfl|ht
    ·exact absurd e.symm h
    ·exact⟨t,ht,e⟩
theorem zero(w:World):(zeroValue 4).run Tryz.prog w= .ok (.bool false) w:=by kernel_rfl
def MS(w:World)(b:Nat)(ds:List ByteArray):Prop:=w.ownsMap Tryz.prog 9 (plainElem (H:=Unit) Tryz.prog 4) b ds.length (of ds)
theorem MS.below{w W:World}{b:Nat}{ds:List ByteArray}(h:MS w b ds)(hb:Below w.heap.size w W):MS W b ds:=
 World.ownsMap.kept (row:=none) h ⟨hb.os,hb.tape,hb.output,hb.size,fun k hk _=>hb.block k hk⟩ (by simp)
theorem MS.drewN{w:World}{b:Nat}{ds:List ByteArray}(h:MS w b ds)(m:Nat):MS (w.drewN m) b ds:=h.below (qZ (Below.refl _ _) m)
theorem MS.drew{w:World}{b:Nat}{ds:List ByteArray}(h:MS w b ds):MS w.drew b ds:=h
theorem MS.alloc{w:World}{b:Nat}{ds:List ByteArray}(h:MS w b ds)(o:Obj):MS (w.alloc o) b ds:=h.below (qY (Below.refl _ _) o)
theorem MS.kept{w w1:World}{b:Nat}{ds:List ByteArray}{row:Option Nat}(h:MS w b ds)(hg:w.grownBy w1 row)(hne:some b≠row):MS w1 b ds:=World.ownsMap.kept h hg hne
theorem MS.lt{w:World}{b:Nat}{ds:List ByteArray}(h:MS w b ds):b<w.heap.size:=World.ownsMap.lt h
theorem zm{P Q:Prop}(q:Q)(f:Q->P:=by intro q;(with_reducible repeat(first|apply MapB.MS.alloc|apply MapB.MS.drewN|apply MapB.MS.drew));exact q):P:=f q
theorem MS.ne{α:Type}{d:Kd α}{e base:Nat}{ok:Nat->Prop}{w:World}{b:Nat}{v:Value}{xs:List α}(h:d.R e w base ok v xs)(hok:∀k,ok k->k≠b):v.ownBlock≠some b:=
 fun e=>hok b (h.1 b e) rfl
theorem plain{P:Program}{e:TypeId}(he:P.underlying e=some .bool){v:Value}{z:DataW Unit×List MemPlace}(h:plainElem P e v=some z):∃c:Bool,v= .bool c/\z=(.lit (.bool c),[]):=by
 unfold plainElem at h;rw[he] at h;cases v<;>simp at h;exact⟨_,rfl,h.symm⟩
def put(ds:List ByteArray)(s:ByteArray):Option (List ByteArray):=if s.size<=140737488355328/\ds.length<4194304 then some (s::ds) else none
def get(ds:List ByteArray)(s:ByteArray):Option Bool:=if s.size<=140737488355328 then some (MapSet.has s ds) else none
section
variable {ops : Array Oper} {rest : List Oper} {o : Oper} {a : Act} {Q : Exit -> Act -> World -> Prop} {W : World} {b : Nat} {ds : List ByteArray}
theorem make_event(hgd:o.guard=none){N:Tmp}(hd:o.dst=some N){t:TypeId}(ho:o.op= .makeMap t none)
 (h:∀g w1,W.heap.size<=g->MS w1 g []->Below W.heap.size W w1->wpList Tryz.prog ops Q rest (a.put o.dst (.map (some g))) w1):wpList Tryz.prog ops Q (o::rest) a W:=by
 refine Kd.event_run hgd (w1:=W.alloc (.map #[] 0)) (v:= .map (some W.heap.size)) ?_ (h _ _ (Nat.le_refl _) (World.ownsMap_made _ _ _ _) (qY (Below.refl _ _) _));unfold execOp;simp[ho,Instr.makeMap]
theorem put_event(hgd:o.guard=none){m k:Tmp}(ho:o.op= .mapUpdate 166 (.tmp m) (.tmp k) (.const (.bool true))){s:ByteArray}(hm:a.eval (.tmp m)= .map (some b))(hk:a.eval (.tmp k)= .string s)
 (hM:MS W b ds) {ds':List ByteArray} (hp:put ds s=some ds')
 (h:∀w1,MS w1 b ds'->W.grownBy w1 (some b)->wpList Tryz.prog ops Q rest (a.put o.dst undef) w1):wpList Tryz.prog ops Q (o::rest) a W:=by
 unfold put at hp;split at hp
 ·rename_i hc
  obtain rfl:=Option.some.inj hp;exact wpList_mapUpdate_own W hgd (.tmp m) (.tmp k) (.const (.bool true)) 166 ho 9 4 MapSet.keyed Tryz.underlying166 _ b ds.length (of ds) hm hM (by simp only[maxLen];omega) _ _ _ hk rfl (MapSet.key s (Nat.le_trans hc.1 yd_)) (.lit (.bool true)) [] (plainElem_bool Tryz.underlying4 _) (fun w1 h1 h2=>h w1 h1 h2)
 ·exact absurd hp (by simp)
theorem get_event(hgd:o.guard=none){m k:Tmp}(ho:o.op= .lookup 166 (.tmp m) (.tmp k) false){s:ByteArray}(hm:a.eval (.tmp m)= .map (some b))(hk:a.eval (.tmp k)= .string s)
 (hM:MS W b ds) {c:Bool} (hp:get ds s=some c) (h:wpList Tryz.prog ops Q rest (a.put o.dst (.bool c)) W):wpList Tryz.prog ops Q (o::rest) a W:=by
 unfold get at hp;split at hp
 ·rename_i hc
  obtain⟨v,ps,hrun,hv⟩:=World.ownsMap.lookup hM MapSet.keyed Tryz.underlying166 (zero W) (plainElem_bool Tryz.underlying4 false) (MapSet.key s (Nat.le_trans hc yd_));obtain⟨c',rfl,e⟩:=plain Tryz.underlying4 hv;rw[at_] at e;simp only[Prod.mk.injEq,DataW.lit.injEq,Lit.bool.injEq] at e;obtain rfl:=Option.some.inj hp;rw[<-e.1] at hrun;refine Kd.event_run hgd ?_ h;unfold execOp;simp only[ho,hm,hk,Sem.run_bind,hrun,Result.andThen_ok];rfl
 ·exact absurd hp (by simp)
end
end MapB
def impl_closure.l0:Nat->List S103->List ByteArray->List ByteArray->Option (List ByteArray)
 |0,_,_,_=>none
 |k+1,l,s,t=>if(t.length:Int)>0 then(if t.length<8796093022208 then((impl_itemOf.f k l (rdOf ByteArray.empty t (wrap64 ((t.length:Int) - 1)))).bind fun i=>if i<0 then impl_closure.l0 k l s (t.take (wrap64 ((t.length:Int) - 1)).toNat) else((MapB.get s (rdOf ByteArray.empty t (wrap64 ((t.length:Int) - 1)))).bind fun c=>if c=true then impl_closure.l0 k l s (t.take (wrap64 ((t.length:Int) - 1)).toNat) else((MapB.put s (rdOf ByteArray.empty t (wrap64 ((t.length:Int) - 1)))).bind fun s'=>if i<(l.length:Int)/\t.length+((qC l i).f2).length<8796093022208 then impl_closure.l0 k l s' (t.take (wrap64 ((t.length:Int) - 1)).toNat++(qC l i).f2) else none))) else none) else some s
def impl_closure.f(k:Nat)(l0:List S103)(l1:List ByteArray):Option (List ByteArray):=if l1.length<8796093022208 then impl_closure.l0 k l0 [] l1 else none
theorem impl_closure.calls(k:Nat)(A0:Option Addr)(c0:Nat)(l0:List S103)(A1:Option Addr)(c1:Nat)(l1:List ByteArray)(r:List ByteArray)(w:World)(aD:Kd.C k103 w A0 l0.length l0)(aE:l0.length<=c0)(aG:Kd.C Kd.string w A1 l1.length l1)(aH:l1.length<=c1)(h:impl_closure.f k l0 l1=some r):
 Calls Tryz.prog 128 #[.slice A0 l0.length c0,.slice A1 l1.length c1] w fun e w'=>∃b:Nat,e= .returned (.map (some b))/\MapB.MS w' b r/\w.heap.size<=b/\Below w.heap.size w w':=by
 have aj:=zz aD;have aw:=zz aE;have aU:=zz aG;have ba:=zz aH;clear aD aE aG aH;have HB:=yB w;unfold impl_closure.f at h;by_cases c3:l1.length<8796093022208
 case neg=>exact zno h c3
 rw[if_pos c3] at h;have LM:=zz c3;have H':=zz h;clear h c3;go_enter Tryz.func128,Tryz.ntmps128
 go_wp2_with(first
  |((with_reducible refine gate_dst (N:=9) rfl ?_);refine MapB.make_event ?hg (N:=9) ?hd (t:=166) ?ho ?_;(case hd=>rfl);(case hg=>rfl);(case ho=>rfl);intro bm wm hbm hms hb;have HBM:=zz (Nat.le_trans (qF zb) hbm);have HM:=zz hms;replace HB:=zz (zv zb hb);clear hb hbm hms)
  |(refine zN 10 ?_;refine Kd.R_lit Kd.string w.heap.size 9 ?hg (N:=10) ?hd (xs:=([]:List ByteArray)) (inner:=[]) (ok:=fun k_=>k_≠bm) (okp:=fun _=>False) ?hr ?hp (fun _ hk=>hk.elim) (fun e_=>Nat.lt_irrefl _ (Nat.lt_of_lt_of_le (MapB.MS.lt (b:=bm) (ds:=[]) (MapB.zm HM.out)) (Nat.le_of_eq e_))) zb (qF zb) (by simp) ?_;(case hd=>rfl);(case hg=>rfl);(case hr=>first|(go_simp;done)|(go_simp;rfl));(case hp=>exact(Reps.none _ _));intro aM w6 aI hb hg_ hnew_;clear hnew_;have HO:=zz aI;replace HM:=zz (World.ownsMap.kept HM.out hg_ (by simp));replace HB:=zz hb;clear hb hg_ aI)
  |((with_reducible refine qU (b:= .append) (xs:= #[.tmp 10,.tmp 11]) rfl ?_);at_builtin;refine Kd.R_append_rows Kd.string (w0:=w) w.heap.size rfl (.tmp 10) (.tmp 11) 101 9 (.string ⟨#[]⟩) 16 rfl Tryz.underlying101 info9 rfl yd_ yo_ aM [] l1 _ _ _ (fun k_=>k_≠bm) (fun _=>False) rfl rfl ?aO ?aR (fun _ _ h=>h) (fun _ h=>h.elim) ?aF ?aB ?aS ?aL ?_;(case aR=>exact zc aU.out);(case aB=>exact zb);(case aF=>exact(fun k_ hk e_=>Nat.lt_irrefl _ (Nat.lt_of_lt_of_le (MapB.MS.lt (b:=bm) (ds:=[]) (MapB.zm HM.out)) (Nat.le_trans hk (Nat.le_of_eq e_)))));(case aO=>exact(zR HO.out));(case aS=>exact(qF zb));(case aL=>have:=LM.out;simp only[List.length_nil];omega);intro a8 w8 ho hb hg hat;rw[List.nil_append] at ho;replace HM:=zz (MapB.MS.kept (b:=bm) (ds:=[]) (MapB.zm HM.out) hg (Ne.symm (MapB.MS.ne HO.out (fun _ h=>h))));replace HB:=zz (hb);replace HO:=zz (ho);clear ho hb hg hat))
 go_loopg[6] k (fun kq v6 w'=>∃(s t:List ByteArray),qA (impl_closure.l0 kq l0 s t=some r)/\qA (kq<=k)/\qA (MapB.MS w' bm s)/\qA (Kd.R Kd.string 9 w' w.heap.size (fun k_=>k_≠bm) v6 t)/\qA (Below w.heap.size w w'))
 case atStart=>exact⟨[],l1,H',⟨Nat.le_refl _⟩,⟨MapB.zm HM.out⟩,⟨zR HO.out⟩,⟨zb⟩⟩
 case round=>
  clear H' HM HO HB;obtain⟨s,t,HA,ab,HM,HO,HB⟩:=hrel;cases gk with
  |zero=>exact absurd HA.out (by simp[impl_closure.l0])
  |succ k1=>
   have H:=HA.out;clear HA;simp only[impl_closure.l0] at H;refine yCn H ?_ ?_<;>clear H<;>intro c9 H
   ·have aN:=zgtn c9;have aP:decide (0<t.length)=false:=z0 yo_;clear c9;obtain rfl:=zi H;obtain⟨Ao,co,eo⟩:=Kd.vA HO.out;subst eo;go_wp2;go_ret;exact⟨bm,rfl,MapB.zm HM.out,HBM.out,zb⟩
   have aN:=zgt c9;have aP:decide (0<t.length)=true:=z1 yo_;replace H:=yA H;obtain⟨aV,H⟩:=H;obtain⟨ji,hji⟩:∃j_:Int,(wrap64 ((t.length:Int) - 1))=j_:=⟨_,rfl⟩
   simp only[hji] at H;have hjiw:(IntKind.i64.wrap ((t.length:Int) - 1))=ji:=(i64_w _).trans hji;have HJ:=zz (show ji=(t.length:Int) - 1 from by rw[<-hji];simp[wrap64,IntKind.wrap];omega);have aa:0<=ji:=by rw[HJ.out];omega
   have af:ji<(t.length:Int):=by rw[HJ.out];omega
   have ak:ji<=(t.length:Int):=by omega
   clear c9 aV;obtain⟨Ao,co,eo⟩:=Kd.vA HO.out;subst eo;obtain⟨al,aQ,a2⟩:=Kd.qX (Kd.qM HO.out).2.2 ji aa af;cases aQ;obtain⟨i0,aJ,_,_,_⟩:=info_parts info9;have hcut:=cut_to (P:=Tryz.prog) 101 9 .i64 Tryz.underlying101 aJ (some al) t.length co ji aa ak (Kd.qM HO.out).2.1;have hr:=Kd.R_take (m:=ji.toNat) HO.out yo_;obtain⟨t',ht'⟩:∃y,y=t.take ji.toNat:=⟨_,rfl⟩
   rw[<-ht'] at hr H;have hy:t'.length=ji.toNat:=by rw[ht',List.length_take];omega
   rw[<-hy] at hr hcut;have HT:=zz (show t'.length+1=t.length from by have:=HJ.out;omega);clear aJ HO ht' hy;have HO:=zz hr;clear hr;have a3:=z1 aa;have a4:=z1 af;have a5:=z1 ak;replace aa:=eq_true aa;replace af:=eq_true af;replace ak:=eq_true ak;replace H:=yf H;obtain⟨i,ax,H⟩:=H;refine yC H ?_ ?_<;>clear H<;>intro ai H
   ·have aA:=z1 ai;clear ai;have H':=zz H;clear H;go_wp2_with(first|((with_reducible refine gate_callee (f:=81) rfl ?_);refine goesL_ (some 29) rfl rfl Tryz.func81 zk rfl #[.slice A0 l0.length c0,.string (rdOf ByteArray.empty t ji)] rfl (by(try simp only[List.map_toArray,List.map_cons,List.map_nil]);first|done|(simp only[hji];rfl)|rfl) ?_;(with_reducible refine(impl_itemOf.calls k1 _ _ l0 (rdOf ByteArray.empty t ji) i _ ?s1 ?s2 ax.out).mono ?_);(case s1=>exact zc aj.out);(case s2=>exact aw.out);rintro e w9 ⟨rfl,hb⟩;refine⟨_,rfl,?_⟩;replace HM:=zz (MapB.MS.below (MapB.zm HM.out) hb);replace HO:=zz (Kd.R_below (zR HO.out) hb);replace HB:=zz (zv zb hb);clear hb))
    go_roundg k1
    case measure=>exact yM1 ab
    case rel=>exact⟨s,t',H',⟨yM1 ab⟩,⟨MapB.zm HM.out⟩,⟨zR HO.out⟩,⟨zb⟩⟩
   have aA:=z0 ai;have HI:=zz ai;clear ai;replace H:=yf H;obtain⟨c,aK,H⟩:=H;by_cases am:c=true
   ·subst am;rw[if_pos rfl] at H;have H':=zz H;clear H;go_wp2_with(first|((with_reducible refine gate_callee (f:=81) rfl ?_);refine goesL_ (some 29) rfl rfl Tryz.func81 zk rfl #[.slice A0 l0.length c0,.string (rdOf ByteArray.empty t ji)] rfl (by(try simp only[List.map_toArray,List.map_cons,List.map_nil]);first|done|(simp only[hji];rfl)|rfl) ?_;(with_reducible refine(impl_itemOf.calls k1 _ _ l0 (rdOf ByteArray.empty t ji) i _ ?s1 ?s2 ax.out).mono ?_);(case s1=>exact zc aj.out);(case s2=>exact aw.out);rintro e w9 ⟨rfl,hb⟩;refine⟨_,rfl,?_⟩;replace HM:=zz (MapB.MS.below (MapB.zm HM.out) hb);replace HO:=zz (Kd.R_below (zR HO.out) hb);replace HB:=zz (zv zb hb);clear hb)|((with_reducible refine MapSet.gate_get (t:=166) (m:=33) (k:=34) rfl ?_);(try(refine gate_guard (by rfl) ?_;dsimp only));refine MapB.get_event rfl rfl rfl rfl (MapB.zm HM.out) aK.out ?_))
    go_roundg k1
    case measure=>exact yM1 ab
    case rel=>exact⟨s,t',H',⟨yM1 ab⟩,⟨MapB.zm HM.out⟩,⟨zR HO.out⟩,⟨zb⟩⟩
   replace am:=Bool.eq_false_iff.mpr am;subst am;rw[if_neg (show¬(false=true) by decide)] at H;replace H:=zf H;obtain⟨s',ay,H⟩:=H;replace ay:=zz ay;replace H:=yA H;obtain⟨az,H⟩:=H;have LM:=zz az;have ag:0<=i:=by have:=HI.out;omega
   have ah:i<(l0.length:Int):=az.1;have a6:=z1 ag;have a7:=z1 ah;clear az;have H':=zz H;clear H;obtain⟨aC,aW,aX,aY,aZ,aT,an,ao,ac,ap,ar,ad,ae,au,av⟩:=at_T103 aj.out i ag ah;cases aT;have a0:=zz ac;have a1:=zz ae;have bb:=zz ad;clear an ao ac ap ar ad ae au av;replace ag:=eq_true ag;replace ah:=eq_true ah;go_wp2_with(first|((with_reducible refine gate_callee (f:=81) rfl ?_);refine goesL_ (some 29) rfl rfl Tryz.func81 zk rfl #[.slice (some aC) l0.length c0,.string (rdOf ByteArray.empty t ji)] rfl (by(try simp only[List.map_toArray,List.map_cons,List.map_nil]);first|done|(simp only[hji];rfl)|rfl) ?_;(with_reducible refine(impl_itemOf.calls k1 _ _ l0 (rdOf ByteArray.empty t ji) i _ ?s1 ?s2 ax.out).mono ?_);(case s1=>exact zc aj.out);(case s2=>exact aw.out);rintro e w9 ⟨rfl,hb⟩;refine⟨_,rfl,?_⟩;replace HM:=zz (MapB.MS.below (MapB.zm HM.out) hb);replace HO:=zz (Kd.R_below (zR HO.out) hb);replace HB:=zz (zv zb hb);clear hb)|((with_reducible refine MapSet.gate_get (t:=166) (m:=33) (k:=34) rfl ?_);(try(refine gate_guard (by rfl) ?_;dsimp only));refine MapB.get_event rfl rfl rfl rfl (MapB.zm HM.out) aK.out ?_)|((with_reducible refine MapSet.gate_put (t:=166) (m:=37) (k:=38) rfl ?_);refine MapB.put_event rfl rfl rfl rfl (MapB.zm HM.out) ay.out ?_;intro wp hms hg;replace HO:=zz (Kd.R_grown (ok:=fun k_=>k_≠bm) (zR HO.out) hg (fun k_ (hk:k_≠bm) e=>hk (Option.some.inj e)));replace HB:=zz (MapSet.grown zb hg HBM.out);replace HM:=zz hms;clear hms hg;have bc:=z3 HB.out a0.out)|((with_reducible refine qU (b:= .append) (xs:= #[.tmp 39,.tmp 44]) rfl ?_);at_builtin;refine Kd.R_append_rows Kd.string (w0:=w) w.heap.size rfl (.tmp 39) (.tmp 44) 101 9 (.string ⟨#[]⟩) 16 rfl Tryz.underlying101 info9 rfl yd_ yo_ (.slice (some al) t'.length co) t' ((qC l0 i).f2) _ _ _ (fun k_=>k_≠bm) (fun _=>False) rfl rfl ?aO ?aR (fun _ _ h=>h) (fun _ h=>h.elim) ?aF ?aB ?aS ?aL ?_;(case aR=>exact zc a1.out);(case aB=>exact zb);(case aF=>exact(fun k_ hk e_=>Nat.lt_irrefl _ (Nat.lt_of_lt_of_le (MapB.MS.lt (b:=bm) (ds:=s') (MapB.zm HM.out)) (Nat.le_trans hk (Nat.le_of_eq e_)))));(case aO=>exact(zR HO.out));(case aS=>exact(qF zb));(case aL=>have h1:=LM.out;have h2:=HT.out;omega);intro a9 bd ho hb hg hat;replace HM:=zz (MapB.MS.kept (b:=bm) (ds:=s') (MapB.zm HM.out) hg (Ne.symm (MapB.MS.ne HO.out (fun _ h=>h))));replace HB:=zz (hb);replace HO:=zz (ho);clear ho hb hg hat))
   go_roundg k1
   case measure=>exact yM1 ab
   case rel=>exact⟨s',t'++(qC l0 i).f2,H',⟨yM1 ab⟩,⟨MapB.zm HM.out⟩,⟨zR HO.out⟩,⟨zb⟩⟩
def impl_cutIn.f(k:Nat)(l0:List S103)(l1:List ByteArray)(p:ByteArray):Option Bool:=(impl_closure.f k l0 l1).bind fun s=>MapB.get s p
section
variable {ops : Array Oper} {o : Oper} {a : Act} {K : Act -> World -> Prop} {Q : Exit -> Act -> World -> Prop} {W : World} {b : Nat} {ds : List ByteArray}
open Go.WideMaps Go.Maps in
theorem MapB.get_step{m k:Tmp}(ho:o.op= .lookup 166 (.tmp m) (.tmp k) false)(hw:Region.wanted o (yielded ops a.tmps)=true){s:ByteArray}(hm:a.eval (.tmp m)= .map (some b))(hk:a.eval (.tmp k)= .string s)
 (hM:MapB.MS W b ds) {c:Bool} (hp:MapB.get ds s=some c) (h:K (a.put o.dst (.bool c)) W):if Region.wanted o (yielded ops a.tmps)=true then Oper.wp Tryz.prog o a W K Q else K (a.put o.dst undef) W:=by
 unfold MapB.get at hp;split at hp
 ·rename_i hc
  obtain⟨v,ps,hrun,hv⟩:=World.ownsMap.lookup hM MapSet.keyed Tryz.underlying166 (MapB.zero W) (plainElem_bool Tryz.underlying4 false) (MapSet.key s (Nat.le_trans hc yd_));obtain⟨c',rfl,e⟩:=MapB.plain Tryz.underlying4 hv;rw[MapB.at_] at e;simp only[Prod.mk.injEq,DataW.lit.injEq,Lit.bool.injEq] at e;obtain rfl:=Option.some.inj hp;rw[<-e.1] at hrun;refine event_step hw ?_ h;unfold execOp;simp only[ho,hm,hk,Sem.run_bind,hrun,Result.andThen_ok];rfl
 ·exact absurd hp (by simp)
end
section
open Kd
section
variable {P : Program} {ops : Array Oper} {rest : List Oper} {o : Oper} {a : Act} {Q : Exit -> Act -> World -> Prop} {α : Type}
theorem F_own(d:Kd α){w:World}{e base:Nat}{ok:Nat->Prop}{A:Option Addr}{c:Nat}{xs:List α}{inner:List Value}(h:w.ownsRow base e d.sz (.slice A xs.length c) xs.length inner)(hr:Reps (fun x cs=>FK d w ok x cs) d.sz xs inner)(hA:∀k,(Value.slice A xs.length c).ownBlock=some k->ok k):F d w ok A xs.length xs:=fun W' hW=>by
 have h1:=own_move (w1:=W') h (fun k hk=>hW k (hA k hk) (own_lt h k hk));obtain⟨A',c',he,_,hR⟩:=OwnRow.reads (R:=d.K W') ⟨inner,h1,hr.imp_ (fun p q hp=>hp W' hW)⟩;injection he with he
 subst he;exact hR
theorem V_cut(d:Kd α){W:World}{base:Nat}(t e ty:TypeId)(z:Value)(bytes:Nat)
 (ht:P.underlying t=some (.slice e)) (hinfo:(P.info? e).map (fun i=>(i.zero,i.size,i.bytes))=some (some z,d.sz,bytes)) (hz:z.cells.size=d.sz) (ab:0<d.sz) (ac:0<bytes)
 {A A':Option Addr} {c k m c2:Nat} {xs:List α} {ok:Nat->Prop} (hA:A'=if c=k+1 then A else A.map (·.add ((k+1)*d.sz))) (hm:m=xs.length - (k+1))
 (hV:V d e W base ok (.slice A xs.length c) xs) (hk:k<xs.length) (hl:xs.length*bytes<=140737488355328):
 ∃v1 w1,(Builtin.append_ #[t,t] ty #[.slice A k k,.slice A' m c2]).run P W= .ok v1 w1/\V d e w1 base (fun k=>ok k\/W.heap.size<=k) v1 (xs.take k++xs.drop (k+1))/\Below W.heap.size W w1:=by
 obtain⟨i0,hi,hzz⟩:=Option.map_eq_some_iff.1 hinfo;simp only[Prod.mk.injEq] at hzz;obtain⟨ae,af,hz2⟩:=hzz;have hF:=V_F hV;have hrows:=F_rows hF;obtain⟨ad,rfl,_⟩:=hrows.2.2 yo_;obtain⟨inner,hre,hce⟩:=hrows.inner_;have hcl:=(V_at hV).2.1;by_cases h0:m=0
 ·obtain⟨ad',ha'⟩:∃ad',A'=some ad':=by rw[hA];split<;>exact⟨_,rfl⟩
  subst ha';refine⟨_,_,run_append_nothing (P:=P) W t t ty e i0 ht hi (some ad) k k (Nat.le_refl _) (.slice (some ad') m c2) (by rw[h0];exact Src.ofSlice W ht ad' 0 c2 [] (by simp) (fun j u hu=>by simp at hu) (fun u hu=>by cases hu)),?_,Below.refl _ _⟩;have e1:xs.drop (k+1)=[]:=List.drop_eq_nil_of_le yo_;have e2:(xs.take k).length=k:=by rw[List.length_take];omega
  rw[e1,List.append_nil];have:=V_mk (e:=e) (base:=base) (c:=k) (by rw[e2];exact Nat.le_refl _) (F_mono (F_take (m:=k) hF yo_) (fun _ hk=>Or.inl hk) (ok':=fun k=>ok k\/W.heap.size<=k));rw[e2] at this;exact this
 ·have ha':A'=some (ad.add ((k+1)*d.sz)):=by rw[hA,if_neg yo_];rfl
  subst ha';have hil:inner.length=xs.length*d.sz:=hre.1;have hle:(k+1)*d.sz+m*d.sz=xs.length*d.sz:=by rw[<-Nat.add_mul];congr 1;omega
  have ah:(k+1)*d.sz=k*d.sz+d.sz:=Nat.succ_mul _ _;have hlen:xs.length<=140737488355328:=Nat.le_trans (Nat.le_mul_of_pos_right _ ac) hl;obtain⟨v',w',hrun,hown,hg⟩:=run_append_arg_grows (P:=P) W t ty e i0 z d.sz bytes ht hi ae af hz2 hz ab ad k k (inner.take (k*d.sz)) (by rw[List.length_take];omega) (fun j u hu=>hce j u (by rw[List.getElem?_take] at hu;split at hu;exact hu;cases hu)) (ad.add ((k+1)*d.sz)) m c2 (inner.drop ((k+1)*d.sz)) (by rw[List.length_drop];omega) (fun j u hu=>by
   rw[List.getElem?_drop] at hu;rw[add_add];exact hce _ u hu) yo_ (by simp only[maxLen];omega) (Nat.le_trans (Nat.mul_le_mul_right _ yo_) hl)
  have hst:∀p q,FK d W ok p q->FK d w' (fun k=>ok k\/W.heap.size<=k) p q:=fun p q hq=>FK_mono (FK_step (FK_bound hq) (fun k _ hlt=>hg.block k hlt (by simp))) (fun k hk=> .inl hk.1);have hre':=hre.imp_ hst;have aa:=reps_append (reps_take (m:=k) hre' yo_) (reps_drop (m:=k+1) hre');have e3:(xs.take k++xs.drop (k+1)).length=k+m:=by rw[List.length_append,List.length_take,List.length_drop];omega
  rw[<-e3] at hown;obtain⟨A1,c1,rfl,ag⟩:=OwnRow.slice_ (R:=fun p q=>FK d w' (fun k=>ok k\/W.heap.size<=k) p q) ⟨_,hown,aa⟩;exact⟨_,_,hrun,V_mk ag (F_own d hown aa (fun k hk=> .inr (own_base hown k hk))),(Below.refl _ _).grown hg (Nat.le_refl _) (fun k hk=>by cases hk)⟩
theorem V_cut_step{Kc:Act->World->Prop}{W w1:World}{v1 A B:Value}{t:TypeId}(hw:Region.wanted o (yielded ops a.tmps)=true)(s x:Operand)
 (ho:o.op= .call { callee:= .builtin .append,args:= #[s,x],argTypes:= #[t,t] }) (hs:a.eval s=A) (hx:a.eval x=B) (hrun:(Builtin.append_ #[t,t] o.type #[A,B]).run P W= .ok v1 w1) (h:Kc (a.put o.dst v1) w1):
 if Region.wanted o (yielded ops a.tmps)=true then Oper.wp P o a W Kc Q else Kc (a.put o.dst undef) W:=by
 refine event_step hw ?_ h;simp[execOp,ho,resolve,invoke,builtin,hs,hx,hrun,Result.andThen]
end
end
def spec_l3Has.l0:Nat->List ByteArray->ByteArray->Int->Option (Bool)
 |0,_,_,_=>none
 |k+1,x0,x1,x5=>if x5<(x0.length:Int) then(if 0<=x5 then(if(rdOf ByteArray.empty x0 x5).toList=x1.toList then(some true) else(spec_l3Has.l0 k x0 x1 (wrap64 (x5+1)))) else(none)) else(some false)
def spec_l3Has.f(k:Nat)(l0:List ByteArray)(a1:ByteArray):Option (Bool):=spec_l3Has.l0 k l0 a1 0
theorem spec_l3Has.calls(k:Nat)(A0:Option Addr)(c0:Nat)(l0:List ByteArray)(a1:ByteArray)(r:Bool)(w:World)(ag:Kd.C Kd.string w A0 l0.length l0)(ah:l0.length<=c0)(H:spec_l3Has.f k l0 a1=some r):
 Calls Tryz.prog 125 #[.slice A0 l0.length c0,.string a1] w fun e w'=>e= .returned (.bool r)/\vB w w':=by
 have ai:=zz ag;have ao:=zz ah;clear ag ah;unfold spec_l3Has.f at H;have H':=zz H;clear H;go_enter Tryz.func125,Tryz.ntmps125;go_wp2;go_loopg[5] k (fun kq v5 w'=>∃(aa:Int),v5= .int .i64 aa/\qA (spec_l3Has.l0 kq l0 a1 aa=some r)/\qA (kq<=k)/\vB w w')
 case atStart=>exact⟨(0),zr,H',⟨Nat.le_refl _⟩,yD0⟩
 case round=>
  clear H';obtain⟨aa,rfl,HA,aj,⟨m1,rfl⟩⟩:=hrel;cases gk with
  |zero=>exact absurd HA.out (by simp[spec_l3Has.l0])
  |succ k1=>
   have H:=HA.out;clear HA;simp only[spec_l3Has.l0] at H;refine yDn H ?_ ?_<;>clear H<;>intro am H
   ·obtain rfl:=zi H;exact yr
   replace H:=yAD H;obtain⟨an,H⟩:=H;refine yC H ?_ ?_<;>clear H<;>intro c5 H
   ·obtain⟨ak,al⟩:=zq c5;clear c5;obtain rfl:=zi H;have ab:0<=(aa:Int):=z2;have ac:aa<(l0.length:Int):=z2;obtain⟨af,ad,ae⟩:=Kd.qX ai.out aa ab ac;cases ad;replace ab:=eq_true ab;replace ac:=eq_true ac;exact yr
   obtain⟨ak,al⟩:=zw c5;have H':=zz H;clear H;have ab:0<=(aa:Int):=z2;have ac:aa<(l0.length:Int):=z2;obtain⟨af,ad,ae⟩:=Kd.qX ai.out aa ab ac;cases ad;replace ab:=eq_true ab;replace ac:=eq_true ac;go_wp2;go_roundg k1
   case measure=>exact yM1 aj
   case rel=>exact⟨(wrap64 (aa+1)),zr,H',⟨yM1 aj⟩,yD0⟩
mutual
def spec_l12Without.l0:Nat->List (S103)->List ByteArray->List (S103)->Int->Option ((List (S103))×Bool)
 |0,_,_,_,_=>none
 |k+1,x0,x1,x6,x7=>if x7<(x0.length:Int) then(if 0<=x7 then((spec_l3Has.f k x1 ((qC x0 x7).f0)).bind fun aa=>(if aa=true then(spec_l12Without.l0 k x0 x1 x6 (wrap64 (x7+1))) else(spec_l12Without.l1 k x0 x1 x6 x7 0))) else(none)) else(some (x6,true))
def spec_l12Without.l1:Nat->List (S103)->List ByteArray->List (S103)->Int->Int->Option ((List (S103))×Bool)
 |0,_,_,_,_,_=>none
 |k+1,x0,x1,x6,x7,x8=>if 0<=x7 then(if x7<(x0.length:Int) then(if x8<(((qC x0 x7).f2).length:Int) then(if 0<=x8 then((spec_l3Has.f k x1 (rdOf ByteArray.empty ((qC x0 x7).f2) x8)).bind fun ab=>(if ab=true then(some (x0,false)) else(spec_l12Without.l1 k x0 x1 x6 x7 (wrap64 (x8+1))))) else(none)) else(if x6.length<1466015503701 then(spec_l12Without.l0 k x0 x1 (x6++[(⟨(qC x0 x7).f0,(qC x0 x7).f1,(qC x0 x7).f2,(qC x0 x7).f3,(qC x0 x7).f4⟩:S103)]) (wrap64 (x7+1))) else(none))) else(none)) else(none)
end
def spec_l12Without.f(k:Nat)(l0:List (S103))(l1:List ByteArray):Option ((List (S103))×Bool):=spec_l12Without.l0 k l0 l1 (([]:List (S103))) 0
theorem spec_l12Without.calls(k:Nat)(an:Nat->Prop)(A0:Option Addr)(c0:Nat)(l0:List (S103))(A1:Option Addr)(c1:Nat)(l1:List ByteArray)(r1:List (S103))(r2:Bool)(w:World)(dz:Kd.V k103 103 w w.heap.size (fun k_=>an k_) (.slice A0 l0.length c0) l0)(c9:Kd.C Kd.string w A1 l1.length l1)(da:l1.length<=c1)(H:spec_l12Without.f k l0 l1=some (r1,r2)):
 Calls Tryz.prog 116 #[.slice A0 l0.length c0,.slice A1 l1.length c1] w fun e w'=>∃db:Value,e= .returned (.tuple #[db,.bool r2])/\Kd.V k103 103 w' w.heap.size (fun k_=>(an k_\/w.heap.size<=k_)) db r1/\Below w.heap.size w w':=by
 have dE:=Tryz.underlying103;have cJ:=zz (show Kd.V k103 103 w w.heap.size (fun k_=>(an k_\/w.heap.size<=k_)) (.slice A0 l0.length c0) l0 from Kd.V_mono dz (fun k_ hk=> .inl hk));have cg:=zz c9;have ch:=zz da;clear c9 da;have HB:=yB w;unfold spec_l12Without.f at H;obtain⟨cK,b3⟩:∃y_:List (S103),y_=(([]:List (S103))):=⟨_,rfl⟩
 replace H:(spec_l12Without.l0 k l0 l1 cK 0)=some (r1,r2):=yN0 b3 H;have ci:=zz b3;clear b3;have H':=zz H;clear H;go_enter Tryz.func116,Tryz.ntmps116;go_wp2_with(first|(refine zN 9 ?_;refine Kd.N_lit k103 _ 103 ?hg (N':=9) ?hd (xs:=([]:List (S103))) (inner:=[]) (ok:=(fun k_=>(an k_\/w.heap.size<=k_))) (okp:=(fun k_=>(an k_\/w.heap.size<=k_))) ?hr ?hp (fun _ hk=>hk) ((show∀k_,w.heap.size<=k_->(fun k_=>(an k_\/w.heap.size<=k_)) k_ from fun k_ hk=>(.inr (Nat.le_trans (qF zb) hk))) _ (Nat.le_refl _)) (Below.refl _ _) (Nat.le_refl _) (by simp) ?_;(case hd=>rfl);(case hg=>rfl);(case hr=>first|(go_simp;done)|(go_simp;rfl));(case hp=>exact(Reps.none _ _));intro dJ w3 bG hb hg_ hnew_;clear hg_ hnew_;(first|rw[<-ci.out] at bG|(simp only[Int.reduceToNat] at bG;rw[<-ci.out] at bG));replace cJ:=zz (Kd.V_elder' (by(with_reducible repeat(first|apply Kd.V_alloc|apply Kd.V_drewN|apply Kd.V_drew));exact cJ.out) (Kd.N_base bG) hb);have cV:=zz (Kd.N_lower bG (qF zb));replace HB:=zz (zv zb hb);clear hb bG))
 go_loopg[6,7] k (fun kq v6 v7 w'=>∃(a8:List (S103)) (aa:Int),v7= .int .i64 aa/\qA (spec_l12Without.l0 kq l0 l1 a8 aa=some (r1,r2))/\qA (kq<=k)/\qA (Kd.V k103 103 w' w.heap.size (fun k_=>(an k_\/w.heap.size<=k_)/\some k_≠(v6:Value).ownBlock) (.slice A0 l0.length c0) l0)/\qA (Kd.N k103 103 w' w.heap.size (fun k_=>(an k_\/w.heap.size<=k_)) v6 a8)/\qA (Below w.heap.size w w'))
 case atStart=>exact⟨(cK),(0),zr,H',⟨Nat.le_refl _⟩,⟨by(with_reducible repeat(first|apply Kd.V_alloc|apply Kd.V_drewN|apply Kd.V_drew));exact cJ.out⟩,⟨by(with_reducible repeat(first|apply Kd.N_alloc|apply Kd.N_drewN|apply Kd.N_drew));exact cV.out⟩,⟨zb⟩⟩
 case round=>
  clear H';try clear c1
  obtain⟨a8,aa,rfl,HA,bH,ab,bj,HB⟩:=hrel;cases gk with
  |zero=>exact absurd HA.out (by simp[spec_l12Without.l0])
  |succ k1=>
   have H:=HA.out;clear HA;simp only[spec_l12Without.l0] at H;refine yDn H ?_ ?_<;>clear H<;>intro dh H
   ·simp only[Option.some.injEq,Prod.mk.injEq] at H;obtain⟨rfl,rfl⟩:=H;go_wp2
    go_ret2
    exact⟨_,ze,Kd.N_V (by(with_reducible repeat(first|apply Kd.N_alloc|apply Kd.N_drewN|apply Kd.N_drew));exact bj.out),zb⟩
   replace H:=yAD H;obtain⟨di,H⟩:=H;replace H:=zf H;obtain⟨dj,dc,H⟩:=H;try dsimp only at H
   have A7:=zz dc;clear dc;by_cases c8:dj=true
   ·subst c8;rw[if_pos rfl] at H;have H':=zz H;clear H;have aT:0<=(aa:Int):=z2;have aU:aa<(l0.length:Int):=z2;obtain⟨aR,cb,cL,cc,cM,cd,bI,bJ,bb,bK,bc,aV,aW,aX,aY⟩:=at_T103 (Kd.V_reads' ab.out).2.2 aa aT aU;cases cd;obtain⟨cW,bu,bv,aN⟩:=Kd.V_get ab.out z103 aa aT (by first|exact aU|exact z2|(have e_:=(Kd.V_reads' ab.out).1;omega));obtain⟨cn,co,cp,cq,rfl,aA,aC,aD,aE⟩:=k103_openF bv;have aj:=aN 2 _ rfl;rw[qW _ _ 2 yo_] at aj;replace aj:=Option.some.inj (aj.symm.trans bb);injection aj with hva_ hvn_ hvc_
    rw[hva_] at aC;rw[hvc_] at aA;have cr:=zz (show Kd.V Kd.string 9 _ w.heap.size _ _ ((qC l0 aa).f2) from Kd.V_mk aA aC);clear hva_ hvn_ hvc_ aC aA;have ak:=aN 4 _ rfl;rw[qW _ _ 4 yo_] at ak;replace ak:=Option.some.inj (ak.symm.trans bc);injection ak with hva_ hvn_ hvc_
    rw[hva_] at aE;rw[hvc_] at aD;have ct:=zz (show Kd.V k87 87 _ w.heap.size _ _ ((qC l0 aa).f4) from Kd.V_mk aD aE);clear hva_ hvn_ hvc_ aE aD;clear aN bu;have aK:=zz aW;have cu:=zz aV;clear aW aV;have aM:=zz aY;have cv:=zz aX;clear aY aX;replace aT:=eq_true aT;replace aU:=eq_true aU;go_wp2_with(first|(refine zL 125 22 Tryz.func125 #[.slice A1 l1.length c1,.string ((qC l0 aa).f0)] ?_;(with_reducible refine(spec_l3Has.calls k1 _ _ l1 ((qC l0 aa).f0) true _ ?s1 ?s2 A7.out).mono ?_);(case s1=>exact zc cg.out);(case s2=>exact ch.out);rintro e w' ⟨rfl,⟨nd,rfl⟩⟩;refine⟨_,rfl,?_⟩))
    go_roundg k1
    case measure=>exact yM1 bH
    case rel=>exact⟨(a8),(wrap64 (aa+1)),zr,H',⟨yM1 bH⟩,⟨by(with_reducible repeat(first|apply Kd.V_alloc|apply Kd.V_drewN|apply Kd.V_drew));exact ab.out⟩,⟨by(with_reducible repeat(first|apply Kd.N_alloc|apply Kd.N_drewN|apply Kd.N_drew));exact bj.out⟩,⟨zb⟩⟩
   replace c8:=Bool.eq_false_iff.mpr c8;subst c8;rw[if_neg (show¬(false=true) by decide)] at H;have H':=zz H;clear H;have aT:0<=(aa:Int):=z2;have aU:aa<(l0.length:Int):=z2;obtain⟨aR,cb,cL,cc,cM,cd,bI,bJ,bb,bK,bc,aV,aW,aX,aY⟩:=at_T103 (Kd.V_reads' ab.out).2.2 aa aT aU;cases cd;obtain⟨cW,bu,bv,aN⟩:=Kd.V_get ab.out z103 aa aT (by first|exact aU|exact z2|(have e_:=(Kd.V_reads' ab.out).1;omega));obtain⟨cn,co,cp,cq,rfl,aA,aC,aD,aE⟩:=k103_openF bv;have aj:=aN 2 _ rfl;rw[qW _ _ 2 yo_] at aj;replace aj:=Option.some.inj (aj.symm.trans bb);injection aj with hva_ hvn_ hvc_
   rw[hva_] at aC;rw[hvc_] at aA;have cr:=zz (show Kd.V Kd.string 9 _ w.heap.size _ _ ((qC l0 aa).f2) from Kd.V_mk aA aC);clear hva_ hvn_ hvc_ aC aA;have ak:=aN 4 _ rfl;rw[qW _ _ 4 yo_] at ak;replace ak:=Option.some.inj (ak.symm.trans bc);injection ak with hva_ hvn_ hvc_
   rw[hva_] at aE;rw[hvc_] at aD;have ct:=zz (show Kd.V k87 87 _ w.heap.size _ _ ((qC l0 aa).f4) from Kd.V_mk aD aE);clear hva_ hvn_ hvc_ aE aD;clear aN bu;have aK:=zz aW;have cu:=zz aV;clear aW aV;have aM:=zz aY;have cv:=zz aX;clear aY aX;replace aT:=eq_true aT;replace aU:=eq_true aU;go_wp2_with(first|(refine zL 125 22 Tryz.func125 #[.slice A1 l1.length c1,.string ((qC l0 aa).f0)] ?_;(with_reducible refine(spec_l3Has.calls k1 _ _ l1 ((qC l0 aa).f0) false _ ?s1 ?s2 A7.out).mono ?_);(case s1=>exact zc cg.out);(case s2=>exact ch.out);rintro e w' ⟨rfl,⟨nd,rfl⟩⟩;refine⟨_,rfl,?_⟩))
   go_loopg[8] k1 (fun kq v8 w'=>∃(ax:Int),v8= .int .i64 ax/\qA (spec_l12Without.l1 kq l0 l1 a8 aa ax=some (r1,r2))/\qA (kq<=k1)/\qA (Kd.V k103 103 w' w.heap.size (fun k_=>(an k_\/w.heap.size<=k_)/\some k_≠(u6:Value).ownBlock) (.slice (some aR) l0.length c0) l0)/\qA (Kd.N k103 103 w' w.heap.size (fun k_=>(an k_\/w.heap.size<=k_)) u6 a8)/\qA (Kd.C Kd.string w' cb ((qC l0 aa).f2).length ((qC l0 aa).f2))/\qA (Kd.C k87 w' cc ((qC l0 aa).f4).length ((qC l0 aa).f4))/\qA (Below w.heap.size w w'))
   case atStart=>exact⟨(0),zr,H',⟨Nat.le_refl _⟩,⟨by(with_reducible repeat(first|apply Kd.V_alloc|apply Kd.V_drewN|apply Kd.V_drew));exact ab.out⟩,⟨by(with_reducible repeat(first|apply Kd.N_alloc|apply Kd.N_drewN|apply Kd.N_drew));exact bj.out⟩,⟨by repeat(first|(with_reducible exact aK.out)|(with_reducible refine Kd.C_alloc ?_ _)|(with_reducible refine Kd.C_drewN ?_ _)|(with_reducible refine Kd.C_drew ?_)|exact aK.out)⟩,⟨by repeat(first|(with_reducible exact aM.out)|(with_reducible refine Kd.C_alloc ?_ _)|(with_reducible refine Kd.C_drewN ?_ _)|(with_reducible refine Kd.C_drew ?_)|exact aM.out)⟩,⟨zb⟩⟩
   case round=>
    clear H';try clear c1
    try clear dh
    try clear di
    try clear c8
    try clear bI
    try clear bJ
    try clear bb
    try clear bK
    try clear bc
    try clear aT
    try clear aU
    obtain⟨ax,rfl,HA,cj,ab,bj,aK,aM,HB⟩:=hrel;cases gk with
    |zero=>exact absurd HA.out (by simp[spec_l12Without.l1])
    |succ k2=>
     have H:=HA.out;clear HA;simp only[spec_l12Without.l1] at H;replace H:=yAD H;obtain⟨dK,H⟩:=H;replace H:=yAD H;obtain⟨dF,H⟩:=H;refine yD H ?_ ?_<;>clear H<;>intro dG H
     ·replace H:=yAD H;obtain⟨dH,H⟩:=H;replace H:=zf H;obtain⟨dk,cN,H⟩:=H;try dsimp only at H
      have de:=zz cN;clear cN;by_cases ck:dk=true
      ·subst ck;rw[if_pos rfl] at H;simp only[Option.some.injEq,Prod.mk.injEq] at H;obtain⟨rfl,rfl⟩:=H;have ay:0<=(aa:Int):=z2;have az:aa<(l0.length:Int):=z2;obtain⟨bn,bw,bz,bA,bB,bC,bL,bM,ao,bN,ap,ar,au,av,aw⟩:=at_T103 (Kd.V_reads' ab.out).2.2 aa ay az;obtain rfl:aR=bn:=(by injection bC)
       obtain⟨cm,a9,ba,ai⟩:=Kd.V_get ab.out z103 aa ay (by first|exact az|exact z2|(have e_:=(Kd.V_reads' ab.out).1;omega));obtain⟨bO,bP,bQ,bR,rfl,ae,af,ag,ah⟩:=k103_openF ba;have ac:=ai 2 _ rfl;rw[qW _ _ 2 yo_] at ac;replace ac:=Option.some.inj (ac.symm.trans ao);injection ac with hva_ hvn_ hvc_
       rw[hva_] at af;rw[hvc_] at ae;have bd:=zz (show Kd.V Kd.string 9 _ w.heap.size _ _ ((qC l0 aa).f2) from Kd.V_mk ae af);clear hva_ hvn_ hvc_ af ae;have ad:=ai 4 _ rfl;rw[qW _ _ 4 yo_] at ad;replace ad:=Option.some.inj (ad.symm.trans ap);injection ad with hva_ hvn_ hvc_
       rw[hva_] at ah;rw[hvc_] at ag;have be:=zz (show Kd.V k87 87 _ w.heap.size _ _ ((qC l0 aa).f4) from Kd.V_mk ag ah);clear hva_ hvn_ hvc_ ah ag;clear ai a9;have bS:=zz au;have bT:=zz ar;clear au ar;have bU:=zz aw;have bV:=zz av;clear aw av;replace ay:=eq_true ay;replace az:=eq_true az;have a6:0<=(aa:Int):=z2;have a7:aa<(l0.length:Int):=z2;obtain⟨b4,cO,cP,cQ,cR,ce,cw,cx,aZ,cy,a0,a1,a2,a3,a4⟩:=at_T103 (Kd.V_reads' ab.out).2.2 aa a6 a7;obtain rfl:aR=b4:=(by injection ce)
       obtain⟨cX,bD,bE,aQ⟩:=Kd.V_get ab.out z103 aa a6 (by first|exact a7|exact z2|(have e_:=(Kd.V_reads' ab.out).1;omega));obtain⟨cz,cA,cB,cC,rfl,aG,aH,aI,aJ⟩:=k103_openF bE;have al:=aQ 2 _ rfl;rw[qW _ _ 2 yo_] at al;replace al:=Option.some.inj (al.symm.trans aZ);injection al with hva_ hvn_ hvc_
       rw[hva_] at aH;rw[hvc_] at aG;have cD:=zz (show Kd.V Kd.string 9 _ w.heap.size _ _ ((qC l0 aa).f2) from Kd.V_mk aG aH);clear hva_ hvn_ hvc_ aH aG;have am:=aQ 4 _ rfl;rw[qW _ _ 4 yo_] at am;replace am:=Option.some.inj (am.symm.trans a0);injection am with hva_ hvn_ hvc_
       rw[hva_] at aJ;rw[hvc_] at aI;have cE:=zz (show Kd.V k87 87 _ w.heap.size _ _ ((qC l0 aa).f4) from Kd.V_mk aI aJ);clear hva_ hvn_ hvc_ aJ aI;clear aQ bD;have a5:=zz a2;have cF:=zz a1;clear a2 a1;have cG:=zz a4;have cH:=zz a3;clear a4 a3;replace a6:=eq_true a6;replace a7:=eq_true a7;have ea_:=Option.some.inj (ao.symm.trans aZ);injection ea_ with ea_ en_ ec_
       subst ea_;subst ec_;clear en_;have ea_:=Option.some.inj (ap.symm.trans a0);injection ea_ with ea_ en_ ec_
       subst ea_;subst ec_;clear en_;have bk:0<=(ax:Int):=z2;have bl:ax<(((qC l0 aa).f2).length:Int):=z2;obtain⟨cY,cf,cI⟩:=Kd.qX (by repeat(first|(with_reducible exact a5.out)|(with_reducible refine Kd.C_alloc ?_ _)|(with_reducible refine Kd.C_drewN ?_ _)|(with_reducible refine Kd.C_drew ?_)|exact a5.out)) ax bk bl;cases cf;replace bk:=eq_true bk;replace bl:=eq_true bl;go_wp2_with(first|(refine zL 125 42 Tryz.func125 #[.slice A1 l1.length c1,.string (rdOf ByteArray.empty ((qC l0 aa).f2) ax)] ?_;(with_reducible refine(spec_l3Has.calls k2 _ _ l1 (rdOf ByteArray.empty ((qC l0 aa).f2) ax) true _ ?s1 ?s2 de.out).mono ?_);(case s1=>exact zc cg.out);(case s2=>exact ch.out);rintro e w' ⟨rfl,⟨nd,rfl⟩⟩;refine⟨_,rfl,?_⟩))
       go_ret2
       exact⟨_,ze,by(with_reducible repeat(first|apply Kd.V_alloc|apply Kd.V_drewN|apply Kd.V_drew));exact Kd.V_mono ab.out (fun _ hk=>hk.1),zb⟩
      replace ck:=Bool.eq_false_iff.mpr ck;subst ck;rw[if_neg (show¬(false=true) by decide)] at H;have H':=zz H;clear H;have ay:0<=(aa:Int):=z2;have az:aa<(l0.length:Int):=z2;obtain⟨bn,bw,bz,bA,bB,bC,bL,bM,ao,bN,ap,ar,au,av,aw⟩:=at_T103 (Kd.V_reads' ab.out).2.2 aa ay az;obtain rfl:aR=bn:=(by injection bC)
      obtain⟨cm,a9,ba,ai⟩:=Kd.V_get ab.out z103 aa ay (by first|exact az|exact z2|(have e_:=(Kd.V_reads' ab.out).1;omega));obtain⟨bO,bP,bQ,bR,rfl,ae,af,ag,ah⟩:=k103_openF ba;have ac:=ai 2 _ rfl;rw[qW _ _ 2 yo_] at ac;replace ac:=Option.some.inj (ac.symm.trans ao);injection ac with hva_ hvn_ hvc_
      rw[hva_] at af;rw[hvc_] at ae;have bd:=zz (show Kd.V Kd.string 9 _ w.heap.size _ _ ((qC l0 aa).f2) from Kd.V_mk ae af);clear hva_ hvn_ hvc_ af ae;have ad:=ai 4 _ rfl;rw[qW _ _ 4 yo_] at ad;replace ad:=Option.some.inj (ad.symm.trans ap);injection ad with hva_ hvn_ hvc_
      rw[hva_] at ah;rw[hvc_] at ag;have be:=zz (show Kd.V k87 87 _ w.heap.size _ _ ((qC l0 aa).f4) from Kd.V_mk ag ah);clear hva_ hvn_ hvc_ ah ag;clear ai a9;have bS:=zz au;have bT:=zz ar;clear au ar;have bU:=zz aw;have bV:=zz av;clear aw av;replace ay:=eq_true ay;replace az:=eq_true az;have a6:0<=(aa:Int):=z2;have a7:aa<(l0.length:Int):=z2;obtain⟨b4,cO,cP,cQ,cR,ce,cw,cx,aZ,cy,a0,a1,a2,a3,a4⟩:=at_T103 (Kd.V_reads' ab.out).2.2 aa a6 a7;obtain rfl:aR=b4:=(by injection ce)
      obtain⟨cX,bD,bE,aQ⟩:=Kd.V_get ab.out z103 aa a6 (by first|exact a7|exact z2|(have e_:=(Kd.V_reads' ab.out).1;omega));obtain⟨cz,cA,cB,cC,rfl,aG,aH,aI,aJ⟩:=k103_openF bE;have al:=aQ 2 _ rfl;rw[qW _ _ 2 yo_] at al;replace al:=Option.some.inj (al.symm.trans aZ);injection al with hva_ hvn_ hvc_
      rw[hva_] at aH;rw[hvc_] at aG;have cD:=zz (show Kd.V Kd.string 9 _ w.heap.size _ _ ((qC l0 aa).f2) from Kd.V_mk aG aH);clear hva_ hvn_ hvc_ aH aG;have am:=aQ 4 _ rfl;rw[qW _ _ 4 yo_] at am;replace am:=Option.some.inj (am.symm.trans a0);injection am with hva_ hvn_ hvc_
      rw[hva_] at aJ;rw[hvc_] at aI;have cE:=zz (show Kd.V k87 87 _ w.heap.size _ _ ((qC l0 aa).f4) from Kd.V_mk aI aJ);clear hva_ hvn_ hvc_ aJ aI;clear aQ bD;have a5:=zz a2;have cF:=zz a1;clear a2 a1;have cG:=zz a4;have cH:=zz a3;clear a4 a3;replace a6:=eq_true a6;replace a7:=eq_true a7;have ea_:=Option.some.inj (ao.symm.trans aZ);injection ea_ with ea_ en_ ec_
      subst ea_;subst ec_;clear en_;have ea_:=Option.some.inj (ap.symm.trans a0);injection ea_ with ea_ en_ ec_
      subst ea_;subst ec_;clear en_;have bk:0<=(ax:Int):=z2;have bl:ax<(((qC l0 aa).f2).length:Int):=z2;obtain⟨cY,cf,cI⟩:=Kd.qX (by repeat(first|(with_reducible exact a5.out)|(with_reducible refine Kd.C_alloc ?_ _)|(with_reducible refine Kd.C_drewN ?_ _)|(with_reducible refine Kd.C_drew ?_)|exact a5.out)) ax bk bl;cases cf;replace bk:=eq_true bk;replace bl:=eq_true bl;go_wp2_with(first|(refine zL 125 42 Tryz.func125 #[.slice A1 l1.length c1,.string (rdOf ByteArray.empty ((qC l0 aa).f2) ax)] ?_;(with_reducible refine(spec_l3Has.calls k2 _ _ l1 (rdOf ByteArray.empty ((qC l0 aa).f2) ax) false _ ?s1 ?s2 de.out).mono ?_);(case s1=>exact zc cg.out);(case s2=>exact ch.out);rintro e w' ⟨rfl,⟨nd,rfl⟩⟩;refine⟨_,rfl,?_⟩))
      go_roundg k2
      case measure=>exact yM2 bH cj
      case rel=>exact⟨(wrap64 (ax+1)),zr,H',⟨yM2 bH cj⟩,⟨by(with_reducible repeat(first|apply Kd.V_alloc|apply Kd.V_drewN|apply Kd.V_drew));exact ab.out⟩,⟨by(with_reducible repeat(first|apply Kd.N_alloc|apply Kd.N_drewN|apply Kd.N_drew));exact bj.out⟩,⟨by repeat(first|(with_reducible exact aK.out)|(with_reducible refine Kd.C_alloc ?_ _)|(with_reducible refine Kd.C_drewN ?_ _)|(with_reducible refine Kd.C_drew ?_)|exact aK.out)⟩,⟨by repeat(first|(with_reducible exact aM.out)|(with_reducible refine Kd.C_alloc ?_ _)|(with_reducible refine Kd.C_drewN ?_ _)|(with_reducible refine Kd.C_drew ?_)|exact aM.out)⟩,⟨zb⟩⟩
     replace H:=yA H;obtain⟨df,H⟩:=H;have cZ:=zz df;clear df;obtain⟨cS,b7⟩:∃y_:List (S103),y_=(a8++[(⟨(qC l0 aa).f0,(qC l0 aa).f1,(qC l0 aa).f2,(qC l0 aa).f3,(qC l0 aa).f4⟩:S103)]):=⟨_,rfl⟩
     replace H:(spec_l12Without.l0 k2 l0 l1 cS (wrap64 (aa+1)))=some (r1,r2):=yN0 b7 H;have c5:=zz b7;clear b7;have H':=zz H;clear H;have ay:0<=(aa:Int):=z2;have az:aa<(l0.length:Int):=z2;obtain⟨bn,bw,bz,bA,bB,bC,bL,bM,ao,bN,ap,ar,au,av,aw⟩:=at_T103 (Kd.V_reads' ab.out).2.2 aa ay az;obtain rfl:aR=bn:=(by injection bC)
     obtain⟨cm,a9,ba,ai⟩:=Kd.V_get ab.out z103 aa ay (by first|exact az|exact z2|(have e_:=(Kd.V_reads' ab.out).1;omega));obtain⟨bO,bP,bQ,bR,rfl,ae,af,ag,ah⟩:=k103_openF ba;have ac:=ai 2 _ rfl;rw[qW _ _ 2 yo_] at ac;replace ac:=Option.some.inj (ac.symm.trans ao);injection ac with hva_ hvn_ hvc_
     rw[hva_] at af;rw[hvc_] at ae;have bd:=zz (show Kd.V Kd.string 9 _ w.heap.size _ _ ((qC l0 aa).f2) from Kd.V_mk ae af);clear hva_ hvn_ hvc_ af ae;have ad:=ai 4 _ rfl;rw[qW _ _ 4 yo_] at ad;replace ad:=Option.some.inj (ad.symm.trans ap);injection ad with hva_ hvn_ hvc_
     rw[hva_] at ah;rw[hvc_] at ag;have be:=zz (show Kd.V k87 87 _ w.heap.size _ _ ((qC l0 aa).f4) from Kd.V_mk ag ah);clear hva_ hvn_ hvc_ ah ag;clear ai a9;have bS:=zz au;have bT:=zz ar;clear au ar;have bU:=zz aw;have bV:=zz av;clear aw av;replace ay:=eq_true ay;replace az:=eq_true az;have b8:0<=(aa:Int):=z2;have ca:aa<(l0.length:Int):=z2;obtain⟨c6,dA,dB,dC,dD,dl,dm,dn,bW,dp,bX,bY,bZ,b0,b1⟩:=at_T103 (Kd.V_reads' ab.out).2.2 aa b8 ca;obtain rfl:aR=c6:=(by injection dl)
     obtain⟨dI,cT,cU,bF⟩:=Kd.V_get ab.out z103 aa b8 (by first|exact ca|exact z2|(have e_:=(Kd.V_reads' ab.out).1;omega));obtain⟨dq,dr,dt,du,rfl,bo,bq,br,bs⟩:=k103_openF cU;have bf:=bF 2 _ rfl;rw[qW _ _ 2 yo_] at bf;replace bf:=Option.some.inj (bf.symm.trans bW);injection bf with hva_ hvn_ hvc_
     rw[hva_] at bq;rw[hvc_] at bo;have bg:=zz (show Kd.V Kd.string 9 _ w.heap.size _ _ ((qC l0 aa).f2) from Kd.V_mk bo bq);clear hva_ hvn_ hvc_ bq bo;have bh:=bF 4 _ rfl;rw[qW _ _ 4 yo_] at bh;replace bh:=Option.some.inj (bh.symm.trans bX);injection bh with hva_ hvn_ hvc_
     rw[hva_] at bs;rw[hvc_] at br;have bi:=zz (show Kd.V k87 87 _ w.heap.size _ _ ((qC l0 aa).f4) from Kd.V_mk br bs);clear hva_ hvn_ hvc_ bs br;clear bF cT;have dv:=zz bZ;have dw:=zz bY;clear bZ bY;have dx:=zz b1;have dy:=zz b0;clear b1 b0;replace b8:=eq_true b8;replace ca:=eq_true ca;have ea_:=Option.some.inj (ao.symm.trans bW);injection ea_ with ea_ en_ ec_
     subst ea_;subst ec_;clear en_;have ea_:=Option.some.inj (ap.symm.trans bX);injection ea_ with ea_ en_ ec_
     subst ea_;subst ec_;clear en_;go_wp2_with(first|((with_reducible refine qU (b:= .append) (xs:= #[.tmp 44,.tmp 49]) rfl ?_);at_builtin;refine Kd.N_append k103 (w0:=w) w.heap.size rfl (.tmp 44) (.tmp 49) 33 103 (.agg #[(.string ⟨#[]⟩),(.string ⟨#[]⟩),(.slice none 0 0),(.string ⟨#[]⟩),(.slice none 0 0)]) 96 rfl Tryz.underlying33 info103 rfl yd_ yo_ u6 a8 (⟨(qC l0 aa).f0,(qC l0 aa).f1,(qC l0 aa).f2,(qC l0 aa).f3,(qC l0 aa).f4⟩:S103) [.string ((qC l0 aa).f0),.string ((qC l0 aa).f1),.slice bw ((qC l0 aa).f2).length bz,.string ((qC l0 aa).f3),.slice bA ((qC l0 aa).f4).length bB] (fun k_=>(an k_\/w.heap.size<=k_)) (fun k_=>((fun k_=>(an k_\/w.heap.size<=k_))) k_/\some k_≠(u6:Value).ownBlock) rfl rfl ?aP (fun _ hk=>hk) ?aF ?aO ?aB ?aS ?aL ?_;(case aP=>exact(k103_mkF _ _ (⟨(qC l0 aa).f0,(qC l0 aa).f1,(qC l0 aa).f2,(qC l0 aa).f3,(qC l0 aa).f4⟩:S103) (Kd.V_reads' (Kd.V_mono (ok':=(fun k_=>((fun k_=>(an k_\/w.heap.size<=k_))) k_/\some k_≠(u6:Value).ownBlock)) (bg.out) (fun k_ hk=>⟨hk.1,hk.2⟩))).2.1 (Kd.V_F (Kd.V_mono (ok':=(fun k_=>((fun k_=>(an k_\/w.heap.size<=k_))) k_/\some k_≠(u6:Value).ownBlock)) (bg.out) (fun k_ hk=>⟨hk.1,hk.2⟩))) (Kd.V_reads' (Kd.V_mono (ok':=(fun k_=>((fun k_=>(an k_\/w.heap.size<=k_))) k_/\some k_≠(u6:Value).ownBlock)) (bi.out) (fun k_ hk=>⟨hk.1,hk.2⟩))).2.1 (Kd.V_F (Kd.V_mono (ok':=(fun k_=>((fun k_=>(an k_\/w.heap.size<=k_))) k_/\some k_≠(u6:Value).ownBlock)) (bi.out) (fun k_ hk=>⟨hk.1,hk.2⟩)))));(case aB=>exact zb);(case aF=>exact(fun k_ hk=>(.inr (Nat.le_trans (qF zb) hk))));(case aO=>exact(by(with_reducible repeat(first|apply Kd.N_alloc|apply Kd.N_drewN|apply Kd.N_drew));exact bj.out));(case aS=>exact(qF zb));(case aL=>have:=cZ.out;omega);intro dL dM ho hb hg hat;rw[<-c5.out] at ho;replace ab:=zz (Kd.V_afterv (ok:=(fun k_=>(an k_\/w.heap.size<=k_))) (by(with_reducible repeat(first|apply Kd.V_alloc|apply Kd.V_drewN|apply Kd.V_drew));exact ab.out) hg hat);replace HB:=zz (hb);have c7:=zz (ho);clear bj;clear ho hb hg hat))
     go_roundg k2
     case measure=>exact yM2 bH cj
     case rel=>exact⟨(cS),(wrap64 (aa+1)),zr,H',⟨yM2 bH cj⟩,⟨by(with_reducible repeat(first|apply Kd.V_alloc|apply Kd.V_drewN|apply Kd.V_drew));exact ab.out⟩,⟨by(with_reducible repeat(first|apply Kd.N_alloc|apply Kd.N_drewN|apply Kd.N_drew));exact c7.out⟩,⟨zb⟩⟩
mutual
def spec_l13Roots.l0:Nat->List (S137)->List ByteArray->List ByteArray->Int->Option (List ByteArray)
 |0,_,_,_,_=>none
 |k+1,x0,x1,x5,x6=>if x6<(x0.length:Int) then(spec_l13Roots.l1 k x0 x1 x5 x6 0) else(spec_l13Roots.l2 k x1 x5 0)
def spec_l13Roots.l1:Nat->List (S137)->List ByteArray->List ByteArray->Int->Int->Option (List ByteArray)
 |0,_,_,_,_,_=>none
 |k+1,x0,x1,x5,x6,x7=>if 0<=x6 then(if x6<(x0.length:Int) then(if x7<(((qE x0 x6).f2).length:Int) then(if 0<=x7 then((spec_l3Add.f k x5 ((qP ((qE x0 x6).f2) x7).f1)).bind fun aa=>(spec_l13Roots.l1 k x0 x1 aa x6 (wrap64 (x7+1)))) else(none)) else(spec_l13Roots.l0 k x0 x1 x5 (wrap64 (x6+1)))) else(none)) else(none)
def spec_l13Roots.l2:Nat->List ByteArray->List ByteArray->Int->Option (List ByteArray)
 |0,_,_,_=>none
 |k+1,x1,x5,x8=>if x8<(x1.length:Int) then(if 0<=x8 then((spec_AddressOk.f k (rdOf ByteArray.empty x1 x8)).bind fun ab=>(if ab=true then((spec_l3Add.f k x5 (rdOf ByteArray.empty x1 x8)).bind fun ac=>(spec_l13Roots.l2 k x1 ac (wrap64 (x8+1)))) else(spec_l13Roots.l2 k x1 x5 (wrap64 (x8+1))))) else(none)) else(some x5)
end
def spec_l13Roots.f(k:Nat)(l0:List (S137))(l1:List ByteArray):Option (List ByteArray):=spec_l13Roots.l0 k l0 l1 (([]:List ByteArray)) 0
theorem spec_l13Roots.calls(k:Nat)(A0:Option Addr)(c0:Nat)(l0:List (S137))(A1:Option Addr)(c1:Nat)(l1:List ByteArray)(r:List ByteArray)(w:World)(bf:Kd.C k137 w A0 l0.length l0)(bg:l0.length<=c0)(bh:Kd.C Kd.string w A1 l1.length l1)(bi:l1.length<=c1)(H:spec_l13Roots.f k l0 l1=some r):
 Calls Tryz.prog 167 #[.slice A0 l0.length c0,.slice A1 l1.length c1] w fun e w'=>∃bj:Value,e= .returned (bj)/\Kd.R Kd.string 9 w' w.heap.size (fun _=>True) bj r/\Below w.heap.size w w':=by
 have aZ:=zz bf;have bL:=zz bg;clear bf bg;have a0:=zz bh;have bM:=zz bi;clear bh bi;have HB:=yB w;unfold spec_l13Roots.f at H;obtain⟨a1,aD⟩:∃y_:List ByteArray,y_=(([]:List ByteArray)):=⟨_,rfl⟩
 replace H:(spec_l13Roots.l0 k l0 l1 a1 0)=some r:=yN0 aD H;have aS:=zz aD;clear aD;have H':=zz H;clear H;go_enter Tryz.func167,Tryz.ntmps167;go_wp2_with(first|(refine yL Kd.string 9 9 ?_;intro bI w3 aI hb hg_ hnew_;clear hg_ hnew_;(first|rw[<-aS.out] at aI|(simp only[Int.reduceToNat] at aI;rw[<-aS.out] at aI));have ba:=zz (Kd.vC aI (qF zb));replace HB:=zz (zv zb hb);clear hb aI))
 go_loopg[5,6] k (fun kq v5 v6 w'=>∃(az:List ByteArray) (ab:Int),v6= .int .i64 ab/\qA (spec_l13Roots.l0 kq l0 l1 az ab=some r)/\qA (kq<=k)/\qA (Kd.R Kd.string 9 w' w.heap.size (fun _=>True) v5 az)/\qA (Below w.heap.size w w'))
 case atStart=>exact⟨(a1),(0),zr,H',⟨Nat.le_refl _⟩,⟨zR ba.out⟩,⟨zb⟩⟩
 case round=>
  clear H';try clear c1
  obtain⟨az,ab,rfl,HA,ay,ad,HB⟩:=hrel;cases gk with
  |zero=>exact absurd HA.out (by simp[spec_l13Roots.l0])
  |succ k1=>
   have H:=HA.out;clear HA;simp only[spec_l13Roots.l0] at H;refine yD H ?_ ?_<;>clear H<;>intro a2 H
   ·have H':=zz H;clear H;go_wp2;go_loopg[5,7] k1 (fun kq v5 v7 w'=>∃(ac:List ByteArray) (ak:Int),v7= .int .i64 ak/\qA (spec_l13Roots.l1 kq l0 l1 ac ab ak=some r)/\qA (kq<=k1)/\qA (Kd.R Kd.string 9 w' w.heap.size (fun _=>True) v5 ac)/\qA (Below w.heap.size w w'))
    case atStart=>exact⟨(az),(0),zr,H',⟨Nat.le_refl _⟩,⟨zR ad.out⟩,⟨zb⟩⟩
    case round=>
     clear H';try clear c1
     try clear a2
     obtain⟨ac,ak,rfl,HA,ar,ad,HB⟩:=hrel;cases gk with
     |zero=>exact absurd HA.out (by simp[spec_l13Roots.l1])
     |succ k2=>
      have H:=HA.out;clear HA;simp only[spec_l13Roots.l1] at H;replace H:=yAD H;obtain⟨bl,H⟩:=H;replace H:=yAD H;obtain⟨bn,H⟩:=H;refine yDn H ?_ ?_<;>clear H<;>intro bo H
      ·have H':=zz H;clear H;have al:0<=(ab:Int):=z2;have am:ab<(l0.length:Int):=z2;obtain⟨aT,a3,a4,aK,af,ag,ae,ah,ai⟩:=at_T137 aZ.out ab al am;cases aK;replace af:=z3 HB.out af;replace ag:=z3 HB.out ag;replace ae:=z3 HB.out ae;have aW:=zz ai;have aX:=zz ah;clear ai ah;replace al:=eq_true al;replace am:=eq_true am;go_wp2;go_roundg k2
       case measure=>exact yM2 ay ar
       case rel=>exact⟨(ac),(wrap64 (ab+1)),zr,H',⟨yM2 ay ar⟩,⟨zR ad.out⟩,⟨zb⟩⟩
      replace H:=yAD H;obtain⟨bq,H⟩:=H;replace H:=zf H;obtain⟨a5,a6,H⟩:=H;try dsimp only at H
      have bB:=zz a6;clear a6;have H':=zz H;clear H;have al:0<=(ab:Int):=z2;have am:ab<(l0.length:Int):=z2;obtain⟨aT,a3,a4,aK,af,ag,ae,ah,ai⟩:=at_T137 aZ.out ab al am;cases aK;replace af:=z3 HB.out af;replace ag:=z3 HB.out ag;replace ae:=z3 HB.out ae;have aW:=zz ai;have aX:=zz ah;clear ai ah;replace al:=eq_true al;replace am:=eq_true am;have aE:0<=(ab:Int):=z2;have aF:ab<(l0.length:Int):=z2;obtain⟨bb,bC,bD,br,au,av,an,aA,aB⟩:=at_T137 aZ.out ab aE aF;obtain rfl:aT=bb:=(by injection br)
      replace au:=z3 HB.out au;replace av:=z3 HB.out av;replace an:=z3 HB.out an;have aY:=zz aB;have bA:=zz aA;clear aB aA;replace aE:=eq_true aE;replace aF:=eq_true aF;have ea_:=Option.some.inj (ae.symm.trans an);injection ea_ with ea_ en_ ec_
      subst ea_;subst ec_;clear en_;have aG:0<=(ak:Int):=z2;have aH:ak<(((qE l0 ab).f2).length:Int):=z2;obtain⟨bF,bs,aw,ax⟩:=at_T139 aY.out ak aG aH;cases bs;replace aw:=z3 HB.out aw;replace ax:=z3 HB.out ax;replace aG:=eq_true aG;replace aH:=eq_true aH;obtain⟨aL,aM,bu⟩:=Kd.vA ad.out;subst bu;go_wp2_with(first|(refine zL 173 36 Tryz.func173 #[.slice aL ac.length aM,.string ((qP ((qE l0 ab).f2) ak).f1)] ?_;(with_reducible refine(spec_l3Add.calls k2 (fun k_=>some k_=(.slice aL ac.length aM:Value).ownBlock) (.slice aL ac.length aM) ac ((qP ((qE l0 ab).f2) ak).f1) a5 w _ ?s1 ?s2 bB.out).mono ?_);(case s1=>repeat(first|(with_reducible first|exact HB.out|apply qY|apply qZ|apply qL)|exact HB.out));(case s2=>exact Kd.R_tight rfl ad.out);rintro e bN ⟨bJ,rfl,aJ,hb,hkp⟩;refine⟨_,rfl,?_⟩;have bc:=zz (Kd.qT (ok':=fun k_=>True) aJ (fun k_ hk_=>trivial));replace HB:=zz (hb);clear ad;(try clear hb);(try clear hkp);(try clear aJ)))
      go_roundg k2
      case measure=>exact yM2 ay ar
      case rel=>exact⟨(a5),(wrap64 (ak+1)),zr,H',⟨yM2 ay ar⟩,⟨zR bc.out⟩,⟨zb⟩⟩
   have H':=zz H;clear H;go_wp2;go_loopg[5,8] k1 (fun kq v5 v8 w'=>∃(ac:List ByteArray) (aa:Int),v8= .int .i64 aa/\qA (spec_l13Roots.l2 kq l1 ac aa=some r)/\qA (kq<=k1)/\qA (Kd.R Kd.string 9 w' w.heap.size (fun _=>True) v5 ac)/\qA (Below w.heap.size w w'))
   case atStart=>exact⟨(az),(0),zr,H',⟨Nat.le_refl _⟩,⟨zR ad.out⟩,⟨zb⟩⟩
   case round=>
    clear H';try clear c1
    try clear a2
    try clear bl
    try clear bn
    try clear bo
    try clear bq
    try clear af
    try clear ag
    try clear ae
    try clear au
    try clear av
    try clear an
    try clear aw
    try clear ax
    try clear al
    try clear aE
    try clear aG
    try clear am
    try clear aF
    try clear aH
    obtain⟨ac,aa,rfl,HA,ar,ad,HB⟩:=hrel;cases gk with
    |zero=>exact absurd HA.out (by simp[spec_l13Roots.l2])
    |succ k2=>
     have H:=HA.out;clear HA;simp only[spec_l13Roots.l2] at H;refine yDn H ?_ ?_<;>clear H<;>intro bG H
     ·obtain rfl:=zi H;go_wp2;go_ret;exact⟨_,ze,zR ad.out,zb⟩
     replace H:=yAD H;obtain⟨bH,H⟩:=H;replace H:=zf H;obtain⟨bv,a7,H⟩:=H;try dsimp only at H
     have bk:=zz a7;clear a7;by_cases aU:bv=true
     case neg=>
      replace aU:=Bool.eq_false_iff.mpr aU;subst aU;rw[if_neg (show¬(false=true) by decide)] at H;have H':=zz H;clear H;have ao:0<=(aa:Int):=z2;have ap:aa<(l1.length:Int):=z2;obtain⟨aV,aN,aj⟩:=Kd.qX a0.out aa ao ap;cases aN;replace aj:=z3 HB.out aj;replace ao:=eq_true ao;replace ap:=eq_true ap;go_wp2_with(first|(refine zL 91 47 Tryz.func91 #[.string (rdOf ByteArray.empty l1 aa)] ?_;(with_reducible refine(spec_AddressOk.calls k2 (rdOf ByteArray.empty l1 aa) false _ bk.out).mono ?_);rintro e w' ⟨rfl,⟨nd,rfl⟩⟩;refine⟨_,rfl,?_⟩))
      go_roundg k2
      case measure=>exact yM2 ay ar
      case rel=>exact⟨(ac),(wrap64 (aa+1)),zr,H',⟨yM2 ay ar⟩,⟨zR ad.out⟩,⟨zb⟩⟩
     subst aU;rw[if_pos rfl] at H;replace H:=zf H;obtain⟨a8,a9,H⟩:=H;try dsimp only at H
     have bE:=zz a9;clear a9;have H':=zz H;clear H;have ao:0<=(aa:Int):=z2;have ap:aa<(l1.length:Int):=z2;obtain⟨aV,aN,aj⟩:=Kd.qX a0.out aa ao ap;cases aN;replace aj:=z3 HB.out aj;replace ao:=eq_true ao;replace ap:=eq_true ap;go_wp2_with(first|(refine zL 91 47 Tryz.func91 #[.string (rdOf ByteArray.empty l1 aa)] ?_;(with_reducible refine(spec_AddressOk.calls k2 (rdOf ByteArray.empty l1 aa) true _ bk.out).mono ?_);rintro e w' ⟨rfl,⟨nd,rfl⟩⟩;refine⟨_,rfl,?_⟩;have aO:0<=(aa:Int):=z2;have aP:aa<(l1.length:Int):=z2;obtain⟨bd,bw,aC⟩:=Kd.qX a0.out aa aO aP;obtain rfl:aV=bd:=(by injection bw);replace aC:=z3 HB.out aC;replace aO:=eq_true aO;replace aP:=eq_true aP;obtain⟨aQ,aR,bz⟩:=Kd.vA ad.out;subst bz)|(refine zL 173 53 Tryz.func173 #[.slice aQ ac.length aR,.string (rdOf ByteArray.empty l1 aa)] ?_;(with_reducible refine(spec_l3Add.calls k2 (fun k_=>some k_=(.slice aQ ac.length aR:Value).ownBlock) (.slice aQ ac.length aR) ac (rdOf ByteArray.empty l1 aa) a8 w _ ?s1 ?s2 bE.out).mono ?_);(case s1=>repeat(first|(with_reducible first|exact HB.out|apply qY|apply qZ|apply qL)|exact HB.out));(case s2=>exact Kd.R_tight rfl ad.out);rintro e bO ⟨bK,rfl,aJ,hb,hkp⟩;refine⟨_,rfl,?_⟩;have be:=zz (Kd.qT (ok':=fun k_=>True) aJ (fun k_ hk_=>trivial));replace HB:=zz (hb);clear ad;(try clear hb);(try clear hkp);(try clear aJ)))
     go_roundg k2
     case measure=>exact yM2 ay ar
     case rel=>exact⟨(a8),(wrap64 (aa+1)),zr,H',⟨yM2 ay ar⟩,⟨zR be.out⟩,⟨zb⟩⟩
def spec_l12Closure.l0:Nat->List (S103)->List ByteArray->List ByteArray->Option (List ByteArray)
 |0,_,_,_=>none
 |k+1,x0,x5,x6=>if(x6.length:Int)>0 then(if 0<=(wrap64 ((x6.length:Int) - 1)) then(if(wrap64 ((x6.length:Int) - 1))<(x6.length:Int) then(if(wrap64 ((x6.length:Int) - 1))<=(x6.length:Int) then((some (x6.take ((wrap64 ((x6.length:Int) - 1)):Int).toNat:List ByteArray)).bind fun ab=>((spec_l12Find.f k x0 (rdOf ByteArray.empty x6 (wrap64 ((x6.length:Int) - 1)))).bind fun aa=>(if aa<0 then(spec_l12Closure.l0 k x0 x5 ab) else((spec_l3Has.f k x5 (rdOf ByteArray.empty x6 (wrap64 ((x6.length:Int) - 1)))).bind fun ac=>(if ac=true then(spec_l12Closure.l0 k x0 x5 ab) else((spec_l3Add.f k x5 (rdOf ByteArray.empty x6 (wrap64 ((x6.length:Int) - 1)))).bind fun ad=>(if 0<=aa then(if aa<(x0.length:Int) then(if ab.length+((qC x0 aa).f2).length<8796093022208 then(spec_l12Closure.l0 k x0 ad (ab++((qC x0 aa).f2))) else(none)) else(none)) else(none)))))))) else(none)) else(none)) else(none)) else(some x5)
def spec_l12Closure.f(k:Nat)(l0:List (S103))(l1:List ByteArray):Option (List ByteArray):=(some (([]:List ByteArray):List ByteArray)).bind fun aa=>(if aa.length+l1.length<8796093022208 then(spec_l12Closure.l0 k l0 (([]:List ByteArray)) (aa++l1)) else(none))
theorem spec_l12Closure.calls(k:Nat)(A0:Option Addr)(c0:Nat)(l0:List (S103))(A1:Option Addr)(c1:Nat)(l1:List ByteArray)(r:List ByteArray)(w:World)(bD:Kd.C k103 w A0 l0.length l0)(bE:l0.length<=c0)(bF:Kd.C Kd.string w A1 l1.length l1)(bG:l1.length<=c1)(h:spec_l12Closure.f k l0 l1=some r):
 Calls Tryz.prog 168 #[.slice A0 l0.length c0,.slice A1 l1.length c1] w fun e w'=>∃bH:Value,e= .returned (bH)/\Kd.R Kd.string 9 w' w.heap.size (fun _=>True) bH r/\Below w.heap.size w w':=by
 have a0:=zz bD;have a9:=zz bE;clear bD bE;have b4:=zz bF;have cA:=zz bG;clear bF bG;have HB:=yB w;unfold spec_l12Closure.f at h;have H:=h;clear h;obtain⟨aT,aI⟩:∃y_:List ByteArray,y_=(([]:List ByteArray)):=⟨_,rfl⟩
 replace H:((some (([]:List ByteArray):List ByteArray)).bind fun ao=>(if ao.length+l1.length<8796093022208 then(spec_l12Closure.l0 k l0 aT (ao++l1)) else(none)))=some r:=yN0 aI H;have a1:=zz aI;clear aI;obtain⟨ao,aJ⟩:∃y_:List ByteArray,y_=(([]:List ByteArray)):=⟨_,rfl⟩
 replace H:(if ao.length+l1.length<8796093022208 then(spec_l12Closure.l0 k l0 aT (ao++l1)) else(none))=some r:=yN0 aJ H;have a2:=zz aJ;clear aJ;replace H:=yA H;obtain⟨c3,H⟩:=H;have bK:=zz c3;clear c3;replace H:=yN H;obtain⟨bL,bs,H⟩:=H;have H':=zz H;clear H;go_enter Tryz.func168,Tryz.ntmps168;go_wp2_with(first|(refine yL Kd.string 9 9 ?_;intro bM w4 aQ hb hg_ hnew_;clear hg_ hnew_;(first|rw[<-a1.out] at aQ|(simp only[Int.reduceToNat] at aQ;rw[<-a1.out] at aQ));have ak:=zz (Kd.vC aQ (qF zb));replace HB:=zz (zv zb hb);clear hb aQ)|(refine yL Kd.string 9 10 ?_;intro bN w6 au hb hg_ hnew_;clear hg_ hnew_;(first|rw[<-a2.out] at au|(simp only[Int.reduceToNat] at au;rw[<-a2.out] at au));have a3:=zz (Kd.vC (Kd.R_new' au (Kd.R_lt (zR ak.out))) (qF zb));replace ak:=zz (Kd.R_elder' (zR ak.out) (Kd.R_base au) hb);replace HB:=zz (zv zb hb);clear hb au)|((with_reducible refine qU (b:= .append) (xs:= #[.tmp 10,.tmp 11]) rfl ?_);at_builtin;refine Kd.R_append_rows Kd.string (w0:=w) w.heap.size rfl (.tmp 10) (.tmp 11) 101 9 (.string ⟨#[]⟩) 16 rfl Tryz.underlying101 info9 rfl yd_ yo_ bN ao l1 _ _ _ (fun k_=>some k_≠(bM:Value).ownBlock) (fun _=>False) rfl rfl ?aO ?aR (fun _ _ h=>h) (fun _ h=>h.elim) ?aF ?aB ?aS ?aL ?_;(case aR=>exact zc b4.out);(case aB=>exact zb);(case aF=>exact(fun k_ hk=>Kd.fresh' (Kd.R_lt (zR ak.out)) k_ hk));(case aO=>exact(by(with_reducible repeat(first|apply Kd.R_alloc|apply Kd.R_drewN|apply Kd.R_drew));exact Kd.qT a3.out (fun _ hk=>hk.2)));(case aS=>exact(qF zb));(case aL=>have:=bK.out;omega);intro cn w8 ho hb hg hat;rw[<-bs.out] at ho;replace ak:=zz (Kd.R_after (ok:=(fun _=>True)) (zR ak.out) hg hat);replace HB:=zz (hb);have bu:=zz (ho);clear a3;clear ho hb hg hat))
 go_loopg[5,6] k (fun kq v5 v6 w'=>∃(ad:List ByteArray) (ab:List ByteArray),qA (spec_l12Closure.l0 kq l0 ad ab=some r)/\qA (kq<=k)/\qA (Kd.R Kd.string 9 w' w.heap.size (fun k_=>some k_≠(v6:Value).ownBlock) v5 ad)/\qA (Kd.R Kd.string 9 w' w.heap.size (fun k_=>some k_≠(v5:Value).ownBlock) v6 ab)/\qA (Below w.heap.size w w'))
 case atStart=>exact⟨(aT),(bL),H',⟨Nat.le_refl _⟩,⟨by(with_reducible repeat(first|apply Kd.R_alloc|apply Kd.R_drewN|apply Kd.R_drew));exact Kd.qT ak.out (fun _ hk=>hk.2)⟩,⟨zR bu.out⟩,⟨zb⟩⟩
 case round=>
  clear H';try clear c1
  try clear c3
  obtain⟨ad,ab,HA,av,ah,ac,HB⟩:=hrel;cases gk with
  |zero=>exact absurd HA.out (by simp[spec_l12Closure.l0])
  |succ k1=>
   have H:=HA.out;clear HA;simp only[spec_l12Closure.l0] at H;refine yCn H ?_ ?_<;>clear H<;>intro c9 H
   ·have bO:=zgtn c9;have bP:decide (0<ab.length)=false:=z0 yo_;clear c9;obtain rfl:=zi H;obtain⟨co,cp,bQ⟩:=Kd.vA ac.out;subst bQ;go_wp2;go_ret;exact⟨_,ze,by(with_reducible repeat(first|apply Kd.R_alloc|apply Kd.R_drewN|apply Kd.R_drew));exact Kd.qT ah.out (fun _ hk=>trivial),zb⟩
   have bO:=zgt c9;have bP:decide (0<ab.length)=true:=z1 yo_;clear c9;obtain⟨aa,al⟩:∃j_:Int,(wrap64 ((ab.length:Int) - 1))=j_:=⟨_,rfl⟩
   replace H:(if 0<=(aa) then(if(aa)<(ab.length:Int) then(if(aa)<=(ab.length:Int) then((some (ab.take ((aa):Int).toNat:List ByteArray)).bind fun ae=>((spec_l12Find.f k1 l0 (rdOf ByteArray.empty ab (aa))).bind fun af=>(if af<0 then(spec_l12Closure.l0 k1 l0 ad ae) else((spec_l3Has.f k1 ad (rdOf ByteArray.empty ab (aa))).bind fun aU=>(if aU=true then(spec_l12Closure.l0 k1 l0 ad ae) else((spec_l3Add.f k1 ad (rdOf ByteArray.empty ab (aa))).bind fun aK=>(if 0<=af then(if af<(l0.length:Int) then(if ae.length+((qC l0 af).f2).length<8796093022208 then(spec_l12Closure.l0 k1 l0 aK (ae++((qC l0 af).f2))) else(none)) else(none)) else(none)))))))) else(none)) else(none)) else(none))=some r:=by first|(rw[al] at H;exact H)|(simp only[al] at H⊢;exact H)
   have b7:(IntKind.i64.wrap ((ab.length:Int) - 1))=aa:=(i64_w _).trans al;replace H:=yAD H;obtain⟨ce,H⟩:=H;replace H:=yAD H;obtain⟨cf,H⟩:=H;replace H:=yA H;obtain⟨ba,H⟩:=H;have cg:=eq_true ba;have ch:=z1 ba;clear ba;replace H:=yN H;obtain⟨ae,an,H⟩:=H;replace H:=zf H;obtain⟨af,bb,H⟩:=H;try dsimp only at H
   have bc:=zz bb;clear bb;refine yD H ?_ ?_<;>clear H<;>intro ci H
   ·have H':=zz H;clear H;obtain⟨cq,bR,bS⟩:=Kd.vA ac.out;subst bS;have ai:0<=((aa):Int):=z2;have aj:(aa)<(ab.length:Int):=z2;obtain⟨am,ar,aw⟩:=Kd.qX (Kd.qM ac.out).2.2 (aa) ai aj;cases ar;replace ai:=eq_true ai;replace aj:=eq_true aj;have bd:((aa):Int)<=((ab.length:Int):Int):=z2;obtain⟨cr,a4,_,bv,_⟩:=info_parts info9;have be:=cut_to (P:=Tryz.prog) 101 9 .i64 Tryz.underlying101 a4 (some am) ab.length bR (aa) (z2) bd (Kd.qM ac.out).2.1;have aM:=Kd.R_take (m:=((aa):Int).toNat) ac.out yo_;have bf:ae.length=((aa):Int).toNat:=(by rw[an.out,List.length_take];omega)
    rw[<-an.out] at aM;rw[<-bf] at aM be;clear bf a4 bv ac;have ag:=zz aM;clear aM;replace bd:=eq_true bd;go_wp2_with(first|((with_reducible refine gate_callee (f:=92) rfl ?_);refine goesL_ (some 29) rfl rfl Tryz.func92 zk rfl #[.slice A0 l0.length c0,.string (rdOf ByteArray.empty ab (aa))] rfl (by(try simp only[List.map_toArray,List.map_cons,List.map_nil]);first|done|(simp only[al];rfl)|rfl|(simp only[List.length_drop,List.length_take];rfl)) ?_;(with_reducible refine(spec_l12Find.calls k1 _ _ l0 (rdOf ByteArray.empty ab (aa)) af _ ?s1 ?s2 bc.out).mono ?_);(case s1=>exact zc a0.out);(case s2=>exact a9.out);rintro e w' ⟨rfl,⟨nd,rfl⟩⟩;refine⟨_,rfl,?_⟩))
    go_roundg k1
    case measure=>exact yM1 av
    case rel=>exact⟨(ad),(ae),H',⟨yM1 av⟩,⟨zR ah.out⟩,⟨zR ag.out⟩,⟨zb⟩⟩
   replace H:=zf H;obtain⟨aU,bg,H⟩:=H;try dsimp only at H
   have bI:=zz bg;clear bg;by_cases a5:aU=true
   ·subst a5;rw[if_pos rfl] at H;have H':=zz H;clear H;obtain⟨ct,bT,bU⟩:=Kd.vA ac.out;subst bU;have ai:0<=((aa):Int):=z2;have aj:(aa)<(ab.length:Int):=z2;obtain⟨am,ar,aw⟩:=Kd.qX (Kd.qM ac.out).2.2 (aa) ai aj;cases ar;replace ai:=eq_true ai;replace aj:=eq_true aj;have bh:((aa):Int)<=((ab.length:Int):Int):=z2;obtain⟨cu,a6,_,bw,_⟩:=info_parts info9;have bi:=cut_to (P:=Tryz.prog) 101 9 .i64 Tryz.underlying101 a6 (some am) ab.length bT (aa) (z2) bh (Kd.qM ac.out).2.1;have aN:=Kd.R_take (m:=((aa):Int).toNat) ac.out yo_;have bj:ae.length=((aa):Int).toNat:=(by rw[an.out,List.length_take];omega)
    rw[<-an.out] at aN;rw[<-bj] at aN bi;clear bj a6 bw ac;have ag:=zz aN;clear aN;replace bh:=eq_true bh;go_wp2_with(first|((with_reducible refine gate_callee (f:=92) rfl ?_);refine goesL_ (some 29) rfl rfl Tryz.func92 zk rfl #[.slice A0 l0.length c0,.string (rdOf ByteArray.empty ab (aa))] rfl (by(try simp only[List.map_toArray,List.map_cons,List.map_nil]);first|done|(simp only[al];rfl)|rfl|(simp only[List.length_drop,List.length_take];rfl)) ?_;(with_reducible refine(spec_l12Find.calls k1 _ _ l0 (rdOf ByteArray.empty ab (aa)) af _ ?s1 ?s2 bc.out).mono ?_);(case s1=>exact zc a0.out);(case s2=>exact a9.out);rintro e w' ⟨rfl,⟨nd,rfl⟩⟩;refine⟨_,rfl,?_⟩;obtain⟨cv,cw,bV⟩:=Kd.vA ah.out;subst bV)|(go_at_call 125;(with_reducible refine(spec_l3Has.calls k1 _ _ ad (rdOf ByteArray.empty ab (aa)) true _ ?s1 ?s2 bI.out).mono ?_);(case s1=>repeat(first|exact(Kd.qM ah.out).2.2|(with_reducible refine Kd.C_alloc ?_ _)|(with_reducible refine Kd.C_drewN ?_ _)|(with_reducible refine Kd.C_drew ?_)));(case s2=>exact(Kd.qM ah.out).2.1);rintro e w' ⟨rfl,⟨nd,rfl⟩⟩))
    go_roundg k1
    case measure=>exact yM1 av
    case rel=>exact⟨(ad),(ae),H',⟨yM1 av⟩,⟨zR ah.out⟩,⟨zR ag.out⟩,⟨zb⟩⟩
   replace a5:=Bool.eq_false_iff.mpr a5;subst a5;rw[if_neg (show¬(false=true) by decide)] at H;replace H:=zf H;obtain⟨aK,bk,H⟩:=H;try dsimp only at H
   have b8:=zz bk;clear bk;replace H:=yAD H;obtain⟨cj,H⟩:=H;replace H:=yAD H;obtain⟨ck,H⟩:=H;replace H:=yA H;obtain⟨bJ,H⟩:=H;have bz:=zz bJ;clear bJ;replace H:=yN H;obtain⟨bW,bA,H⟩:=H;have H':=zz H;clear H;obtain⟨cx,aV,bX⟩:=Kd.vA ac.out;subst bX;have ai:0<=((aa):Int):=z2;have aj:(aa)<(ab.length:Int):=z2;obtain⟨am,ar,aw⟩:=Kd.qX (Kd.qM ac.out).2.2 (aa) ai aj;cases ar;replace ai:=eq_true ai;replace aj:=eq_true aj;have bl:((aa):Int)<=((ab.length:Int):Int):=z2;obtain⟨cy,a7,_,bB,_⟩:=info_parts info9;have bn:=cut_to (P:=Tryz.prog) 101 9 .i64 Tryz.underlying101 a7 (some am) ab.length aV (aa) (z2) bl (Kd.qM ac.out).2.1;have aP:=Kd.R_take (m:=((aa):Int).toNat) ac.out yo_;have bo:ae.length=((aa):Int).toNat:=(by rw[an.out,List.length_take];omega)
   rw[<-an.out] at aP;rw[<-bo] at aP bn;clear bo a7 bB ac;have ag:=zz aP;clear aP;replace bl:=eq_true bl;go_wp2_with(first|((with_reducible refine gate_callee (f:=92) rfl ?_);refine goesL_ (some 29) rfl rfl Tryz.func92 zk rfl #[.slice A0 l0.length c0,.string (rdOf ByteArray.empty ab (aa))] rfl (by(try simp only[List.map_toArray,List.map_cons,List.map_nil]);first|done|(simp only[al];rfl)|rfl|(simp only[List.length_drop,List.length_take];rfl)) ?_;(with_reducible refine(spec_l12Find.calls k1 _ _ l0 (rdOf ByteArray.empty ab (aa)) af _ ?s1 ?s2 bc.out).mono ?_);(case s1=>exact zc a0.out);(case s2=>exact a9.out);rintro e w' ⟨rfl,⟨nd,rfl⟩⟩;refine⟨_,rfl,?_⟩;obtain⟨aW,aX,bY⟩:=Kd.vA ah.out;subst bY)|(go_at_call 125;(with_reducible refine(spec_l3Has.calls k1 _ _ ad (rdOf ByteArray.empty ab (aa)) false _ ?s1 ?s2 bI.out).mono ?_);(case s1=>repeat(first|exact(Kd.qM ah.out).2.2|(with_reducible refine Kd.C_alloc ?_ _)|(with_reducible refine Kd.C_drewN ?_ _)|(with_reducible refine Kd.C_drew ?_)));(case s2=>exact(Kd.qM ah.out).2.1);rintro e w' ⟨rfl,⟨nd,rfl⟩⟩)|((with_reducible refine gate_callee (f:=173) rfl ?_);refine goesL_ (some 39) rfl rfl Tryz.func173 zk rfl #[.slice aW ad.length aX,.string (rdOf ByteArray.empty ab (aa))] rfl (by(try simp only[List.map_toArray,List.map_cons,List.map_nil]);first|done|(simp only[al];rfl)|rfl|(simp only[List.length_drop,List.length_take];rfl)) ?_;(with_reducible refine(spec_l3Add.calls k1 (fun k_=>some k_=(.slice aW ad.length aX:Value).ownBlock) (.slice aW ad.length aX) ad (rdOf ByteArray.empty ab (aa)) aK w _ ?s1 ?s2 b8.out).mono ?_);(case s1=>repeat(first|(with_reducible first|exact HB.out|apply qY|apply qZ|apply qL)|exact HB.out));(case s2=>exact Kd.R_tight rfl ah.out);rintro e cB ⟨bq,rfl,br,hb,hkp⟩;refine⟨_,rfl,?_⟩;have ap:=zz (Kd.qT (ok':=fun k_=>some k_≠(.slice (some am) ae.length aV:Value).ownBlock) br (fun k_ hk_=>Or.elim hk_ (fun hs_=>fun e_=>(((ag.out).1 k_ e_.symm)) hs_) (fun hn_=>(Kd.fresh' (Kd.R_lt (zR ag.out)) k_ hn_))));replace ag:=zz (Kd.qT (ok':=fun k_=>some k_≠(bq:Value).ownBlock) (Kd.R_keptB (ag.out) hkp (fun k_ hk_ hs_=>(hk_) hs_)) (fun k_ hk_=>fun e_=>Or.elim (br.1 k_ e_.symm) (fun hs_=>hk_.2.1 hs_) (fun hn_=>Nat.not_le.2 hk_.2.2 hn_)));replace HB:=zz (hb);clear ah;(try clear hb);(try clear hkp);(try clear br);have aY:0<=(af:Int):=z2;have aZ:af<(l0.length:Int):=z2;obtain⟨cm,ca,cb,cc,cd,bZ,ax,ay,az,aA,aC,aD,aE,aG,aH⟩:=at_T103 a0.out af aY aZ;cases bZ;replace ax:=z3 HB.out ax;replace ay:=z3 HB.out ay;replace az:=z3 HB.out az;replace aA:=z3 HB.out aA;replace aC:=z3 HB.out aC;have a8:=zz aE;have b0:=zz aD;clear aE aD;have b1:=zz aH;have b3:=zz aG;clear aH aG;replace aY:=eq_true aY;replace aZ:=eq_true aZ)|((with_reducible refine qU (b:= .append) (xs:= #[.tmp 40,.tmp 45]) rfl ?_);at_builtin;refine Kd.R_append_rows Kd.string (w0:=w) w.heap.size rfl (.tmp 40) (.tmp 45) 101 9 (.string ⟨#[]⟩) 16 rfl Tryz.underlying101 info9 rfl yd_ yo_ (.slice (some am) ae.length aV) ae ((qC l0 af).f2) _ _ _ (fun k_=>some k_≠(bq:Value).ownBlock) (fun _=>False) rfl rfl ?aO ?aR (fun _ _ h=>h) (fun _ h=>h.elim) ?aF ?aB ?aS ?aL ?_;(case aR=>exact zc a8.out);(case aB=>exact zb);(case aF=>exact(fun k_ hk=>Kd.fresh' (Kd.R_lt (zR ap.out)) k_ hk));(case aO=>exact(zR ag.out));(case aS=>exact(qF zb));(case aL=>have:=bz.out;omega);intro cz cC ho hb hg hat;rw[<-bA.out] at ho;replace ap:=zz (Kd.R_after (ok:=(fun _=>True)) (by(with_reducible repeat(first|apply Kd.R_alloc|apply Kd.R_drewN|apply Kd.R_drew));exact Kd.qT ap.out (fun _ hk=>⟨trivial,hk⟩)) hg hat);replace HB:=zz (hb);have bC:=zz (ho);clear ag;clear ho hb hg hat))
   go_roundg k1
   case measure=>exact yM1 av
   case rel=>exact⟨(aK),(bW),H',⟨yM1 av⟩,⟨by(with_reducible repeat(first|apply Kd.R_alloc|apply Kd.R_drewN|apply Kd.R_drew));exact Kd.qT ap.out (fun _ hk=>hk.2)⟩,⟨zR bC.out⟩,⟨zb⟩⟩
mutual
def spec_l19Live.l0:Nat->List ByteArray->Int->List (S103)->List (S137)->List (S133)->List (S134)->Option (List ByteArray)
 |0,_,_,_,_,_,_=>none
 |k+1,x3,x4,ab,ad,aa,ac=>if x4<(ac.length:Int) then(if 0<=x4 then(if x3.length<8796093022208 then(spec_l19Live.l0 k (x3++[(rd_T134 ac x4).f1]) (wrap64 (x4+1)) ab ad aa ac) else(none)) else(none)) else((spec_l12Paths.f k ab).bind fun ag=>(spec_l19Live.l1 k x3 ag 0 ab ad aa ac))
def spec_l19Live.l1:Nat->List ByteArray->List ByteArray->Int->List (S103)->List (S137)->List (S133)->List (S134)->Option (List ByteArray)
 |0,_,_,_,_,_,_,_=>none
 |k+1,x3,x5,x6,ab,ad,aa,ac=>if x6<(aa.length:Int) then(if 0<=x6 then(if x3.length<8796093022208 then((some (x3++[(qN aa x6).f0]:List ByteArray)).bind fun ae=>((spec_l10Refs.f k ((qN aa x6).f1) x5).bind fun af=>(if ae.length+af.length<8796093022208 then(spec_l19Live.l1 k (ae++af) x5 (wrap64 (x6+1)) ab ad aa ac) else(none)))) else(none)) else(none)) else((spec_l12Closure.f k ab x3).bind fun ah=>(some ah))
end
def spec_l19Live.f(k:Nat)(ab:List (S103))(aa:List (S137))(ac:List (S133))(ad:List (S134)):Option (List ByteArray):=(spec_l13Roots.f k aa (([]:List ByteArray))).bind fun ae=>(spec_l19Live.l0 k ae 0 ab aa ac ad)
def spec_l19Live.T10:Bool×List (List Nat×List Nat):=(true,[([],[]),([],[]),([1],[1]),([],[]),([2,3],[2,3]),([4],[4]),([5],[5]),([6],[6]),([0,7],[0,7]),([],[]),([9],[9]),([],[]),([10,11],[10,11]),([12],[12]),([13],[13]),([],[]),([14,15,8],[14,15]),([8,16,16],[8,16]),([17,17,0,1,2,3,4,5,6,7,8,9,10,11,12,13,14,15,16,17],[0,17])])
def spec_l19Live.B10:List Nat:=[0,0,2,0,14,30,62,126,255,0,512,0,3584,7680,15872,0,65535,131071,262143]
theorem spec_l19Live.tab10:rtab .any (opsOf Tryz.f126 10)=spec_l19Live.T10:=by kernel_rfl
theorem spec_l19Live.bits10:waitsOk spec_l19Live.T10.2 spec_l19Live.B10=true:=by kernel_rfl
theorem spec_l19Live.calls(k:Nat)(ay:Option Addr)(az:Nat)(ae:List (S103))(aJ:Option Addr)(aK:Nat)(ah:List (S137))(aY:Option Addr)(aQ:Nat)(ac:List (S133))(aT:Option Addr)(aU:Nat)(af:List (S134))(r:List ByteArray)(w:World)(bw:Kd.C k103 w ay ae.length ae)(bz:ae.length<=az)(bA:Kd.C k137 w aJ ah.length ah)(bB:ah.length<=aK)(bC:Kd.C k133 w aY ac.length ac)(bD:ac.length<=aQ)(bE:Kd.C k134 w aT af.length af)(bF:af.length<=aU)(h:spec_l19Live.f k ae ah ac af=some r):
 Calls Tryz.prog 126 #[.agg #[.slice ay ae.length az,.slice aJ ah.length aK,.slice aY ac.length aQ,.slice aT af.length aU]] w fun e w'=>∃cD:Value,e= .returned (cD)/\Kd.R Kd.string 9 w' w.heap.size (fun _=>True) cD r/\Below w.heap.size w w':=by
 have dt:=Tryz.underlying38;have bG:=zz bw;have bH:=zz bz;clear bw bz;have cm:=zz bA;have cn:=zz bB;clear bA bB;have bI:=zz bC;have dl:=zz bD;clear bC bD;have co:=zz bE;have dm:=zz bF;clear bE bF;have HB:=yB w;unfold spec_l19Live.f at h;have H:=h;clear h;obtain⟨br,a6⟩:∃y_:List ByteArray,y_=(([]:List ByteArray)):=⟨_,rfl⟩
 replace H:((spec_l13Roots.f k ah br).bind fun a7=>(spec_l19Live.l0 k a7 0 ae ah ac af))=some r:=yN0 a6 H;have bJ:=zz a6;clear a6;replace H:=zf H;obtain⟨a7,bK,H⟩:=H;try dsimp only at H
 have A2:=zz bK;clear bK;have H':=zz H;clear H;go_enter Tryz.func126,Tryz.ntmps126;go_wp2_with(first|(refine zX 1 38 #[.slice ay ae.length az,.slice aJ ah.length aK,.slice aY ac.length aQ,.slice aT af.length aU] ?_;intro ax hg w3 hbox hb;have aa:=zz (hbox);have dn:=zz ((zg:w.heap.size<=ax));replace HB:=zz (zv zb hb);clear hb hbox hg;obtain⟨be,bf,bg,bh,bi,bj,bk,bl⟩:=zc4 aa.out)|(refine yL Kd.string 9 9 ?_;intro du w5 bn hb hg_ hnew_;clear hg_ hnew_;(first|rw[<-bJ.out] at bn|(simp only[Int.reduceToNat] at bn;rw[<-bJ.out] at bn));have aC:=zz (Kd.vC bn (qF zb));replace aa:=zz (zJ aa hb);replace HB:=zz (zv zb hb);clear hb bn;obtain⟨dc,de,df⟩:=Kd.vA aC.out;subst df)|(refine zL 167 10 Tryz.func167 #[.slice aJ ah.length aK,.slice dc br.length de] ?_;(with_reducible refine(spec_l13Roots.calls k _ _ ah _ _ br a7 _ ?s1 ?s2 ?s3 ?s4 A2.out).mono ?_);(case s1=>exact zc cm.out);(case s2=>exact cn.out);(case s3=>repeat(first|exact(Kd.qM aC.out).2.2|(with_reducible refine Kd.C_alloc ?_ _)|(with_reducible refine Kd.C_drewN ?_ _)|(with_reducible refine Kd.C_drew ?_)));(case s4=>exact(Kd.qM aC.out).2.1);rintro e w8 ⟨dv,rfl,aj,hb⟩;refine⟨_,rfl,?_⟩;have cp:=zz (Kd.vC (Kd.R_new' aj (Kd.R_lt (zR aC.out))) (qF zb));replace aa:=zz (zJ aa hb);replace HB:=zz (zv zb hb);(try clear hb);(try clear aj)))
 go_loopg[3,4] k (fun kq v3 v4 w'=>∃(aV:List ByteArray) (ar:Int),v4= .int .i64 ar/\qA (spec_l19Live.l0 kq aV ar ae ah ac af=some r)/\qA (kq<=k)/\qA (Kd.R Kd.string 9 w' w.heap.size (fun _=>True) v3 aV)/\qA (w'.heap[ax]?=some (.cells #[(.slice ay ae.length az),(.slice aJ ah.length aK),(.slice aY ac.length aQ),(.slice aT af.length aU)] 38 (0,0)))/\qA (Below w.heap.size w w'))
 case atStart=>exact⟨(a7),(0),zr,H',⟨Nat.le_refl _⟩,⟨by(with_reducible repeat(first|apply Kd.R_alloc|apply Kd.R_drewN|apply Kd.R_drew));exact Kd.qT cp.out (fun _ hk=>trivial)⟩,⟨zB aa.out⟩,⟨zb⟩⟩
 case round=>
  clear H';try clear be
  try clear bf
  try clear bg
  try clear bh
  try clear bi
  try clear bj
  try clear bk
  try clear bl
  obtain⟨aV,ar,rfl,HA,bL,ad,aa,HB⟩:=hrel;cases gk with
  |zero=>exact absurd HA.out (by simp[spec_l19Live.l0])
  |succ k1=>
   have H:=HA.out;clear HA;simp only[spec_l19Live.l0] at H;refine yD H ?_ ?_<;>clear H<;>intro cH H
   ·replace H:=yAD H;obtain⟨cq,H⟩:=H;replace H:=yA H;obtain⟨b7,H⟩:=H;have cr:=zz b7;clear b7;obtain⟨b8,a8⟩:∃y_:List ByteArray,y_=(aV++[(rd_T134 af ar).f1]):=⟨_,rfl⟩
    replace H:(spec_l19Live.l0 k1 b8 (wrap64 (ar+1)) ae ah ac af)=some r:=yN0 a8 H;have ct:=zz a8;clear a8;have H':=zz H;clear H;obtain⟨bM,bN,bO,bP,bQ,bR,bS,bT⟩:=zc4 aa.out;have a9:0<=(ar:Int):=z2;have ba:ar<(af.length:Int):=z2;obtain⟨dp,cI,aW,aX⟩:=at_T134 co.out ar a9 ba;cases cI;replace aW:=z3 HB.out aW;replace aX:=z3 HB.out aX;replace a9:=eq_true a9;replace ba:=eq_true ba;go_wp2_with(first|((with_reducible refine qU (b:= .append) (xs:= #[.tmp 18,.tmp 25]) rfl ?_);at_builtin;refine Kd.R_append Kd.string (w0:=w) w.heap.size rfl (.tmp 18) (.tmp 25) 101 9 (.string ⟨#[]⟩) 16 rfl Tryz.underlying101 info9 rfl yd_ yo_ u3 aV ((rd_T134 af ar).f1) [.string ((rd_T134 af ar).f1)] (fun _=>True) (fun _=>False) rfl rfl ?aP (fun _ hk=>hk.elim) ?aF ?aO ?aB ?aS ?aL ?_;(case aP=>exact rfl);(case aB=>exact zb);(case aF=>exact(fun _ _=>trivial));(case aO=>exact(zR ad.out));(case aS=>exact(qF zb));(case aL=>have:=cr.out;omega);intro dw dE ho hb hg hat;rw[<-ct.out] at ho;replace aa:=zz (zK aa hg (Kd.R_ne ad.out aa.out yd_));replace HB:=zz (hb);have cu:=zz (ho);clear ad;clear ho hb hg hat))
    go_roundg k1
    case measure=>exact yM1 bL
    case rel=>exact⟨(b8),(wrap64 (ar+1)),zr,H',⟨yM1 bL⟩,⟨zR cu.out⟩,⟨zB aa.out⟩,⟨zb⟩⟩
   replace H:=zf H;obtain⟨au,ca,H⟩:=H;try dsimp only at H
   have dh:=zz ca;clear ca;have H':=zz H;clear H;obtain⟨bU,bV,bW,bX,bY,bZ,b0,b1⟩:=zc4 aa.out;go_wp2_with(first|(refine zL 135 29 Tryz.func135 #[.slice ay ae.length az] ?_;(with_reducible refine(spec_l12Paths.calls k1 _ _ ae au _ ?s1 ?s2 dh.out).mono ?_);(case s1=>exact zc bG.out);(case s2=>exact bH.out);rintro e dF ⟨bs,rfl,aj,hb⟩;refine⟨_,rfl,?_⟩;have cv:=zz (Kd.vC (Kd.R_new' aj (Kd.R_lt (zR ad.out))) (qF zb));replace ad:=zz (Kd.R_elder' (zR ad.out) (Kd.R_base aj) hb);replace aa:=zz (zJ aa hb);replace HB:=zz (zv zb hb);(try clear hb);(try clear hk);(try clear aj)))
   go_loopg[3,6] k1 (fun kq v3 v6 w'=>∃(aM:List ByteArray) (ab:Int),v6= .int .i64 ab/\qA (spec_l19Live.l1 kq aM au ab ae ah ac af=some r)/\qA (kq<=k1)/\qA (Kd.R Kd.string 9 w' w.heap.size (fun k_=>some k_≠(bs:Value).ownBlock) v3 aM)/\qA (Kd.R Kd.string 9 w' w.heap.size (fun k_=>some k_≠(v3:Value).ownBlock) bs au)/\qA (w'.heap[ax]?=some (.cells #[(.slice ay ae.length az),(.slice aJ ah.length aK),(.slice aY ac.length aQ),(.slice aT af.length aU)] 38 (0,0)))/\qA (Below w.heap.size w w'))
   case atStart=>exact⟨(aV),(0),zr,H',⟨Nat.le_refl _⟩,⟨by(with_reducible repeat(first|apply Kd.R_alloc|apply Kd.R_drewN|apply Kd.R_drew));exact Kd.qT ad.out (fun _ hk=>hk.2)⟩,⟨by(with_reducible repeat(first|apply Kd.R_alloc|apply Kd.R_drewN|apply Kd.R_drew));exact Kd.qT cv.out (fun _ hk=>hk.2)⟩,⟨zB aa.out⟩,⟨zb⟩⟩
   case round=>
    clear H';try clear cH
    try clear cq
    try clear b7
    try clear bM
    try clear bN
    try clear bO
    try clear bP
    try clear bU
    try clear bV
    try clear bW
    try clear bX
    try clear be
    try clear bf
    try clear bg
    try clear bh
    try clear bQ
    try clear bR
    try clear bS
    try clear bT
    try clear bY
    try clear bZ
    try clear b0
    try clear b1
    try clear bi
    try clear bj
    try clear bk
    try clear bl
    try clear aW
    try clear aX
    try clear a9
    try clear ba
    obtain⟨aM,ab,rfl,HA,cE,ad,ag,aa,HB⟩:=hrel;cases gk with
    |zero=>exact absurd HA.out (by simp[spec_l19Live.l1])
    |succ k2=>
     have H:=HA.out;clear HA;simp only[spec_l19Live.l1] at H;refine yDn H ?_ ?_<;>clear H<;>intro dq H
     ·replace H:=zf H;obtain⟨cJ,cb,H⟩:=H;try dsimp only at H
      have di:=zz cb;clear cb;obtain rfl:=zi H;obtain⟨cQ,cR,cS,cT,cU,cV,cW,cX⟩:=zc4 aa.out;obtain⟨cK,cL,cM⟩:=Kd.vA ad.out;subst cM;go_wp2_with(first|(refine zL 168 58 Tryz.func168 #[.slice ay ae.length az,.slice cK aM.length cL] ?_;(with_reducible refine(spec_l12Closure.calls k2 _ _ ae _ _ aM cJ _ ?s1 ?s2 ?s3 ?s4 di.out).mono ?_);(case s1=>exact zc bG.out);(case s2=>exact bH.out);(case s3=>repeat(first|exact(Kd.qM ad.out).2.2|(with_reducible refine Kd.C_alloc ?_ _)|(with_reducible refine Kd.C_drewN ?_ _)|(with_reducible refine Kd.C_drew ?_)));(case s4=>exact(Kd.qM ad.out).2.1);rintro e dG ⟨dx,rfl,aj,hb⟩;refine⟨_,rfl,?_⟩;have cw:=zz (Kd.vC (Kd.R_new' (Kd.R_new' aj (Kd.R_lt (zR ad.out))) (Kd.R_lt (zR ag.out))) (qF zb));replace ad:=zz (Kd.R_elder' (zR ad.out) (Kd.R_base aj) hb);replace ag:=zz (Kd.R_elder' (zR ag.out) (Kd.R_base aj) hb);replace aa:=zz (zJ aa hb);replace HB:=zz (zv zb hb);(try clear hb);(try clear hk);(try clear aj)))
      go_ret;exact⟨_,ze,by(with_reducible repeat(first|apply Kd.R_alloc|apply Kd.R_drewN|apply Kd.R_drew));exact Kd.qT cw.out (fun _ hk=>trivial),zb⟩
     replace H:=yAD H;obtain⟨dr,H⟩:=H;replace H:=yA H;obtain⟨cF,H⟩:=H;have cx:=zz cF;clear cF;obtain⟨bb,bc⟩:∃y_:List ByteArray,y_=(aM++[(qN ac ab).f0]):=⟨_,rfl⟩
     replace H:((spec_l10Refs.f k2 ((qN ac ab).f1) au).bind fun aA=>(if bb.length+aA.length<8796093022208 then(spec_l19Live.l1 k2 (bb++aA) au (wrap64 (ab+1)) ae ah ac af) else(none)))=some r:=yN0 bc H;have cy:=zz bc;clear bc;replace H:=zf H;obtain⟨aA,cc,H⟩:=H;try dsimp only at H
     have bK:=zz cc;clear cc;replace H:=yA H;obtain⟨cG,H⟩:=H;have cz:=zz cG;clear cG;obtain⟨cd,bd⟩:∃y_:List ByteArray,y_=(bb++aA):=⟨_,rfl⟩
     replace H:(spec_l19Live.l1 k2 cd au (wrap64 (ab+1)) ae ah ac af)=some r:=yN0 bd H;have cA:=zz bd;clear bd;have H':=zz H;clear H;obtain⟨cY,cZ,c5,c6,c7,c8,c9,da⟩:=zc4 aa.out;try go_wp2
     replace ad:=zz (Kd.R_drew ad.out);replace ag:=zz (Kd.R_drew ag.out);replace aa:=zz (blk_drew aa.out);replace HB:=zz (qL HB.out);have dy:=yt (0<=(ab:Int));have dz:=yt (ab<(ac.length:Int));obtain⟨ai,aZ,a0,cN,aD,av,aE,a1,a2⟩:=at_T133 bI.out ab z2 z2;have ak:=aE;have al:=av;have am:=aD;cases cN;replace aD:=z3 HB.out aD;replace av:=z3 HB.out av;replace aE:=z3 HB.out aE;have b3:=zz a2;have db:=zz a1;clear a2 a1;have dA:=yt (0<=(ab:Int));have dB:=yt (ab<(ac.length:Int));obtain⟨cB,dj,dk,cO,aG,aw,aH,a3,a4⟩:=at_T133 bI.out ab z2 z2;have an:=aH;have ao:=aw;have ap:=aG;obtain rfl:ai=cB:=(by injection cO)
     replace aG:=z3 HB.out aG;replace aw:=z3 HB.out aw;replace aH:=z3 HB.out aH;have a5:=zz a4;have b4:=zz a3;clear a4 a3;have ea_:=Option.some.inj (av.symm.trans aw);injection ea_ with ea_ en_ ec_
     subst ea_;subst ec_;clear en_;refine start_ (n:=19) (S:=fun w'=>w'.cell? ⟨ax,0,none⟩=some (.slice ay ae.length az)/\w'.cell? ⟨ax,1,none⟩=some (.slice aJ ah.length aK)/\w'.cell? ⟨ax,2,none⟩=some (.slice (some ai) ac.length aQ)/\w'.cell? ⟨ax,3,none⟩=some (.slice aT af.length aU)/\w'.cell? (ai.add ((ab).toNat*3))=some (.string ((qN ac ab).f0))/\w'.cell? ⟨(ai.add ((ab).toNat*3)).block,(ai.add ((ab).toNat*3)).off+1,none⟩=some (.slice aZ ((qN ac ab).f1).length a0)/\w'.cell? ⟨(ai.add ((ab).toNat*3)).block,(ai.add ((ab).toNat*3)).off+2,none⟩=some (.string ((qN ac ab).f2))/\w'.cell? (ai.add ((ab).toNat*3))=some (.string ((qN ac ab).f0))/\w'.cell? ⟨(ai.add ((ab).toNat*3)).block,(ai.add ((ab).toNat*3)).off+1,none⟩=some (.slice aZ ((qN ac ab).f1).length a0)/\w'.cell? ⟨(ai.add ((ab).toNat*3)).block,(ai.add ((ab).toNat*3)).off+2,none⟩=some (.string ((qN ac ab).f2))) (ds:=[]) (bp 0 19) zk rfl rfl ⟨(qH aa.out 0).trans rfl,(qH aa.out 1).trans rfl,(qH aa.out 2).trans rfl,(qH aa.out 3).trans rfl,(z3 HB.out am),(z3 HB.out al),(z3 HB.out ak),(z3 HB.out ap),(z3 HB.out ao),(z3 HB.out an)⟩ (fun hHeld=>?_);refine with_tabW spec_l19Live.tab10 spec_l19Live.bits10 (fun HT_ HW_=>?_);generalize wr.drew=dH at ad ag aa HB b3 a5 aD av aE aG aw aH hHeld⊢;refine zp 0 37 (bp 1 18) ?_;refine zp 1 38 (bp 2 17) ?_;refine zp 3 40 (bm 19 11) ?_;refine zp 9 46 (bm 19 523) ?_;refine zp 11 48 (bm 19 2571) ?_;refine zp 15 52 (bm 19 35339) ?_;refine zt 2 39 (bm 19 35343) ?_;refine zp 4 41 (bm 19 35359) ?_;refine zp 5 42 (bm 19 35391) ?_;refine zt 6 43 (bm 19 35455) ?_;refine zt 10 47 (bm 19 36479) ?_;refine zp 12 49 (bm 19 40575) ?_;refine zp 13 50 (bm 19 48767) ?_;refine zt 14 51 (bm 19 65151) ?_;refine zo 7 44 (bm 19 65279) fun K hK=>?_;refine value_ (w1:=?_) (v:=?_) (by rfl) rfl ?_ ?_;rotate_left 2
     ·go_simp;constructor
      ·rfl
      ·rfl
     refine hK.out _ _ ⟨(qH (blk_alloc aa.out _) 0).trans rfl,(qH (blk_alloc aa.out _) 1).trans rfl,(qH (blk_alloc aa.out _) 2).trans rfl,(qH (blk_alloc aa.out _) 3).trans rfl,(World.cell?_alloc_lt _ _ _ (World.block_lt_of_cell? _ _ ((z3 HB.out am)))).trans ((z3 HB.out am)),(World.cell?_alloc_lt _ _ _ (World.block_lt_of_cell? _ _ ((z3 HB.out al)))).trans ((z3 HB.out al)),(World.cell?_alloc_lt _ _ _ (World.block_lt_of_cell? _ _ ((z3 HB.out ak)))).trans ((z3 HB.out ak)),(World.cell?_alloc_lt _ _ _ (World.block_lt_of_cell? _ _ ((z3 HB.out ap)))).trans ((z3 HB.out ap)),(World.cell?_alloc_lt _ _ _ (World.block_lt_of_cell? _ _ ((z3 HB.out ao)))).trans ((z3 HB.out ao)),(World.cell?_alloc_lt _ _ _ (World.block_lt_of_cell? _ _ ((z3 HB.out an)))).trans ((z3 HB.out an))⟩ (fun hHeld=>?_);clear hK K;refine zn 44 ?_;refine zo 8 45 (bp 16 3) fun K hK=>?_;refine Kd.R_append_step Kd.string (w0:=w) w.heap.size (by rfl) (.tmp 37) (.tmp 44) 101 9 (.string ⟨#[]⟩) 16 rfl Tryz.underlying101 info9 rfl yd_ yo_ u3 aM ((qN ac ab).f0) [.string ((qN ac ab).f0)] (fun k_=>some k_≠(bs:Value).ownBlock) (fun _=>False) rfl rfl ?aP (fun _ hk=>hk.elim) ?aF ?aO ?aB ?aS ?aL ?_
     (case aP=>exact rfl)
     (case aB=>exact zb)
     (case aF=>exact(fun k_ hk=>Kd.fresh' (Kd.R_lt (zR ag.out)) k_ hk))
     (case aO=>exact(zR ad.out))
     (case aS=>exact(qF zb))
     (case aL=>have:=cx.out;omega)
     intro cP dI ho hb hg hat;rw[<-cy.out] at ho;replace ag:=zz (Kd.R_after (ok:=(fun _=>True)) (by(with_reducible repeat(first|apply Kd.R_alloc|apply Kd.R_drewN|apply Kd.R_drew));exact Kd.qT ag.out (fun _ hk=>⟨trivial,hk⟩)) hg hat);replace aa:=zz (zK aa hg (Kd.R_ne ad.out aa.out yd_));replace HB:=zz (hb);have aI:=zz (ho);clear ad;clear ho hb hg hat;obtain⟨bu,bv,ce⟩:=Kd.vA ag.out
     (first|subst ce|(injection ce with bo cf bq;have cg:=bo.symm;have ch:=bq.symm;clear bo cf bq;subst cg;subst ch))
     refine hK.out _ _ ⟨(qH aa.out 0).trans rfl,(qH aa.out 1).trans rfl,(qH aa.out 2).trans rfl,(qH aa.out 3).trans rfl,(z3 HB.out am),(z3 HB.out al),(z3 HB.out ak),(z3 HB.out ap),(z3 HB.out ao),(z3 HB.out an)⟩ (fun hHeld=>?_);clear hK K;refine zn 45 ?_;refine zo 16 53 (bp 17 2) fun K hK=>?_;refine zh Tryz.func134 #[.slice aZ ((qN ac ab).f1).length a0,.slice bu au.length bv] ?_;with_reducible refine(spec_l10Refs.calls k2 _ _ ((qN ac ab).f1) _ _ au aA _ ?s1 ?s2 ?s3 ?s4 bK.out).mono ?_
     (case s1=>exact zc a5.out)
     (case s2=>exact b4.out)
     (case s3=>repeat(first|exact(Kd.qM ag.out).2.2|(with_reducible refine Kd.C_alloc ?_ _)|(with_reducible refine Kd.C_drewN ?_ _)|(with_reducible refine Kd.C_drew ?_)))
     (case s4=>exact(Kd.qM ag.out).2.1)
     rintro e dJ ⟨dC,rfl,aj,hb⟩;refine⟨_,rfl,?_⟩;have aN:=zz (Kd.vC (Kd.R_new' (Kd.R_new' aj (Kd.R_lt (zR ag.out))) (Kd.R_lt (zR aI.out))) (qF zb));replace ag:=zz (Kd.R_elder' (zR ag.out) (Kd.R_base aj) hb);replace aI:=zz (Kd.R_elder' (zR aI.out) (Kd.R_base aj) hb);replace aa:=zz (zJ aa hb);replace HB:=zz (zv zb hb)
     (try clear hb)
     (try clear dK)
     (try clear hk)
     (try clear hi)
     (try clear aj)
     obtain⟨ci,cj,ck⟩:=Kd.vA aN.out
     (first|subst ck|(injection ck with bo cf bq;have cg:=bo.symm;have ch:=bq.symm;clear bo cf bq;subst cg;subst ch))
     refine hK.out _ _ ⟨(qH aa.out 0).trans rfl,(qH aa.out 1).trans rfl,(qH aa.out 2).trans rfl,(qH aa.out 3).trans rfl,(z3 HB.out am),(z3 HB.out al),(z3 HB.out ak),(z3 HB.out ap),(z3 HB.out ao),(z3 HB.out an)⟩ (fun hHeld=>?_);clear hK K;refine zn 53 ?_;refine zo 17 54 (bp 18 1) fun K hK=>?_;refine Kd.R_append_rows_step Kd.string (w0:=w) w.heap.size (by rfl) (.tmp 45) (.tmp 53) 101 9 (.string ⟨#[]⟩) 16 rfl Tryz.underlying101 info9 rfl yd_ yo_ cP bb aA _ _ _ (fun k_=>some k_≠(.slice bu au.length bv:Value).ownBlock/\some k_≠(.slice ci aA.length cj:Value).ownBlock) (fun _=>False) rfl rfl ?aO ?aR (fun _ _ h=>h) (fun _ h=>h.elim) ?aF ?aB ?aS ?aL ?_
     (case aR=>repeat(first|exact(Kd.qM aN.out).2.2|(with_reducible refine Kd.C_alloc ?_ _)|(with_reducible refine Kd.C_drewN ?_ _)|(with_reducible refine Kd.C_drew ?_)))
     (case aB=>exact zb)
     (case aF=>exact(fun k_ hk=>⟨Kd.fresh' (Kd.R_lt (zR ag.out)) k_ hk,Kd.fresh' (Kd.R_lt (zR aN.out)) k_ hk⟩))
     (case aO=>exact(zR aI.out))
     (case aS=>exact(qF zb))
     (case aL=>have:=cz.out;omega)
     intro dD dL ho hb hg hat;rw[<-cA.out] at ho;replace ag:=zz (Kd.R_after (ok:=(fun k_=>some k_≠(.slice ci aA.length cj:Value).ownBlock)) (by(with_reducible repeat(first|apply Kd.R_alloc|apply Kd.R_drewN|apply Kd.R_drew));exact Kd.qT ag.out (fun _ hk=>⟨hk.2,hk.1.2⟩)) hg hat);replace aa:=zz (zK aa hg (Kd.R_ne aI.out aa.out yd_));replace HB:=zz (hb);have cC:=zz (ho);clear aI;clear ho hb hg hat;refine hK.out _ _ ⟨(qH aa.out 0).trans rfl,(qH aa.out 1).trans rfl,(qH aa.out 2).trans rfl,(qH aa.out 3).trans rfl,(z3 HB.out am),(z3 HB.out al),(z3 HB.out ak),(z3 HB.out ap),(z3 HB.out ao),(z3 HB.out an)⟩ (fun hHeld=>?_);clear hK K;refine zn 54 ?_;refine zp 18 3 (bp 19 0) ?_;refine done_ (done_of HT_.out zk) ?_;try go_wp2
     go_roundg k2
     case measure=>exact yM2 bL cE
     case rel=>exact⟨(cd),(wrap64 (ab+1)),zr,H',⟨yM2 bL cE⟩,⟨by(with_reducible repeat(first|apply Kd.R_alloc|apply Kd.R_drewN|apply Kd.R_drew));exact Kd.qT cC.out (fun _ hk=>hk.1)⟩,⟨by(with_reducible repeat(first|apply Kd.R_alloc|apply Kd.R_drewN|apply Kd.R_drew));exact Kd.qT ag.out (fun _ hk=>hk.2)⟩,⟨zB aa.out⟩,⟨zb⟩⟩
end Go.Proofs.YtmdoobnlehkmpaaGreatDoor.Q
