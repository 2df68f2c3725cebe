import Derived.Test.YtmdoobnlehkmpaaGreatDoorA24
import Derived.Test.YtmdoobnlehkmpaaGreatDoorA17
set_option linter.unusedVariables false
set_option linter.unusedSimpArgs false
namespace Go.Proofs.YtmdoobnlehkmpaaGreatDoor.Q
open Go.RowKit W1 W2 W3
attribute [local go_sem] max2_int min2_int max_two min_two max_three min_three max_four min_four
attribute [local go_sem high] bl_leq bl_gtr bl_geq
set_option maxHeartbeats 8000000
set_option maxRecDepth 100000
namespace Ms
section
variable {α : Type} {d : Kd α} {e base g n cap : Nat} {ok : Nat → Prop} {W : World} {xs : List α} {y y' : α} {i : Int} {j : Nat} {u : Value}
theorem getD_set(xs:List α)(i:Nat)(y z:α)(h:i<xs.length):(xs.set i y).getD i z=y:=by
 rw[List.getD_eq_getElem?_getD,List.getElem?_set_self h]
 rfl
theorem put(z:α)(h:Kd.S d e W base ok (.slice (some ⟨g,0,none⟩) n cap) (xs.set i.toNat y))(h0:0≤i)(h1:i<n)(hj:j+1≤d.sz)(hM:∀okp c,d.M W base okp y c→d.M W base okp y' (c.take j++[u]++c.drop (j+1))):
 ∃u0,W.cell? ⟨g,i.toNat*d.sz+j,none⟩=some u0∧W.frozen? ⟨g,i.toNat*d.sz+j,none⟩=false∧qC (∀W',W'=W.setCell ⟨g,i.toNat*d.sz+j,none⟩ u→Kd.S d e W' base ok (.slice (some ⟨g,0,none⟩) n cap) (xs.set i.toNat y')∧W.grownBy W' (some g)):=by
 have hn:n=xs.length:=by have:=(Kd.S_reads' h).1;rwa [List.length_set] at this
 obtain⟨oki,c,hcl,hm,hcc,hf,ho,hH⟩:=Kd.S_elem h z i h0 h1
 rw[getD_set xs i.toNat y z (by omega)] at hm
 obtain⟨u0,hu⟩:∃u0,c[j]?=some u0:=⟨c[j]'(by omega),List.getElem?_eq_getElem (by omega)⟩
 refine⟨u0,hcc j u0 hu,hf j,⟨fun W' hW=>?_⟩⟩
 subst hW
 have hH2:Kd.H d e W base (fun k=>ok k∧¬False) (.slice (some ⟨g,0,none⟩) n cap) (xs.set i.toNat y) i oki c:=Kd.H_mono hH (fun k hk=>⟨hk,id⟩)
 obtain⟨r1,r2⟩:=Kd.S_seg (okg:=fun _=>False) hH2 h0 h1 (seg:=[u]) (j:=j) hj (hM oki c hm) (fun k hk=> .inl hk) (fun k hk=>hk.elim)
 rw[List.set_set] at r1
 exact⟨r1,r2⟩
end
end Ms
def laws_markWriteS.l0:Nat→List S54→Int→Int→Option (Int×List S54)
 |0,_,_,_=>none
 |k+1,x0,x1,x5=>if x5<(x0.length:Int) then((laws_markText.f k (wrap64 ((x1)+1))).bind fun t1=>(laws_markText.f k (wrap64 ((wrap64 ((x1)+1))+1))).bind fun t2=>(laws_markEntryS.f k (rd_T54 x0 x5).f3 (wrap64 ((wrap64 ((wrap64 ((x1)+1))+1))+1))).bind fun q3=>(laws_markText.f k (q3.1)).bind fun t4=>(laws_markWriteS.l0 k (x0.set x5.toNat ⟨x1,t1,t2,q3.2,t4,wrap64 ((q3.1)+1)⟩) (wrap64 ((wrap64 ((q3.1)+1))+1)) (wrap64 (x5+1)))) else some (x1,x0)
def laws_markWriteS.f(k:Nat)(l0:List S54)(a1:Int):Option (Int×List S54):=laws_markWriteS.l0 k l0 a1 0
theorem laws_markWriteS.calls(k:Nat)(P0_:Nat→Prop)(u:Value)(l0:List S54)(a1 r1:Int)(r2:List S54)(w0 w:World)(hB:Below w0.heap.size w0 w)(ho0:Kd.S k54 54 w w0.heap.size P0_ u l0)(h:laws_markWriteS.f k l0 a1=some (r1,r2))(hlen:l0.length<4611686018427387904):
 Calls Tryz.prog 19 #[u,.int .i64 a1] w fun e w'=>e= .returned (.int .i64 r1)∧Kd.S k54 54 w' w0.heap.size P0_ u r2∧Below w0.heap.size w0 w'∧Kept w w' P0_:=by
 unfold laws_markWriteS.f at h
 have H':=zz h
 obtain⟨A,cp,rfl⟩:=Kd.S_slice ho0
 have HO:=zz ho0
 have HB:=zz hB
 have HK:=zz (Kept.refl w P0_)
 have HL:=zz hlen
 clear h ho0 hB hlen
 go_enter Tryz.func19,Tryz.ntmps19
 go_wp2
 go_loopg[1,5] k (fun kq v1 v5 w'=>∃(X:List S54) (K x:Int),v1= .int .i64 K∧v5= .int .i64 x∧qC (laws_markWriteS.l0 kq X K x=some (r1,r2))∧qC (kq≤k∧0≤x∧X.length=l0.length)∧qC (Kd.S k54 54 w' w0.heap.size P0_ (.slice A l0.length cp) X)∧qC (Kept w w' P0_)∧qC (Below w0.heap.size w0 w'))
 case atStart=>exact⟨l0,a1,0,rfl,rfl,H',⟨⟨Nat.le_refl _,by omega,rfl⟩⟩,⟨zS HO.out⟩,⟨by repeat(first|exact HK.out|apply Kept.alloc|apply Kept.drewN|apply Kept.drew)⟩,⟨zb⟩⟩
 case round=>
  clear H' HO HK HB
  obtain⟨X,K,x,rfl,rfl,HA,HX,HO,HK,HB⟩:=hrel
  cases gk with
  |zero=>exact absurd HA.out (by simp[laws_markWriteS.l0])
  |succ k1=>
   have H:=HA.out
   clear HA
   simp only[laws_markWriteS.l0] at H
   by_cases c3:x<(l0.length:Int)
   case neg=>
    rw[if_neg (show¬x<(X.length:Int) by have:=HX.out.2.2;omega)] at H
    have c3b0:=z0 c3
    clear c3
    simp only[Option.some.injEq,Prod.mk.injEq] at H
    obtain⟨rfl,rfl⟩:=H
    go_wp2
    go_ret
    exact⟨rfl,zS HO.out,zb,by repeat(first|exact HK.out|apply Kept.alloc|apply Kept.drewN|apply Kept.drew)⟩
   rw[if_pos (show x<(X.length:Int) by have:=HX.out.2.2;omega)] at H
   have c3b0:=z1 c3
   replace H:=yf H
   obtain⟨t1,T1,H⟩:=H
   replace H:=yf H
   obtain⟨t2,T2,H⟩:=H
   replace H:=zf H
   obtain⟨⟨n3,m3⟩,T3,H⟩:=H
   replace T3:=zz T3
   dsimp only at H
   replace H:=yf H
   obtain⟨t4,T4,H⟩:=H
   have H':=zz H
   clear H
   have h0:0≤x:=HX.out.2.1
   have p0:=eq_true h0
   have q0:=eq_true c3
   have HC:=zz (And.intro h0 c3)
   clear h0 c3
   obtain⟨g,cp',eo,gb,gl,cl,hcl⟩:=Kd.R_form (Kd.S_R HO.out) (by have h1:=HC.out;have h2:=HX.out.2.2;omega)
   (first|cases eo|(injection eo with ea_ en_ ec_;(first|subst ea_|(injection ea_ with ea_;subst ea_));subst ec_;clear en_))
   have GB:=zz gb
   have GP:=zz ((Kd.S_R HO.out).1 g rfl)
   have HXW:=zz (show wrap64 (x+1)=x+1 from by have h1:=HC.out;have h2:=HL.out;simp[wrap64,IntKind.wrap];omega)
   clear gb gl hcl
   obtain⟨y,hy⟩:∃y,y=rd_T54 X x:=⟨_,rfl⟩
   rw[←hy] at T3
   have HO:=zz (show Kd.S k54 54 _ w0.heap.size P0_ (.slice (some ⟨g,0,none⟩) l0.length cp) (X.set x.toNat y) from by
    have e:X.set x.toNat y=X:=by
     rw[hy]
     show X.set x.toNat (X.getD x.toNat z54)=X
     rw[List.getD_eq_getElem?_getD,List.getElem?_eq_getElem (show x.toNat<X.length by have h1:=HC.out;have h2:=HX.out.2.2;omega)]
     exact List.set_getElem_self _
    rw[e]
    exact HO.out)
   clear hy
   rename World=>wr_
   obtain⟨u0,hx0,hf0,HP0⟩:=Ms.put (j:=0) (y':=(⟨K,y.f1,y.f2,y.f3,y.f4,y.f5⟩:S54)) (u:= .int .i64 K) z54 HO.out HC.out.1 HC.out.2 (by decide) (fun okp c hM=>by obtain⟨v3,rfl,g3⟩:=k54_openM hM;exact k54_mkM _ _ _ (⟨K,y.f1,y.f2,y.f3,y.f4,y.f5⟩:S54) g3);replace hx0:wr_.cell? ⟨g,x.toNat*6,none⟩=some u0:=hx0;replace hf0:wr_.frozen? ⟨g,x.toNat*6,none⟩=false:=hf0
   go_wp2_with(first|((with_reducible refine qQ (t:=2) (p:=16) rfl ?_);refine qN (t:=2) (p:=16) (v:=?vo0) (w1:=(wr_.setCell ⟨g,x.toNat*6,none⟩ (.int .i64 K))) ?hg ?ho ?hn ?hr ?_;(case ho=>rfl);(case hg=>rfl);(case hn=>rfl);(case hr=>first|(go_simp;done)|(go_simp;rfl));intro w1_ hw;have hp:=HP0.out w1_ hw;replace HO:=zz hp.1;replace HK:=zz (Kept.of_grown hp.2 HK.out (fun k h=> .inl (by injection h with h;rw[←h];exact GP.out)));replace HB:=zz (show Below w0.heap.size w0 w1_ from by rw[hw];exact qJ HB.out GB.out);clear hp hw hx0 hf0 HP0)|(refine zL 64 22 Tryz.func64 #[.int .i64 (wrap64 (K+1))] ?_;(with_reducible refine(laws_markText.calls k1 (wrap64 (K+1)) t1 _ T1.out).mono ?_);rintro e w2_ ⟨rfl,hb⟩;refine⟨_,rfl,?_⟩;replace HO:=zz (Kd.S_below (zS HO.out) hb);replace HK:=zz (Kept.below (by repeat(first|exact HK.out|apply Kept.alloc|apply Kept.drewN|apply Kept.drew)) hb);replace HB:=zz (zv zb hb);clear hb;obtain⟨u1,hx1,hf1,HP1⟩:=Ms.put (j:=1) (y':=(⟨K,t1,y.f2,y.f3,y.f4,y.f5⟩:S54)) (u:= .string t1) z54 HO.out HC.out.1 HC.out.2 (by decide) (fun okp c hM=>by obtain⟨v3,rfl,g3⟩:=k54_openM hM;exact k54_mkM _ _ _ (⟨K,t1,y.f2,y.f3,y.f4,y.f5⟩:S54) g3);replace hx1:w2_.cell? ⟨g,x.toNat*6+1,none⟩=some u1:=hx1;replace hf1:w2_.frozen? ⟨g,x.toNat*6+1,none⟩=false:=hf1)|((with_reducible refine qQ (t:=9) (p:=24) rfl ?_);refine qN (t:=9) (p:=24) (v:=?vo1) (w1:=(w2_.setCell ⟨g,x.toNat*6+1,none⟩ (.string t1))) ?hg ?ho ?hn ?hr ?_;(case ho=>rfl);(case hg=>rfl);(case hn=>rfl);(case hr=>first|(go_simp;done)|(go_simp;rfl));intro w3_ hw;have hp:=HP1.out w3_ hw;replace HO:=zz hp.1;replace HK:=zz (Kept.of_grown hp.2 HK.out (fun k h=> .inl (by injection h with h;rw[←h];exact GP.out)));replace HB:=zz (show Below w0.heap.size w0 w3_ from by rw[hw];exact qJ HB.out GB.out);clear hp hw hx1 hf1 HP1)|(refine zL 64 30 Tryz.func64 #[.int .i64 (wrap64 ((wrap64 (K+1))+1))] ?_;(with_reducible refine(laws_markText.calls k1 (wrap64 ((wrap64 (K+1))+1)) t2 _ T2.out).mono ?_);rintro e w4_ ⟨rfl,hb⟩;refine⟨_,rfl,?_⟩;replace HO:=zz (Kd.S_below (zS HO.out) hb);replace HK:=zz (Kept.below (by repeat(first|exact HK.out|apply Kept.alloc|apply Kept.drewN|apply Kept.drew)) hb);replace HB:=zz (zv zb hb);clear hb;obtain⟨u2,hx2,hf2,HP2⟩:=Ms.put (j:=2) (y':=(⟨K,t1,t2,y.f3,y.f4,y.f5⟩:S54)) (u:= .string t2) z54 HO.out HC.out.1 HC.out.2 (by decide) (fun okp c hM=>by obtain⟨v3,rfl,g3⟩:=k54_openM hM;exact k54_mkM _ _ _ (⟨K,t1,t2,y.f3,y.f4,y.f5⟩:S54) g3);replace hx2:w4_.cell? ⟨g,x.toNat*6+2,none⟩=some u2:=hx2;replace hf2:w4_.frozen? ⟨g,x.toNat*6+2,none⟩=false:=hf2)|((with_reducible refine qQ (t:=9) (p:=32) rfl ?_);refine qN (t:=9) (p:=32) (v:=?vo2) (w1:=(w4_.setCell ⟨g,x.toNat*6+2,none⟩ (.string t2))) ?hg ?ho ?hn ?hr ?_;(case ho=>rfl);(case hg=>rfl);(case hn=>rfl);(case hr=>first|(go_simp;done)|(go_simp;rfl));intro w5_ hw;have hp:=HP2.out w5_ hw;replace HO:=zz hp.1;replace HK:=zz (Kept.of_grown hp.2 HK.out (fun k h=> .inl (by injection h with h;rw[←h];exact GP.out)));replace HB:=zz (show Below w0.heap.size w0 w5_ from by rw[hw];exact qJ HB.out GB.out);clear hp hw hx2 hf2 HP2;obtain⟨oki,c,hcl,hM,hcc,hoki,hH⟩:=Kd.S_lend HO.out z54 x HC.out.1 HC.out.2;rw[Ms.getD_set X x.toNat _ z54 (by have h1:=HC.out;have h2:=HX.out.2.2;omega)] at hM;obtain⟨v3,rfl,g3⟩:=k54_openM hM;obtain⟨A3,c3,rfl⟩:=Kd.qZ g3;have hx3:w5_.cell? ⟨g,x.toNat*6+3,none⟩=some (.slice A3 (y.f3).length c3):=hcc 3 _ rfl;have HH:=zz hH;have HOK:=zz hoki;have G3:=zz g3;clear hcl hM hcc hoki hH g3)|(refine zL 18 41 Tryz.func18 #[.slice A3 (y.f3).length c3,.int .i64 (wrap64 ((wrap64 ((wrap64 (K+1))+1))+1))] ?_;(with_reducible refine(laws_markEntryS.calls k1 (fun k=>some k=(.slice A3 (y.f3).length c3:Value).ownBlock) _ y.f3 (wrap64 ((wrap64 ((wrap64 (K+1))+1))+1)) n3 m3 w0 _ HB.out (Kd.R_tight rfl G3.out) T3.out).mono ?_);rintro e w6_ ⟨rfl,ho,hb,hk⟩;refine⟨_,rfl,?_⟩;replace HO:=zz (show Kd.S k54 54 w6_ w0.heap.size P0_ (.slice (some ⟨g,0,none⟩) l0.length cp) (X.set x.toNat (⟨K,t1,t2,m3,y.f4,y.f5⟩:S54)) from by have h3:=Kd.H_back (Kd.H_kept HH.out hk (fun k h1 h2 h3=>h2 (G3.out.1 k h3.symm))) (k54_mkM w6_ _ _ (⟨K,t1,t2,m3,y.f4,y.f5⟩:S54) (Kd.vC (Kd.R_tight rfl ho) (fun k hk=>G3.out.1 k hk.symm))) (fun _ h=>h);rwa [List.set_set] at h3);replace HK:=zz (Kept.then_ HK.out hk (fun k h=> .inl (HOK.out k (G3.out.1 k h.symm)).1));replace HB:=zz hb;clear ho hb hk hx3 HH HOK G3)|(refine zL 64 45 Tryz.func64 #[.int .i64 n3] ?_;(with_reducible refine(laws_markText.calls k1 n3 t4 _ T4.out).mono ?_);rintro e w7_ ⟨rfl,hb⟩;refine⟨_,rfl,?_⟩;replace HO:=zz (Kd.S_below (zS HO.out) hb);replace HK:=zz (Kept.below (by repeat(first|exact HK.out|apply Kept.alloc|apply Kept.drewN|apply Kept.drew)) hb);replace HB:=zz (zv zb hb);clear hb;obtain⟨u4,hx4,hf4,HP4⟩:=Ms.put (j:=4) (y':=(⟨K,t1,t2,m3,t4,y.f5⟩:S54)) (u:= .string t4) z54 HO.out HC.out.1 HC.out.2 (by decide) (fun okp c hM=>by obtain⟨v3,rfl,g3⟩:=k54_openM hM;exact k54_mkM _ _ _ (⟨K,t1,t2,m3,t4,y.f5⟩:S54) g3);replace hx4:w7_.cell? ⟨g,x.toNat*6+4,none⟩=some u4:=hx4;replace hf4:w7_.frozen? ⟨g,x.toNat*6+4,none⟩=false:=hf4)|((with_reducible refine qQ (t:=9) (p:=47) rfl ?_);refine qN (t:=9) (p:=47) (v:=?vo4) (w1:=(w7_.setCell ⟨g,x.toNat*6+4,none⟩ (.string t4))) ?hg ?ho ?hn ?hr ?_;(case ho=>rfl);(case hg=>rfl);(case hn=>rfl);(case hr=>first|(go_simp;done)|(go_simp;rfl));intro w8_ hw;have hp:=HP4.out w8_ hw;replace HO:=zz hp.1;replace HK:=zz (Kept.of_grown hp.2 HK.out (fun k h=> .inl (by injection h with h;rw[←h];exact GP.out)));replace HB:=zz (show Below w0.heap.size w0 w8_ from by rw[hw];exact qJ HB.out GB.out);clear hp hw hx4 hf4 HP4;obtain⟨u5,hx5,hf5,HP5⟩:=Ms.put (j:=5) (y':=(⟨K,t1,t2,m3,t4,(wrap64 (n3+1))⟩:S54)) (u:= .int .i64 (wrap64 (n3+1))) z54 HO.out HC.out.1 HC.out.2 (by decide) (fun okp c hM=>by obtain⟨v3,rfl,g3⟩:=k54_openM hM;exact k54_mkM _ _ _ (⟨K,t1,t2,m3,t4,(wrap64 (n3+1))⟩:S54) g3);replace hx5:w8_.cell? ⟨g,x.toNat*6+5,none⟩=some u5:=hx5;replace hf5:w8_.frozen? ⟨g,x.toNat*6+5,none⟩=false:=hf5)|((with_reducible refine qQ (t:=2) (p:=54) rfl ?_);refine qN (t:=2) (p:=54) (v:=?vo5) (w1:=(w8_.setCell ⟨g,x.toNat*6+5,none⟩ (.int .i64 (wrap64 (n3+1))))) ?hg ?ho ?hn ?hr ?_;(case ho=>rfl);(case hg=>rfl);(case hn=>rfl);(case hr=>first|(go_simp;done)|(go_simp;rfl));intro w9_ hw;have hp:=HP5.out w9_ hw;replace HO:=zz hp.1;replace HK:=zz (Kept.of_grown hp.2 HK.out (fun k h=> .inl (by injection h with h;rw[←h];exact GP.out)));replace HB:=zz (show Below w0.heap.size w0 w9_ from by rw[hw];exact qJ HB.out GB.out);clear hp hw hx5 hf5 HP5))
   go_roundg k1
   case measure=>have:=HX.out.1;omega
   case rel=>exact⟨X.set x.toNat (⟨K,t1,t2,m3,t4,(wrap64 (n3+1))⟩:S54),(wrap64 ((wrap64 (n3+1))+1)),wrap64 (x+1),rfl,rfl,H',⟨⟨by have:=HX.out.1;omega,by have h1:=HXW.out;have h2:=HC.out;omega,by rw[List.length_set];exact HX.out.2.2⟩⟩,⟨zS HO.out⟩,⟨(by repeat(first|exact HK.out|apply Kept.alloc|apply Kept.drewN|apply Kept.drew))⟩,⟨zb⟩⟩
mutual
def spec_l12Add.j0:Nat→List (S103)→ByteArray→Int→Bool→Option ((List (S103))×Int)
 |0,_,_,_,_=>none
 |k+1,x0,x1,ac,ad=>if ad=true then(some (([]:List (S103)),1)) else(if ac≥0 then(some (([]:List (S103)),2)) else(spec_l12Add.l0 k x0 x1 0))
def spec_l12Add.l0:Nat→List (S103)→ByteArray→Int→Option ((List (S103))×Int)
 |0,_,_,_=>none
 |k+1,x0,x1,aa=>if aa<(x0.length:Int) then(if 0≤aa then((spec_l10Refs.f k ((qE x0 aa).f4) (([x1]:List ByteArray))).bind fun ab=>(if(ab.length:Int)>0 then(some (([]:List (S103)),3)) else(spec_l12Add.l0 k x0 x1 (wrap64 (aa+1))))) else(none)) else(if(x0.length:Int)=300 then(some (([]:List (S103)),4)) else(some (([]:List (S103)),0)))
end
def spec_l12Add.f0(k:Nat)(l0:List (S103))(a1:ByteArray)(l2:List (S87))(a3:ByteArray):Option ((List (S103))×Int):=(spec_TreeSum.f k l2).bind fun ab=>((spec_l12Find.f k l0 a1).bind fun aa=>(if aa≥0 then(if 0≤aa then(if aa<(l0.length:Int) then(spec_l12Add.j0 k l0 a1 aa (((qE l0 aa).f1).toList==ab.toList)) else(none)) else(none)) else(spec_l12Add.j0 k l0 a1 aa false)))
def spec_l12Add.f(k:Nat)(l0:List (S103))(a1:ByteArray)(l2:List (S87))(a3:ByteArray):Option ((List (S103))×Int):=(spec_l12Paths.f k l0).bind fun ps_=>(if ps_.length<4398046511104 then((spec_l10Refs.f k l2 (ps_++[a1])).bind fun rs_=>(if l0.length<1000000000000 then(spec_l12Add.f0 k l0 a1 l2 a3) else(none))) else(none))
namespace Sh
abbrev T:=ByteArray×ByteArray×(Option Addr×Nat×Nat)×ByteArray×(Option Addr×Nat×Nat)
def sl:Kd (Option Addr×Nat×Nat):=Kd.scalar (fun p=> .slice p.1 p.2.1 p.2.2) (fun _=>rfl)
def k:Kd T:=Kd.pair Kd.string (Kd.pair Kd.string (Kd.pair sl (Kd.pair Kd.string sl)))
theorem mk{w:World}{base:Nat}{ok:Nat→Prop}(a b d:ByteArray)(c e:Option Addr×Nat×Nat):k.M w base ok (a,b,c,d,e) [.string a,.string b,.slice c.1 c.2.1 c.2.2,.string d,.slice e.1 e.2.1 e.2.2]:=
 ⟨[_],_,rfl,rfl,[_],_,rfl,rfl,[_],_,rfl,rfl,[_],_,rfl,rfl,rfl⟩
theorem far{P Q:Prop}(q:Q)(f:Q→P:=by intro q;(repeat(first|(with_reducible exact q)|(with_reducible apply Kd.R_far)));all_goals exact fun _ hk=>hk):P:=f q
end Sh
theorem spec_l12Add.calls(k:Nat)(A0:Option Addr)(c0:Nat)(l0:List (S103))(a1:ByteArray)(A2:Option Addr)(c2:Nat)(l2:List (S87))(a3:ByteArray)(r1:List (S103))(r2:Int)(w:World)(bF:Kd.C k103 w A0 l0.length l0)(bG:l0.length≤c0)(bH:Kd.C k87 w A2 l2.length l2)(bI:l2.length≤c2)(h:spec_l12Add.f k l0 a1 l2 a3=some (r1,r2)):
 Calls Tryz.prog 78 #[.slice A0 l0.length c0,.string a1,.slice A2 l2.length c2,.string a3] w fun e w'=>∃cj:Value,e= .returned (.tuple #[cj,.int .i64 r2])∧Below w.heap.size w w':=by
 have a6:=zz bF
 have bJ:=zz bG
 clear bF bG
 have bK:=zz bH
 have bL:=zz bI
 clear bH bI
 have HB:=yB w
 unfold spec_l12Add.f at h
 replace h:=zf h
 obtain⟨ps_,hp_,h⟩:=h
 have TP:=zz hp_
 replace h:=yA h
 obtain⟨hl_,h⟩:=h
 replace h:=zf h
 obtain⟨rs_,hr_,h⟩:=h
 have TR:=zz hr_
 replace h:=yA h
 obtain⟨hm_,h⟩:=h
 have TL:=zz (And.intro hl_ hm_)
 clear hp_ hl_ hr_ hm_
 unfold spec_l12Add.f0 at h
 have H:=h
 clear h
 replace H:=zf H
 obtain⟨am,bM,H⟩:=H
 try dsimp only at H
 have A5:=zz bM
 clear bM
 replace H:=zf H
 obtain⟨az,bN,H⟩:=H
 try dsimp only at H
 have A6:=zz bN
 clear bN
 have bq:=zz H
 clear H
 go_enter Tryz.func78,Tryz.ntmps78
 go_upto_region 3 with(first|(refine zL 133 18 Tryz.func133 #[.slice A2 l2.length c2] ?_;(with_reducible refine(spec_TreeSum.calls k _ _ l2 am _ ?s1 ?s2 A5.out).mono ?_);(case s1=>exact zd bK.out);(case s2=>exact bL.out);rintro e w8 ⟨rfl,hb⟩;refine⟨_,rfl,?_⟩;replace HB:=zz (zv zb hb);(try clear hb);(try clear bO);(try clear hk);(try clear hi))|(refine zL 92 21 Tryz.func92 #[.slice A0 l0.length c0,.string a1] ?_;(with_reducible refine(spec_l12Find.calls k _ _ l0 a1 az _ ?s1 ?s2 A6.out).mono ?_);(case s1=>exact zc a6.out);(case s2=>exact bJ.out);rintro e w' ⟨rfl,⟨nd,rfl⟩⟩;refine⟨_,rfl,?_⟩))
 (try simp only[Act.put,List.setIfInBounds_toArray,List.set_cons_zero,List.set_cons_succ])
 go_cut [32] (fun ck wc=>∃(kq:Nat) (aU:Bool),ck= .bool aU∧qC (spec_l12Add.j0 kq l0 a1 az aU=some (r1,r2))∧qC (kq≤k)∧qC (Below w.heap.size w wc))
 case first=>
  have H:=bq.out
  clear bq
  by_cases c9:az≥0
  ·rw[if_pos c9] at H
   have aH:=zge c9
   clear c9
   (first|rw[aH]|(simp only[i64_w,i32_w];rw[aH])|skip)
   by_cases a7:0≤az
   ·rw[if_pos a7] at H
    have bh:=z1 a7
    clear a7
    by_cases a8:az<(l0.length:Int)
    ·rw[if_pos a8] at H
     have bi:=z1 a8
     clear a8
     have H':=zz H
     clear H
     have aW:0≤(az:Int):=z2
     have aX:az<(l0.length:Int):=z2
     obtain⟨cv,cm,cn,co,cp,bY,aA,aC,aD,aE,aG,a9,ba,bb,bc⟩:=at_T103 a6.out az aW aX
     cases bY
     replace aA:=z3 HB.out aA
     replace aC:=z3 HB.out aC
     replace aD:=z3 HB.out aD
     replace aE:=z3 HB.out aE
     replace aG:=z3 HB.out aG
     have cf:=zz ba
     have cg:=zz a9
     clear ba a9
     have ch:=zz bc
     have ci:=zz bb
     clear bc bb
     replace aW:=eq_true aW
     replace aX:=eq_true aX
     go_wp2
     go_meet
     case rel=>exact⟨_,((((qE l0 az).f1).toList==am.toList)),zr,H',⟨by first|omega|exact Nat.le_refl _⟩,⟨zb⟩⟩
    ·rw[if_neg a8] at H
     exact absurd H (by simp)
   ·rw[if_neg a7] at H
    exact absurd H (by simp)
  ·rw[if_neg c9] at H
   have aH:=zgen c9
   clear c9
   (first|rw[aH]|(simp only[i64_w,i32_w];rw[aH])|skip)
   have H':=zz H
   clear H
   go_wp2
   go_meet
   case rel=>exact⟨_,(false),zr,H',⟨by first|omega|exact Nat.le_refl _⟩,⟨zb⟩⟩
 case rest=>
  clear bq
  try clear c1
  try clear c2
  try clear p2
  try clear c3
  try clear p3
  try clear q3
  try clear bj
  try clear c7
  try clear c9
  try clear aH
  try clear a7
  try clear bh
  try clear a8
  try clear bi
  try clear aA
  try clear aC
  try clear aD
  try clear aE
  try clear aG
  try clear aW
  try clear aX
  obtain⟨kq,aU,rfl,HA,bP,HB⟩:=hcut
  cases kq with
  |zero=>exact absurd HA.out (by simp[spec_l12Add.j0])
  |succ bQ=>
   have H:=HA.out
   clear HA
   simp only[spec_l12Add.j0] at H
   by_cases be:aU=true
   ·subst be
    rw[if_pos rfl] at H
    simp only[Option.some.injEq,Prod.mk.injEq] at H
    obtain⟨rfl,rfl⟩:=H
    go_wp2
    go_ret2
    exact⟨_,ze,zb⟩
   replace be:=Bool.eq_false_iff.mpr be
   subst be
   rw[if_neg (show¬(false=true) by decide)] at H
   refine yE H ?_ ?_<;>clear H<;>intro bz H
   ·simp only[Option.some.injEq,Prod.mk.injEq] at H
    obtain⟨rfl,rfl⟩:=H
    go_wp2
    go_ret2
    exact⟨_,ze,zb⟩
   have H':=zz H
   clear H
   go_wp2
   go_loopg[12] bQ (fun kq cq w'=>∃(aa:Int),cq= .int .i64 aa∧qC (spec_l12Add.l0 kq l0 a1 aa=some (r1,r2))∧qC (kq≤bQ)∧qC (Below w.heap.size w w'))
   case atStart=>exact⟨(0),zr,H',⟨Nat.le_refl _⟩,⟨zb⟩⟩
   case round=>
    clear H'
    try clear c1
    try clear c2
    try clear p2
    try clear c3
    try clear p3
    try clear q3
    try clear bj
    try clear c7
    try clear c9
    try clear aH
    try clear a7
    try clear bh
    try clear a8
    try clear bi
    try clear be
    try clear cC
    try clear bz
    try clear aA
    try clear aC
    try clear aD
    try clear aE
    try clear aG
    try clear p2
    try clear p3
    try clear aW
    try clear q3
    try clear aX
    obtain⟨aa,rfl,HA,bR,HB⟩:=hrel
    cases gk with
    |zero=>exact absurd HA.out (by simp[spec_l12Add.l0])
    |succ k2=>
     have H:=HA.out
     clear HA
     simp only[spec_l12Add.l0] at H
     refine yD H ?_ ?_<;>clear H<;>intro cw H
     ·replace H:=yAD H
      obtain⟨cx,H⟩:=H
      obtain⟨aY,aI⟩:∃y_:List ByteArray,y_=(([a1]:List ByteArray)):=⟨_,rfl⟩
      replace H:((spec_l10Refs.f k2 ((qE l0 aa).f4) aY).bind fun aQ=>(if(aQ.length:Int)>0 then(some (([]:List (S103)),3)) else(spec_l12Add.l0 k2 l0 a1 (wrap64 (aa+1)))))=some (r1,r2):=by first|(rw[aI];with_reducible exact H)|(have br:=(Option.bind_some _ _).symm.trans H;rw[aI];with_reducible exact br)|(have br:=(Option.bind_some _ _).symm.trans H;with_reducible exact br)|with_reducible exact H|(rw[aI];exact H)|exact H
      have aV:=zz aI
      clear aI
      replace H:=zf H
      obtain⟨aQ,bs,H⟩:=H
      try dsimp only at H
      have bS:=zz bs
      clear bs
      refine yC H ?_ ?_<;>clear H<;>intro bk H
      ·have bA:=zgt bk
       have bB:decide (0<aQ.length)=true:=z1 (by omega)
       clear bk
       simp only[Option.some.injEq,Prod.mk.injEq] at H
       obtain⟨rfl,rfl⟩:=H
       have bZ:=yt (0≤(aa:Int))
       have b0:=yt (aa<(l0.length:Int))
       obtain⟨bC,bu,bv,aZ,a0,bg,an,ao,ap,ar,au,av,aw,ax,ay⟩:=at_T103 a6.out aa z2 z2
       cases bg
       replace an:=z3 HB.out an
       replace ao:=z3 HB.out ao
       replace ap:=z3 HB.out ap
       replace ar:=z3 HB.out ar
       replace au:=z3 HB.out au
       have bn:=zz aw
       have bo:=zz av
       clear aw av
       have aR:=zz ay
       have aT:=zz ax
       clear ay ax
       go_wp2_with(first|(refine zN 49 ?_;refine Kd.R_lit Kd.string _ 9 ?hg (N:=49) ?hd (xs:=([a1]:List ByteArray)) (inner:=[.string a1]) (ok:=fun _=>True) (okp:=fun _=>True) ?hr ?hp (fun _ hk=>hk) trivial (Below.refl _ _) (Nat.le_refl _) (by simp) ?_;(case hd=>rfl);(case hg=>rfl);(case hr=>first|(go_simp;done)|(go_simp;rfl));(case hp=>exact(Reps.one (show Kd.M Kd.string _ _ _ a1 [.string a1] from rfl) (Reps.none _ _)));intro b1 cD a2 hb hg_ hnew_;clear hg_ hnew_;(first|rw[←aV.out] at a2|(simp only[Int.reduceToNat] at a2;rw[←aV.out] at a2));have al:=zz (Kd.qY a2 (qF zb));replace HB:=zz (zv zb hb);clear hb a2;obtain⟨b2,b3,b4⟩:=Kd.qZ al.out;subst b4)|(refine zL 134 50 Tryz.func134 #[.slice aZ ((qE l0 aa).f4).length a0,.slice b2 aY.length b3] ?_;(with_reducible refine(spec_l10Refs.calls k2 _ _ ((qE l0 aa).f4) _ _ aY aQ _ ?s1 ?s2 ?s3 ?s4 bS.out).mono ?_);(case s1=>exact zc aR.out);(case s2=>exact aT.out);(case s3=>repeat(first|exact(Kd.qM al.out).2.2|(with_reducible refine Kd.C_alloc ?_ _)|(with_reducible refine Kd.C_drewN ?_ _)|(with_reducible refine Kd.C_drew ?_)));(case s4=>exact(Kd.qM al.out).2.1);rintro e cE ⟨b5,rfl,a4,hb⟩;refine⟨_,rfl,?_⟩;have bd:=zz (Kd.qY (Kd.R_new' a4 (Kd.R_lt (zR al.out))) (qF zb));replace al:=zz (Kd.R_elder' (zR al.out) (Kd.R_base a4) hb);replace HB:=zz (zv zb hb);(try clear hb);(try clear bO);(try clear hk);(try clear hi);(try clear a4);obtain⟨cy,cz,b6⟩:=Kd.qZ bd.out;subst b6))
       go_ret2
       exact⟨_,ze,zb⟩
      have bA:=zgtn bk
      have bB:decide (0<aQ.length)=false:=z0 (by omega)
      clear bk
      have H':=zz H
      clear H
      have bZ:=yt (0≤(aa:Int))
      have b0:=yt (aa<(l0.length:Int))
      obtain⟨bC,bu,bv,aZ,a0,bg,an,ao,ap,ar,au,av,aw,ax,ay⟩:=at_T103 a6.out aa z2 z2
      cases bg
      replace an:=z3 HB.out an
      replace ao:=z3 HB.out ao
      replace ap:=z3 HB.out ap
      replace ar:=z3 HB.out ar
      replace au:=z3 HB.out au
      have bn:=zz aw
      have bo:=zz av
      clear aw av
      have aR:=zz ay
      have aT:=zz ax
      clear ay ax
      go_wp2_with(first|(refine zN 49 ?_;refine Kd.R_lit Kd.string _ 9 ?hg (N:=49) ?hd (xs:=([a1]:List ByteArray)) (inner:=[.string a1]) (ok:=fun _=>True) (okp:=fun _=>True) ?hr ?hp (fun _ hk=>hk) trivial (Below.refl _ _) (Nat.le_refl _) (by simp) ?_;(case hd=>rfl);(case hg=>rfl);(case hr=>first|(go_simp;done)|(go_simp;rfl));(case hp=>exact(Reps.one (show Kd.M Kd.string _ _ _ a1 [.string a1] from rfl) (Reps.none _ _)));intro b1 cF a5 hb hg_ hnew_;clear hg_ hnew_;(first|rw[←aV.out] at a5|(simp only[Int.reduceToNat] at a5;rw[←aV.out] at a5));have al:=zz (Kd.qY a5 (qF zb));replace HB:=zz (zv zb hb);clear hb a5;obtain⟨b7,b8,b9⟩:=Kd.qZ al.out;subst b9)|(refine zL 134 50 Tryz.func134 #[.slice aZ ((qE l0 aa).f4).length a0,.slice b7 aY.length b8] ?_;(with_reducible refine(spec_l10Refs.calls k2 _ _ ((qE l0 aa).f4) _ _ aY aQ _ ?s1 ?s2 ?s3 ?s4 bS.out).mono ?_);(case s1=>exact zc aR.out);(case s2=>exact aT.out);(case s3=>repeat(first|exact(Kd.qM al.out).2.2|(with_reducible refine Kd.C_alloc ?_ _)|(with_reducible refine Kd.C_drewN ?_ _)|(with_reducible refine Kd.C_drew ?_)));(case s4=>exact(Kd.qM al.out).2.1);rintro e cG ⟨b5,rfl,a4,hb⟩;refine⟨_,rfl,?_⟩;have bd:=zz (Kd.qY (Kd.R_new' a4 (Kd.R_lt (zR al.out))) (qF zb));replace al:=zz (Kd.R_elder' (zR al.out) (Kd.R_base a4) hb);replace HB:=zz (zv zb hb);(try clear hb);(try clear bO);(try clear hk);(try clear hi);(try clear a4);obtain⟨cA,cB,ca⟩:=Kd.qZ bd.out;subst ca))
      go_roundg k2
      case measure=>have:=bP.out;have:=bR.out;omega
      case rel=>exact⟨(wrap64 (aa+1)),zr,H',⟨by have:=bP.out;have:=bR.out;omega⟩,⟨zb⟩⟩
     refine yCn H ?_ ?_<;>clear H<;>intro bw H
     ·obtain⟨bD,bE⟩:=zw bw
      simp only[Option.some.injEq,Prod.mk.injEq] at H
      obtain⟨rfl,rfl⟩:=H
      go_wp2_with(first|(refine zN 58 ?_;refine Kd.R_lit Sh.k _ 103 ?hg (N:=58) ?hd (xs:=([]:List Sh.T)) (inner:=[]) (ok:=fun _=>True) (okp:=fun _=>True) ?hr ?hp (fun _ hk=>hk) trivial (Below.refl _ _) (Nat.le_refl _) (by simp) ?_;(case hd=>rfl);(case hg=>rfl);(case hr=>first|(go_simp;done)|(go_simp;rfl));(case hp=>exact(Reps.none _ _));intro vo_ wo_ ho hb hg_ hnew_;clear hg_ hnew_;have HO:=zz (Kd.qY ho (qF zb));replace HB:=zz (zv zb hb);clear hb ho)|(refine zN 14 ?_;refine zX 14 103 #[.string (⟨#[]⟩:ByteArray),.string (⟨#[]⟩:ByteArray),.slice none 0 0,.string (⟨#[]⟩:ByteArray),.slice none 0 0] ?_;intro gb_ hg wb_ hbox hb;have bf:=Kd.vC (ok':=fun k_=>k_≠gb_) (Kd.R_bound HO.out) (fun k_ hk=>by rw[hg];exact Nat.ne_of_lt hk.2.2.1);replace HO:=zz (Kd.R_below bf hb);have GW:=zz ((zg:w.heap.size≤gb_));have BK:=zz hbox;replace HB:=zz (zv zb hb);clear hb hbox hg bf;obtain⟨ab,ac,ad,ae,af,ag,ah,ai,aj,ak⟩:=zc5 BK.out)|(refine zL 135 66 Tryz.func135 #[.slice A0 l0.length c0] ?_;(with_reducible refine(spec_l12Paths.calls k _ _ l0 ps_ _ ?s1 ?s2 TP.out).mono ?_);(case s1=>exact zC a6.out);(case s2=>exact bJ.out);rintro e wc_ ⟨vp_,rfl,ho,hb⟩;refine⟨_,rfl,?_⟩;have HP:=zz (Kd.qY ho (qF zb));have bT:wc_.heap[gb_]?=some (.cells #[.string a1,.string am,.slice none 0 0,.string a3,.slice A2 l2.length c2] 103 (0,0)):=qS (yP BK.out) hb;have bf:Kd.R Sh.k 103 wc_ w.heap.size (fun k_=>k_≠gb_) vo_ []:=Kd.R_below (Sh.far HO.out) hb;replace HB:=zz (zv zb hb);clear HO BK hb ho ab ac ad ae af ag ah ai aj ak;have HO:=zz bf;have BK:=zz bT;clear bf bT)|((with_reducible refine qT (b:= .append) (xs:= #[.tmp 66,.tmp 68]) rfl ?_);at_builtin;refine Kd.R_append Kd.string (w0:=w) w.heap.size rfl (.tmp 66) (.tmp 68) 101 9 (.string ⟨#[]⟩) 16 rfl Tryz.underlying101 info9 rfl (by decide) (by omega) vp_ ps_ a1 [.string a1] (fun _=>True) (fun _=>False) rfl rfl ?aP (fun _ hk=>hk.elim) ?aF ?aO ?aB ?aS ?aL ?_;(case aP=>exact rfl);(case aB=>exact zb);(case aF=>exact(fun _ _=>trivial));(case aO=>exact(zR HP.out));(case aS=>exact(qF zb));(case aL=>have:=TL.out.1;omega);intro va_ wa_ ho hb hg hat;replace BK:=zz (zK BK hg (Kd.R_ne HP.out BK.out (by decide)));replace HO:=zz (Kd.R_over' (zR HO.out) (Kd.R_typed (zR HP.out)) (by decide) hg);replace HB:=zz hb;clear HP;have HP:=zz ho;clear ho hb hg hat;obtain⟨Ap_,cp_,ep_⟩:=Kd.qZ HP.out;subst ep_)|(refine zL 134 70 Tryz.func134 #[.slice A2 l2.length c2,.slice Ap_ (ps_++[a1]).length cp_] ?_;(with_reducible refine(spec_l10Refs.calls k _ _ l2 _ _ (ps_++[a1]) rs_ _ ?s1 ?s2 ?s3 ?s4 TR.out).mono ?_);(case s1=>exact zC bK.out);(case s2=>exact bL.out);(case s3=>exact(Kd.qM HP.out).2.2);(case s4=>exact(Kd.qM HP.out).2.1);rintro e wr_ ⟨vr_,rfl,ho,hb⟩;refine⟨_,rfl,?_⟩;obtain⟨Ar_,cr_,er_⟩:=Kd.qZ ho;subst er_;replace BK:=zz (zJ BK hb);replace HO:=zz (Kd.R_below (zR HO.out) hb);replace HB:=zz (zv zb hb);clear ho hb HP;obtain⟨ab,ac,ad,ae,af,ag,ah,ai,aj,ak⟩:=zc5 BK.out))
      go_loopg[13,15,16] (l0.length+1) (fun kq cr ct cu w'=>∃(x_:Int) (d_:Bool) (xs_:List Sh.T),ct= .bool d_∧cu= .int .i64 x_∧qC ((kq:Int)+x_=l0.length+1∧0≤x_∧x_≤l0.length∧(d_=false→(xs_.length:Int)≤x_)∧(xs_.length:Int)≤x_+1)∧qC (Kd.R Sh.k 103 w' w.heap.size (fun k_=>k_≠gb_) cr xs_)∧qC (w'.heap[gb_]?=some (.cells #[.string a1,.string am,.slice Ar_ rs_.length cr_,.string a3,.slice A2 l2.length c2] 103 (0,0)))∧qC (Below w.heap.size w w'))
      case atStart=>exact⟨0,false,[],zr,zr,⟨⟨by omega,by omega,by omega,fun _=>Int.le_refl _,by simp⟩⟩,⟨Sh.far HO.out⟩,⟨yP BK.out⟩,⟨zb⟩⟩
      case round=>
       clear HO BK HB ab ac ad ae af ag ah ai aj ak
       obtain⟨x_,d_,xs_,rfl,rfl,HX,HO,BK,HB⟩:=hrel
       cases gk with
       |zero=>exact absurd HX.out.1 (by have:=HX.out;omega)
       |succ k3=>
        obtain⟨ab,ac,ad,ae,af,ag,ah,ai,aj,ak⟩:=zc5 BK.out
        by_cases c_:x_<(l0.length:Int)
        case neg=>
         have cb_:=z0 c_
         clear c_
         cases d_
         ·replace HX:=zz (show(xs_.length:Int)≤x_∧x_≤l0.length from⟨HX.out.2.2.2.1 rfl,HX.out.2.2.1⟩)
          go_wp2_with(first|((with_reducible refine qT (b:= .append) (xs:= #[.tmp 102,.tmp 104]) rfl ?_);at_builtin;refine Kd.R_append Sh.k (w0:=w) w.heap.size rfl (.tmp 102) (.tmp 104) 33 103 (.agg #[(.string ⟨#[]⟩),(.string ⟨#[]⟩),(.slice none 0 0),(.string ⟨#[]⟩),(.slice none 0 0)]) 96 rfl Tryz.underlying33 info103 rfl (by decide) (by omega) u13 xs_ (a1,am,(Ar_,rs_.length,cr_),a3,(A2,l2.length,c2)) [.string a1,.string am,.slice Ar_ rs_.length cr_,.string a3,.slice A2 l2.length c2] (fun k_=>k_≠gb_) (fun _=>False) rfl rfl ?aP (fun _ hk=>hk.elim) ?aF ?aO ?aB ?aS ?aL ?_;(case aP=>exact Sh.mk _ _ _ _ _);(case aB=>exact zb);(case aF=>exact(fun k_ hk=>Nat.ne_of_gt (Nat.lt_of_lt_of_le (blk_lt (zB BK.out)) hk)));(case aO=>exact(zR HO.out));(case aS=>exact(qF zb));(case aL=>have h1:=HX.out;have h2:=TL.out.2;(try simp only[List.length_append,List.length_cons,List.length_nil]);omega);intro uf_ wf_ ho hb hg hat;replace BK:=zz (zK BK hg (Kd.R_away HO.out (fun _ hk=>hk)));replace HO:=zz ho;replace HB:=zz hb;clear ho hb hg hat ab ac ad ae af ag ah ai aj ak;obtain⟨ab,ac,ad,ae,af,ag,ah,ai,aj,ak⟩:=zc5 BK.out))
          go_ret2
          exact⟨_,ze,zb⟩
         ·go_wp2
          go_ret2
          exact⟨_,ze,zb⟩
        have cb_:=z1 c_
        have bl:0≤x_:=HX.out.2.1
        have ca_:=z1 bl
        have cw_:wrap64 (x_+1)=x_+1:=by have h1:=TL.out.2;simp[wrap64,IntKind.wrap];omega
        obtain⟨ad_,aJ,aK,aM,aN,e_,X0,X1,X2,X3,X4,cb,cc,cd,ce⟩:=at_T103 a6.out x_ bl c_
        cases e_
        replace X0:=zz X0
        replace X1:=zz X1
        replace X2:=zz X2
        replace X3:=zz X3
        replace X4:=zz X4
        have bU:=z3 HB.out X0.out
        have bV:=z3 HB.out X1.out
        have bW:=z3 HB.out X2.out
        have bj:=z3 HB.out X3.out
        have bX:=z3 HB.out X4.out
        clear cb cc cd ce
        have p_:=eq_true bl
        have q_:=eq_true c_
        clear bl c_
        cases d_
        ·replace HX:=zz (show(xs_.length:Int)≤x_∧x_<l0.length∧0≤x_∧(k3:Int)+1+x_=l0.length+1 from⟨HX.out.2.2.2.1 rfl,of_decide_eq_true cb_,HX.out.2.1,by have:=HX.out.1;omega⟩)
         by_cases cc_:(Op.bytesLess (a1.toList) (((qE l0 x_).f0).toList))=true
         ·go_wp2_with(first|((with_reducible refine qT (b:= .append) (xs:= #[.tmp 89,.tmp 91]) rfl ?_);at_builtin;refine Kd.R_append Sh.k (w0:=w) w.heap.size rfl (.tmp 89) (.tmp 91) 33 103 (.agg #[(.string ⟨#[]⟩),(.string ⟨#[]⟩),(.slice none 0 0),(.string ⟨#[]⟩),(.slice none 0 0)]) 96 rfl Tryz.underlying33 info103 rfl (by decide) (by omega) u13 xs_ (a1,am,(Ar_,rs_.length,cr_),a3,(A2,l2.length,c2)) [.string a1,.string am,.slice Ar_ rs_.length cr_,.string a3,.slice A2 l2.length c2] (fun k_=>k_≠gb_) (fun _=>False) rfl rfl ?aP (fun _ hk=>hk.elim) ?aF ?aO ?aB ?aS ?aL ?_;(case aP=>exact Sh.mk _ _ _ _ _);(case aB=>exact zb);(case aF=>exact(fun k_ hk=>Nat.ne_of_gt (Nat.lt_of_lt_of_le (blk_lt (zB BK.out)) hk)));(case aO=>exact(zR HO.out));(case aS=>exact(qF zb));(case aL=>have h1:=HX.out;have h2:=TL.out.2;(try simp only[List.length_append,List.length_cons,List.length_nil]);omega);intro ug_ wg_ ho hb hg hat;replace BK:=zz (zK BK hg (Kd.R_away HO.out (fun _ hk=>hk)));replace HO:=zz ho;replace HB:=zz hb;clear ho hb hg hat ab ac ad ae af ag ah ai aj ak;obtain⟨ab,ac,ad,ae,af,ag,ah,ai,aj,ak⟩:=zc5 BK.out;clear bU bV bW bj bX;have bU:=z3 HB.out X0.out;have bV:=z3 HB.out X1.out;have bW:=z3 HB.out X2.out;have bj:=z3 HB.out X3.out;have bX:=z3 HB.out X4.out)|((with_reducible refine qT (b:= .append) (xs:= #[.tmp 93,.tmp 98]) rfl ?_);at_builtin;refine Kd.R_append Sh.k (w0:=w) w.heap.size rfl (.tmp 93) (.tmp 98) 33 103 (.agg #[(.string ⟨#[]⟩),(.string ⟨#[]⟩),(.slice none 0 0),(.string ⟨#[]⟩),(.slice none 0 0)]) 96 rfl Tryz.underlying33 info103 rfl (by decide) (by omega) ug_ (xs_++[(a1,am,(Ar_,rs_.length,cr_),a3,(A2,l2.length,c2))]) ((qE l0 x_).f0,(qE l0 x_).f1,(aJ,((qE l0 x_).f2).length,aK),(qE l0 x_).f3,(aM,((qE l0 x_).f4).length,aN)) [.string ((qE l0 x_).f0),.string ((qE l0 x_).f1),.slice aJ ((qE l0 x_).f2).length aK,.string ((qE l0 x_).f3),.slice aM ((qE l0 x_).f4).length aN] (fun k_=>k_≠gb_) (fun _=>False) rfl rfl ?aP (fun _ hk=>hk.elim) ?aF ?aO ?aB ?aS ?aL ?_;(case aP=>exact Sh.mk _ _ _ _ _);(case aB=>exact zb);(case aF=>exact(fun k_ hk=>Nat.ne_of_gt (Nat.lt_of_lt_of_le (blk_lt (zB BK.out)) hk)));(case aO=>exact(zR HO.out));(case aS=>exact(qF zb));(case aL=>have h1:=HX.out;have h2:=TL.out.2;(try simp only[List.length_append,List.length_cons,List.length_nil]);omega);intro uh_ wh_ ho hb hg hat;replace BK:=zz (zK BK hg (Kd.R_away HO.out (fun _ hk=>hk)));replace HO:=zz ho;replace HB:=zz hb;clear ho hb hg hat ab ac ad ae af ag ah ai aj ak;obtain⟨ab,ac,ad,ae,af,ag,ah,ai,aj,ak⟩:=zc5 BK.out))
          go_roundg k3
          case measure=>omega
          case rel=>exact⟨wrap64 (x_+1),true,(xs_++[(a1,am,(Ar_,rs_.length,cr_),a3,(A2,l2.length,c2))])++[((qE l0 x_).f0,(qE l0 x_).f1,(aJ,((qE l0 x_).f2).length,aK),(qE l0 x_).f3,(aM,((qE l0 x_).f4).length,aN))],zr,zr,⟨by have h1:=HX.out;rw[cw_];(try simp only[List.length_append,List.length_cons,List.length_nil]);refine⟨by omega,by omega,by omega,(fun h=>by cases h),by omega⟩⟩,⟨zR HO.out⟩,⟨zB BK.out⟩,⟨zb⟩⟩
         ·replace cc_:=Bool.eq_false_iff.mpr cc_
          go_wp2_with(first|((with_reducible refine qT (b:= .append) (xs:= #[.tmp 93,.tmp 98]) rfl ?_);at_builtin;refine Kd.R_append Sh.k (w0:=w) w.heap.size rfl (.tmp 93) (.tmp 98) 33 103 (.agg #[(.string ⟨#[]⟩),(.string ⟨#[]⟩),(.slice none 0 0),(.string ⟨#[]⟩),(.slice none 0 0)]) 96 rfl Tryz.underlying33 info103 rfl (by decide) (by omega) u13 xs_ ((qE l0 x_).f0,(qE l0 x_).f1,(aJ,((qE l0 x_).f2).length,aK),(qE l0 x_).f3,(aM,((qE l0 x_).f4).length,aN)) [.string ((qE l0 x_).f0),.string ((qE l0 x_).f1),.slice aJ ((qE l0 x_).f2).length aK,.string ((qE l0 x_).f3),.slice aM ((qE l0 x_).f4).length aN] (fun k_=>k_≠gb_) (fun _=>False) rfl rfl ?aP (fun _ hk=>hk.elim) ?aF ?aO ?aB ?aS ?aL ?_;(case aP=>exact Sh.mk _ _ _ _ _);(case aB=>exact zb);(case aF=>exact(fun k_ hk=>Nat.ne_of_gt (Nat.lt_of_lt_of_le (blk_lt (zB BK.out)) hk)));(case aO=>exact(zR HO.out));(case aS=>exact(qF zb));(case aL=>have h1:=HX.out;have h2:=TL.out.2;(try simp only[List.length_append,List.length_cons,List.length_nil]);omega);intro uh_ wh_ ho hb hg hat;replace BK:=zz (zK BK hg (Kd.R_away HO.out (fun _ hk=>hk)));replace HO:=zz ho;replace HB:=zz hb;clear ho hb hg hat ab ac ad ae af ag ah ai aj ak;obtain⟨ab,ac,ad,ae,af,ag,ah,ai,aj,ak⟩:=zc5 BK.out))
          go_roundg k3
          case measure=>omega
          case rel=>exact⟨wrap64 (x_+1),false,xs_++[((qE l0 x_).f0,(qE l0 x_).f1,(aJ,((qE l0 x_).f2).length,aK),(qE l0 x_).f3,(aM,((qE l0 x_).f4).length,aN))],zr,zr,⟨by have h1:=HX.out;rw[cw_];(try simp only[List.length_append,List.length_cons,List.length_nil]);refine⟨by omega,by omega,by omega,(fun h=>by omega),by omega⟩⟩,⟨zR HO.out⟩,⟨zB BK.out⟩,⟨zb⟩⟩
        ·replace HX:=zz (show(xs_.length:Int)≤x_+1∧x_<l0.length∧0≤x_∧(k3:Int)+1+x_=l0.length+1 from⟨HX.out.2.2.2.2,of_decide_eq_true cb_,HX.out.2.1,by have:=HX.out.1;omega⟩)
         go_wp2_with(first|((with_reducible refine qT (b:= .append) (xs:= #[.tmp 93,.tmp 98]) rfl ?_);at_builtin;refine Kd.R_append Sh.k (w0:=w) w.heap.size rfl (.tmp 93) (.tmp 98) 33 103 (.agg #[(.string ⟨#[]⟩),(.string ⟨#[]⟩),(.slice none 0 0),(.string ⟨#[]⟩),(.slice none 0 0)]) 96 rfl Tryz.underlying33 info103 rfl (by decide) (by omega) u13 xs_ ((qE l0 x_).f0,(qE l0 x_).f1,(aJ,((qE l0 x_).f2).length,aK),(qE l0 x_).f3,(aM,((qE l0 x_).f4).length,aN)) [.string ((qE l0 x_).f0),.string ((qE l0 x_).f1),.slice aJ ((qE l0 x_).f2).length aK,.string ((qE l0 x_).f3),.slice aM ((qE l0 x_).f4).length aN] (fun k_=>k_≠gb_) (fun _=>False) rfl rfl ?aP (fun _ hk=>hk.elim) ?aF ?aO ?aB ?aS ?aL ?_;(case aP=>exact Sh.mk _ _ _ _ _);(case aB=>exact zb);(case aF=>exact(fun k_ hk=>Nat.ne_of_gt (Nat.lt_of_lt_of_le (blk_lt (zB BK.out)) hk)));(case aO=>exact(zR HO.out));(case aS=>exact(qF zb));(case aL=>have h1:=HX.out;have h2:=TL.out.2;(try simp only[List.length_append,List.length_cons,List.length_nil]);omega);intro uh_ wh_ ho hb hg hat;replace BK:=zz (zK BK hg (Kd.R_away HO.out (fun _ hk=>hk)));replace HO:=zz ho;replace HB:=zz hb;clear ho hb hg hat ab ac ad ae af ag ah ai aj ak;obtain⟨ab,ac,ad,ae,af,ag,ah,ai,aj,ak⟩:=zc5 BK.out))
         go_roundg k3
         case measure=>omega
         case rel=>exact⟨wrap64 (x_+1),true,xs_++[((qE l0 x_).f0,(qE l0 x_).f1,(aJ,((qE l0 x_).f2).length,aK),(qE l0 x_).f3,(aM,((qE l0 x_).f4).length,aN))],zr,zr,⟨by have h1:=HX.out;rw[cw_];(try simp only[List.length_append,List.length_cons,List.length_nil]);refine⟨by omega,by omega,by omega,(fun h=>by cases h),by omega⟩⟩,⟨zR HO.out⟩,⟨zB BK.out⟩,⟨zb⟩⟩
     obtain⟨bD,bE⟩:=zq bw
     clear bw
     simp only[Option.some.injEq,Prod.mk.injEq] at H
     obtain⟨rfl,rfl⟩:=H
     go_wp2
     go_ret2
     exact⟨_,ze,zb⟩
def spec_l10Copy.f(l0:List (S87)):Option ((List (S87))):=(some (([]:List (S87)):List (S87))).bind fun aa=>(if aa.length+l0.length<2932031007402 then(some (aa++l0)) else(none))
theorem spec_l10Copy.calls(A0:Option Addr)(c0:Nat)(l0:List (S87))(r:List (S87))(w:World)(aj:Kd.C k87 w A0 l0.length l0)(ak:l0.length≤c0)(h:spec_l10Copy.f l0=some r):
 Calls Tryz.prog 94 #[.slice A0 l0.length c0] w fun e w'=>∃al:Value,e= .returned (al)∧Kd.R k87 87 w' w.heap.size (fun _=>True) al r∧Below w.heap.size w w':=by
 have ap:=zz aj
 have au:=zz ak
 clear aj ak
 have HB:=yB w
 unfold spec_l10Copy.f at h
 have H:=h
 clear h
 obtain⟨ad,aa⟩:∃y_:List (S87),y_=(([]:List (S87))):=⟨_,rfl⟩
 replace H:(if ad.length+l0.length<2932031007402 then(some (ad++l0)) else(none))=some r:=by first|(rw[aa];with_reducible exact H)|(have ac:=(Option.bind_some _ _).symm.trans H;rw[aa];with_reducible exact ac)|(have ac:=(Option.bind_some _ _).symm.trans H;with_reducible exact ac)|with_reducible exact H|(rw[aa];exact H)|exact H
 have af:=zz aa
 clear aa
 replace H:=yA H
 obtain⟨c2,H⟩:=H
 have am:=zz c2
 clear c2
 obtain⟨an,ab⟩:∃y_:List (S87),y_=(ad++l0):=⟨_,rfl⟩
 replace H:(some an)=some r:=by first|(rw[ab];with_reducible exact H)|(have ac:=(Option.bind_some _ _).symm.trans H;rw[ab];with_reducible exact ac)|(have ac:=(Option.bind_some _ _).symm.trans H;with_reducible exact ac)|with_reducible exact H|(rw[ab];exact H)|exact H
 have ah:=zz ab
 clear ab
 obtain rfl:=zi H
 go_enter Tryz.func94,Tryz.ntmps94
 go_wp2_with(first|(refine zN 3 ?_;refine Kd.R_lit k87 _ 87 ?hg (N:=3) ?hd (xs:=([]:List (S87))) (inner:=[]) (ok:=fun _=>True) (okp:=fun _=>True) ?hr ?hp (fun _ hk=>hk) trivial (Below.refl _ _) (Nat.le_refl _) (by simp) ?_;(case hd=>rfl);(case hg=>rfl);(case hr=>first|(go_simp;done)|(go_simp;rfl));(case hp=>exact(Reps.none _ _));intro ao w3 ae hb hg_ hnew_;clear hg_ hnew_;(first|rw[←af.out] at ae|(simp only[Int.reduceToNat] at ae;rw[←af.out] at ae));have ag:=zz (Kd.qY ae (qF zb));replace HB:=zz (zv zb hb);clear hb ae)|((with_reducible refine qT (b:= .append) (xs:= #[.tmp 3,.tmp 4]) rfl ?_);at_builtin;refine Kd.R_append_rows k87 (w0:=w) w.heap.size rfl (.tmp 3) (.tmp 4) 40 87 (.agg #[(.string ⟨#[]⟩),(.int .i64 0),(.string ⟨#[]⟩),(.bool false)]) 48 rfl Tryz.underlying40 info87 rfl (by decide) (by omega) ao ad l0 _ _ _ (fun _=>True) (fun _=>False) rfl rfl ?aO ?aR (fun _ _ h=>h) (fun _ h=>h.elim) ?aF ?aB ?aS ?aL ?_;(case aR=>exact zc ap.out);(case aB=>exact zb);(case aF=>exact(fun _ _=>trivial));(case aO=>exact(zR ag.out));(case aS=>exact(qF zb));(case aL=>have:=am.out;omega);intro ar w5 ho hb hg hat;rw[←ah.out] at ho;replace HB:=zz (hb);have ai:=zz (ho);clear ag;clear ho hb hg hat))
 go_ret
 exact⟨_,ze,zR ai.out,zb⟩
def spec_l19PlanAdd.f(k:Nat)(ad:List (S103))(ag:List (S137))(ae:List (S133))(ah:List (S134))(a1:ByteArray)(l2:List (S87))(a3:ByteArray):Option ((List (S54))):=(some (([]:List (S54)):List (S54))).bind fun aa=>((spec_l12Add.f k ad a1 l2 a3).bind fun ac=>(if ac.2>1 then(some aa) else(if(ae.length:Int)=20 then(some aa) else((spec_l10Copy.f l2).bind fun af=>(if aa.length<1599289640401 then((some (aa++[(⟨1,(⟨#[]⟩:ByteArray),a1,af,a3,0⟩:S54)]:List (S54))).bind fun ab=>(if ab.length<1599289640401 then(some (ab++[(⟨2,(⟨#[]⟩:ByteArray),a1,([]:List (S87)),(⟨#[]⟩:ByteArray),0⟩:S54)])) else(none))) else(none))))))
theorem spec_l19PlanAdd.calls(k:Nat)(af:Option Addr)(ag:Nat)(ac:List (S103))(av:Option Addr)(aw:Nat)(ah:List (S137))(ax:Option Addr)(ay:Nat)(ae:List (S133))(az:Option Addr)(aA:Nat)(ai:List (S134))(a1:ByteArray)(A2:Option Addr)(c2:Nat)(l2:List (S87))(a3:ByteArray)(r:List (S54))(w:World)(aQ:Kd.C k103 w af ac.length ac)(aR:ac.length≤ag)(aT:Kd.C k137 w av ah.length ah)(aU:ah.length≤aw)(aV:Kd.C k133 w ax ae.length ae)(aW:ae.length≤ay)(aX:Kd.C k134 w az ai.length ai)(aY:ai.length≤aA)(bj:Kd.C k87 w A2 l2.length l2)(bk:l2.length≤c2)(h:spec_l19PlanAdd.f k ac ah ae ai a1 l2 a3=some r):
 Calls Tryz.prog 47 #[.agg #[.slice af ac.length ag,.slice av ah.length aw,.slice ax ae.length ay,.slice az ai.length aA],.string a1,.slice A2 l2.length c2,.string a3] w fun e w'=>∃bl:Value,e= .returned (bl)∧Kd.S k54 54 w' w.heap.size (fun _=>True) bl r∧Below w.heap.size w w':=by
 have ci:=Tryz.underlying38
 have cj:=Tryz.underlying54
 have aH:=zz aQ
 have aI:=zz aR
 clear aQ aR
 have cc:=zz aT
 have cd:=zz aU
 clear aT aU
 have ce:=zz aV
 have cf:=zz aW
 clear aV aW
 have cg:=zz aX
 have ch:=zz aY
 clear aX aY
 have aZ:=zz bj
 have a0:=zz bk
 clear bj bk
 have HB:=yB w
 unfold spec_l19PlanAdd.f at h
 have H:=h
 clear h
 obtain⟨ar,an⟩:∃y_:List (S54),y_=(([]:List (S54))):=⟨_,rfl⟩
 replace H:((spec_l12Add.f k ac a1 l2 a3).bind fun bb=>(if bb.2>1 then(some ar) else(if(ae.length:Int)=20 then(some ar) else((spec_l10Copy.f l2).bind fun aj=>(if ar.length<1599289640401 then((some (ar++[(⟨1,(⟨#[]⟩:ByteArray),a1,aj,a3,0⟩:S54)]:List (S54))).bind fun am=>(if am.length<1599289640401 then(some (am++[(⟨2,(⟨#[]⟩:ByteArray),a1,([]:List (S87)),(⟨#[]⟩:ByteArray),0⟩:S54)])) else(none))) else(none))))))=some r:=by first|(rw[an];with_reducible exact H)|(have ak:=(Option.bind_some _ _).symm.trans H;rw[an];with_reducible exact ak)|(have ak:=(Option.bind_some _ _).symm.trans H;with_reducible exact ak)|with_reducible exact H|(rw[an];exact H)|exact H
 have al:=zz an
 clear an
 replace H:=zf H
 obtain⟨⟨aM,aN⟩,bn,H⟩:=H
 try dsimp only at H
 have A5:=zz bn
 clear bn
 refine yG H ?_ ?_<;>clear H<;>intro ck H
 ·obtain rfl:=zi H
  go_enter Tryz.func47,Tryz.ntmps47
  go_wp2_with(first|(refine zN 4 ?_;(try(refine z4 ?_;dsimp only));refine zX 4 38 #[.slice af ac.length ag,.slice av ah.length aw,.slice ax ae.length ay,.slice az ai.length aA] ?_;intro ad hg w7 hbox hb;have aa:=zz (hbox);have a2:=zz ((zg:w.heap.size≤ad));have a4:=zz ((zg:w.heap.size≤ad));replace HB:=zz (zv zb hb);clear hb hbox hg)|(refine zN 12 ?_;(try(refine z4 ?_;dsimp only));refine Kd.S_lit k54 _ 54 ?hg (N:=12) ?hd (xs:=([]:List (S54))) (inner:=[]) (ok:=fun _=>True) (okp:=fun _=>True) ?hr ?hp (fun _ hk=>hk) trivial (Below.refl _ _) (Nat.le_refl _) (by simp) ?_;(case hd=>rfl);(case hg=>rfl);(case hr=>first|(go_simp;done)|(go_simp;rfl));(case hp=>exact(Reps.none _ _));intro aC w8 aK hb hg_ hnew_;clear hg_ hnew_;(first|rw[←al.out] at aK|(simp only[Int.reduceToNat] at aK;rw[←al.out] at aK));have ab:=zz (Kd.S_lower aK (qF zb));replace aa:=zz (zJ aa hb);replace HB:=zz (zv zb hb);clear hb aK;obtain⟨bv,bw,bz,bA,bB,bC,bD,bE⟩:=zc4 aa.out)|(refine zL 78 19 Tryz.func78 #[.slice af ac.length ag,.string a1,.slice A2 l2.length c2,.string a3] ?_;(with_reducible refine(spec_l12Add.calls k _ _ ac a1 _ _ l2 a3 aM aN _ ?s1 ?s2 ?s3 ?s4 A5.out).mono ?_);(case s1=>exact zc aH.out);(case s2=>exact aI.out);(case s3=>exact zc aZ.out);(case s4=>exact a0.out);rintro e co ⟨a5,rfl,hb⟩;refine⟨_,rfl,?_⟩;replace ab:=zz (Kd.S_below (zS ab.out) hb);replace aa:=zz (zJ aa hb);replace HB:=zz (zv zb hb);(try clear hb);(try clear a6);(try clear hk);(try clear hi);(try clear aG)))
  go_ret
  exact⟨_,ze,zS ab.out,zb⟩
 refine yC H ?_ ?_<;>clear H<;>intro a7 H
 ·obtain⟨bc,bd⟩:=zq a7
  clear a7
  obtain rfl:=zi H
  go_enter Tryz.func47,Tryz.ntmps47
  go_wp2_with(first|(refine zN 4 ?_;(try(refine z4 ?_;dsimp only));refine zX 4 38 #[.slice af ac.length ag,.slice av ah.length aw,.slice ax ae.length ay,.slice az ai.length aA] ?_;intro ad hg cp hbox hb;have aa:=zz (hbox);have a2:=zz ((zg:w.heap.size≤ad));have a4:=zz ((zg:w.heap.size≤ad));replace HB:=zz (zv zb hb);clear hb hbox hg)|(refine zN 12 ?_;(try(refine z4 ?_;dsimp only));refine Kd.S_lit k54 _ 54 ?hg (N:=12) ?hd (xs:=([]:List (S54))) (inner:=[]) (ok:=fun _=>True) (okp:=fun _=>True) ?hr ?hp (fun _ hk=>hk) trivial (Below.refl _ _) (Nat.le_refl _) (by simp) ?_;(case hd=>rfl);(case hg=>rfl);(case hr=>first|(go_simp;done)|(go_simp;rfl));(case hp=>exact(Reps.none _ _));intro aC cq aD hb hg_ hnew_;clear hg_ hnew_;(first|rw[←al.out] at aD|(simp only[Int.reduceToNat] at aD;rw[←al.out] at aD));have ab:=zz (Kd.S_lower aD (qF zb));replace aa:=zz (zJ aa hb);replace HB:=zz (zv zb hb);clear hb aD;obtain⟨bF,bG,bH,bI,bJ,bK,bL,bM⟩:=zc4 aa.out)|(refine zL 78 19 Tryz.func78 #[.slice af ac.length ag,.string a1,.slice A2 l2.length c2,.string a3] ?_;(with_reducible refine(spec_l12Add.calls k _ _ ac a1 _ _ l2 a3 aM aN _ ?s1 ?s2 ?s3 ?s4 A5.out).mono ?_);(case s1=>exact zc aH.out);(case s2=>exact aI.out);(case s3=>exact zc aZ.out);(case s4=>exact a0.out);rintro e cr ⟨a5,rfl,hb⟩;refine⟨_,rfl,?_⟩;replace ab:=zz (Kd.S_below (zS ab.out) hb);replace aa:=zz (zJ aa hb);replace HB:=zz (zv zb hb);(try clear hb);(try clear a6);(try clear hk);(try clear hi);(try clear aG);obtain⟨bN,bO,bP,bQ,bR,bS,bT,bU⟩:=zc4 aa.out))
  go_ret
  exact⟨_,ze,zS ab.out,zb⟩
 obtain⟨bc,bd⟩:=zw a7
 replace H:=zf H
 obtain⟨aj,a8,H⟩:=H
 try dsimp only at H
 have cb:=zz a8
 clear a8
 replace H:=yA H
 obtain⟨bo,H⟩:=H
 have be:=zz bo
 clear bo
 obtain⟨am,ao⟩:∃y_:List (S54),y_=(ar++[(⟨1,(⟨#[]⟩:ByteArray),a1,aj,a3,0⟩:S54)]):=⟨_,rfl⟩
 replace H:(if am.length<1599289640401 then(some (am++[(⟨2,(⟨#[]⟩:ByteArray),a1,([]:List (S87)),(⟨#[]⟩:ByteArray),0⟩:S54)])) else(none))=some r:=by first|(rw[ao];with_reducible exact H)|(have ak:=(Option.bind_some _ _).symm.trans H;rw[ao];with_reducible exact ak)|(have ak:=(Option.bind_some _ _).symm.trans H;with_reducible exact ak)|with_reducible exact H|(rw[ao];exact H)|exact H
 have bf:=zz ao
 clear ao
 replace H:=yA H
 obtain⟨bq,H⟩:=H
 have bg:=zz bq
 clear bq
 obtain⟨br,ap⟩:∃y_:List (S54),y_=(am++[(⟨2,(⟨#[]⟩:ByteArray),a1,([]:List (S87)),(⟨#[]⟩:ByteArray),0⟩:S54)]):=⟨_,rfl⟩
 replace H:(some br)=some r:=by first|(rw[ap];with_reducible exact H)|(have ak:=(Option.bind_some _ _).symm.trans H;rw[ap];with_reducible exact ak)|(have ak:=(Option.bind_some _ _).symm.trans H;with_reducible exact ak)|with_reducible exact H|(rw[ap];exact H)|exact H
 have bh:=zz ap
 clear ap
 obtain rfl:=zi H
 go_enter Tryz.func47,Tryz.ntmps47
 go_wp2_with(first|(refine zN 4 ?_;(try(refine z4 ?_;dsimp only));refine zX 4 38 #[.slice af ac.length ag,.slice av ah.length aw,.slice ax ae.length ay,.slice az ai.length aA] ?_;intro ad hg ct hbox hb;have aa:=zz (hbox);have a2:=zz ((zg:w.heap.size≤ad));have a4:=zz ((zg:w.heap.size≤ad));replace HB:=zz (zv zb hb);clear hb hbox hg)|(refine zN 12 ?_;(try(refine z4 ?_;dsimp only));refine Kd.S_lit k54 _ 54 ?hg (N:=12) ?hd (xs:=([]:List (S54))) (inner:=[]) (ok:=fun _=>True) (okp:=fun _=>True) ?hr ?hp (fun _ hk=>hk) trivial (Below.refl _ _) (Nat.le_refl _) (by simp) ?_;(case hd=>rfl);(case hg=>rfl);(case hr=>first|(go_simp;done)|(go_simp;rfl));(case hp=>exact(Reps.none _ _));intro aC cu aE hb hg_ hnew_;clear hg_ hnew_;(first|rw[←al.out] at aE|(simp only[Int.reduceToNat] at aE;rw[←al.out] at aE));have ab:=zz (Kd.S_lower aE (qF zb));replace aa:=zz (zJ aa hb);replace HB:=zz (zv zb hb);clear hb aE;obtain⟨bV,bW,bX,bY,bZ,b0,b1,b2⟩:=zc4 aa.out)|(refine zL 78 19 Tryz.func78 #[.slice af ac.length ag,.string a1,.slice A2 l2.length c2,.string a3] ?_;(with_reducible refine(spec_l12Add.calls k _ _ ac a1 _ _ l2 a3 aM aN _ ?s1 ?s2 ?s3 ?s4 A5.out).mono ?_);(case s1=>exact zc aH.out);(case s2=>exact aI.out);(case s3=>exact zc aZ.out);(case s4=>exact a0.out);rintro e cv ⟨a5,rfl,hb⟩;refine⟨_,rfl,?_⟩;replace ab:=zz (Kd.S_below (zS ab.out) hb);replace aa:=zz (zJ aa hb);replace HB:=zz (zv zb hb);(try clear hb);(try clear a6);(try clear hk);(try clear hi);(try clear aG);obtain⟨b3,b4,b5,b6,b7,b8,b9,ca⟩:=zc4 aa.out)|(refine zL 94 34 Tryz.func94 #[.slice A2 l2.length c2] ?_;(with_reducible refine(spec_l10Copy.calls _ _ l2 aj _ ?s1 ?s2 cb.out).mono ?_);(case s1=>exact zc aZ.out);(case s2=>exact a0.out);rintro e cw ⟨cm,rfl,aG,hb⟩;refine⟨_,rfl,?_⟩;replace ab:=zz (Kd.S_elder' (zS ab.out) (Kd.R_base aG) hb);have au:=zz (Kd.qY aG (qF zb));replace aa:=zz (zJ aa hb);replace HB:=zz (zv zb hb);(try clear hb);(try clear a6);(try clear hk);(try clear hi);(try clear aG);obtain⟨a9,ba,bs⟩:=Kd.qZ au.out;subst bs)|((with_reducible refine qT (b:= .append) (xs:= #[.tmp 31,.tmp 37]) rfl ?_);(try(refine z4 ?_;dsimp only));at_builtin;refine Kd.S_append k54 (w0:=w) w.heap.size rfl (.tmp 31) (.tmp 37) 31 54 (.agg #[(.int .i64 0),(.string ⟨#[]⟩),(.string ⟨#[]⟩),(.slice none 0 0),(.string ⟨#[]⟩),(.int .i64 0)]) 88 rfl Tryz.underlying31 info54 rfl (by decide) (by omega) aC ar (⟨1,(⟨#[]⟩:ByteArray),a1,aj,a3,0⟩:S54) [.int .i64 1,.string (⟨#[]⟩:ByteArray),.string a1,.slice a9 aj.length ba,.string a3,.int .i64 0] (fun _=>True) (fun k_=>some k_=(.slice a9 aj.length ba:Value).ownBlock) rfl rfl ?aP (fun k_ hk_=>((Kd.vC (ok':=fun k_=>((fun _=>True)) k_∧some k_≠(aC:Value).ownBlock) (Kd.R_apart' (au.out) (Kd.S_typed ab.out) (by decide)) (fun k_ hk=>⟨trivial,hk.2⟩))).1 k_ hk_.symm) ?aF ?aO ?aB ?aS ?aL ?_;(case aP=>exact k54_mkM _ _ _ (⟨1,(⟨#[]⟩:ByteArray),a1,aj,a3,0⟩:S54) (Kd.vC (Kd.R_tight rfl (Kd.vC (ok':=fun k_=>((fun _=>True)) k_∧some k_≠(aC:Value).ownBlock) (Kd.R_apart' (au.out) (Kd.S_typed ab.out) (by decide)) (fun k_ hk=>⟨trivial,hk.2⟩))) (fun _ h_=>h_)));(case aB=>exact zb);(case aF=>exact(fun _ _=>trivial));(case aO=>exact(by(with_reducible repeat(first|apply Kd.S_alloc|apply Kd.S_drewN|apply Kd.S_drew));exact Kd.S_mono ab.out (fun k_ hk=>⟨trivial,fun e_=>hk.2 e_⟩)));(case aS=>exact(qF zb));(case aL=>have:=be.out;omega);intro bu cx ho hb hg hat;rw[←bf.out] at ho;replace aa:=zz (zK aa hg (Kd.S_ne ab.out aa.out (by decide)));replace HB:=zz (hb);have aJ:=zz (ho);clear ab au;clear ho hb hg hat)|((with_reducible refine qT (b:= .append) (xs:= #[.tmp 39,.tmp 42]) rfl ?_);(try(refine z4 ?_;dsimp only));at_builtin;refine Kd.S_append k54 (w0:=w) w.heap.size rfl (.tmp 39) (.tmp 42) 31 54 (.agg #[(.int .i64 0),(.string ⟨#[]⟩),(.string ⟨#[]⟩),(.slice none 0 0),(.string ⟨#[]⟩),(.int .i64 0)]) 88 rfl Tryz.underlying31 info54 rfl (by decide) (by omega) bu am (⟨2,(⟨#[]⟩:ByteArray),a1,([]:List (S87)),(⟨#[]⟩:ByteArray),0⟩:S54) [.int .i64 2,.string (⟨#[]⟩:ByteArray),.string a1,.slice none 0 0,.string (⟨#[]⟩:ByteArray),.int .i64 0] (fun _=>True) (fun _=>False) rfl rfl ?aP (fun k_ hk_=>hk_.elim) ?aF ?aO ?aB ?aS ?aL ?_;(case aP=>exact k54_mkM _ _ _ (⟨2,(⟨#[]⟩:ByteArray),a1,([]:List (S87)),(⟨#[]⟩:ByteArray),0⟩:S54) (Kd.R_nil _ _ _ _ _));(case aB=>exact zb);(case aF=>exact(fun _ _=>trivial));(case aO=>exact(by(with_reducible repeat(first|apply Kd.S_alloc|apply Kd.S_drewN|apply Kd.S_drew));exact Kd.S_mono aJ.out (fun k_ hk=>⟨trivial,fun e_=>e_⟩)));(case aS=>exact(qF zb));(case aL=>have:=bg.out;omega);intro cn cy ho hb hg hat;rw[←bh.out] at ho;replace aa:=zz (zK aa hg (Kd.S_ne aJ.out aa.out (by decide)));replace HB:=zz (hb);have bi:=zz (ho);clear aJ;clear ho hb hg hat))
 go_ret
 exact⟨_,ze,zS bi.out,zb⟩
def spec_PlanAdd.f(k:Nat)(aa:List (S103))(ab:List (S137))(ac:List (S133))(ad:List (S134))(a1:ByteArray)(l2:List (S87))(a3:ByteArray):Option ((List (S54))):=(spec_WorldOk.f k aa ab ac ad).bind fun ae=>(if ae=true then((spec_l19Item.f k a1 l2 a3).bind fun af=>(if af=true then((spec_l19PlanAdd.f k aa ab ac ad a1 l2 a3).bind fun ag=>(some ag)) else(some (([]:List (S54)))))) else(some (([]:List (S54)))))
theorem spec_PlanAdd.calls(k:Nat)(ag:Option Addr)(ah:Nat)(ab:List (S103))(ai:Option Addr)(aj:Nat)(ac:List (S137))(ak:Option Addr)(al:Nat)(ad:List (S133))(am:Option Addr)(an:Nat)(ae:List (S134))(a1:ByteArray)(A2:Option Addr)(c2:Nat)(l2:List (S87))(a3:ByteArray)(r:List (S54))(w:World)(aF:Kd.C k103 w ag ab.length ab)(aG:ab.length≤ah)(aH:Kd.C k137 w ai ac.length ac)(aI:ac.length≤aj)(aJ:Kd.C k133 w ak ad.length ad)(aK:ad.length≤al)(aL:Kd.C k134 w am ae.length ae)(aM:ae.length≤an)(aW:Kd.C k87 w A2 l2.length l2)(aX:l2.length≤c2)(h:spec_PlanAdd.f k ab ac ad ae a1 l2 a3=some r):
 Calls Tryz.prog 10 #[.agg #[.slice ag ab.length ah,.slice ai ac.length aj,.slice ak ad.length al,.slice am ae.length an],.string a1,.slice A2 l2.length c2,.string a3] w fun e w'=>∃aY:Value,e= .returned (aY)∧Kd.S k54 54 w' w.heap.size (fun _=>True) aY r∧Below w.heap.size w w':=by
 have bM:=Tryz.underlying38
 have ar:=zz aF
 have au:=zz aG
 clear aF aG
 have av:=zz aH
 have aw:=zz aI
 clear aH aI
 have ax:=zz aJ
 have ay:=zz aK
 clear aJ aK
 have az:=zz aL
 have aA:=zz aM
 clear aL aM
 have aR:=zz aW
 have aS:=zz aX
 clear aW aX
 have HB:=yB w
 unfold spec_PlanAdd.f at h
 have H:=h
 clear h
 replace H:=zf H
 obtain⟨a5,aZ,H⟩:=H
 try dsimp only at H
 have A5:=zz aZ
 clear aZ
 by_cases c6:a5=true
 case neg=>
  replace c6:=Bool.eq_false_iff.mpr c6
  subst c6
  rw[if_neg (show¬(false=true) by decide)] at H
  obtain⟨a6,ao⟩:∃y_:List (S54),y_=(([]:List (S54))):=⟨_,rfl⟩
  replace H:(some a6)=some r:=by first|(rw[ao];with_reducible exact H)|(have aB:=(Option.bind_some _ _).symm.trans H;rw[ao];with_reducible exact aB)|(have aB:=(Option.bind_some _ _).symm.trans H;with_reducible exact aB)|with_reducible exact H|(rw[ao];exact H)|exact H
  have aN:=zz ao
  clear ao
  obtain rfl:=zi H
  go_enter Tryz.func10,Tryz.ntmps10
  go_wp2_with(first|(refine zX 4 38 #[.slice ag ab.length ah,.slice ai ac.length aj,.slice ak ad.length al,.slice am ae.length an] ?_;intro af hg bQ hbox hb;have aa:=zz (hbox);have aO:=zz ((zg:w.heap.size≤af));have aP:=zz ((zg:w.heap.size≤af));replace HB:=zz (zv zb hb);clear hb hbox hg;obtain⟨ba,bb,bc,bd,be,bf,bg,bh⟩:=zc4 aa.out)|(refine zL 45 10 Tryz.func45 #[.agg #[.slice ag ab.length ah,.slice ai ac.length aj,.slice ak ad.length al,.slice am ae.length an]] ?_;(with_reducible refine(spec_WorldOk.calls k _ _ ab _ _ ac _ _ ad _ _ ae false _ ?s1 ?s2 ?s3 ?s4 ?s5 ?s6 ?s7 ?s8 A5.out).mono ?_);(case s1=>exact zc ar.out);(case s2=>exact au.out);(case s3=>exact zc av.out);(case s4=>exact aw.out);(case s5=>exact zc ax.out);(case s6=>exact ay.out);(case s7=>exact zc az.out);(case s8=>exact aA.out);rintro e bR ⟨rfl,hb⟩;refine⟨_,rfl,?_⟩;replace aa:=zz (zJ aa hb);replace HB:=zz (zv zb hb);(try clear hb);(try clear aE);(try clear hk);(try clear hi))|(refine zN 19 ?_;refine Kd.S_lit k54 _ 54 ?hg (N:=19) ?hd (xs:=([]:List (S54))) (inner:=[]) (ok:=fun _=>True) (okp:=fun _=>True) ?hr ?hp (fun _ hk=>hk) trivial (Below.refl _ _) (Nat.le_refl _) (by simp) ?_;(case hd=>rfl);(case hg=>rfl);(case hr=>first|(go_simp;done)|(go_simp;rfl));(case hp=>exact(Reps.none _ _));intro bN bS aC hb hg_ hnew_;clear hg_ hnew_;(first|rw[←aN.out] at aC|(simp only[Int.reduceToNat] at aC;rw[←aN.out] at aC));have aT:=zz (Kd.S_lower aC (qF zb));replace aa:=zz (zJ aa hb);replace HB:=zz (zv zb hb);clear hb aC))
  go_ret
  exact⟨_,ze,zS aT.out,zb⟩
 subst c6
 rw[if_pos rfl] at H
 replace H:=zf H
 obtain⟨a7,a0,H⟩:=H
 try dsimp only at H
 have A7:=zz a0
 clear a0
 by_cases c8:a7=true
 ·subst c8
  rw[if_pos rfl] at H
  replace H:=zf H
  obtain⟨a8,a2,H⟩:=H
  try dsimp only at H
  have A9:=zz a2
  clear a2
  obtain rfl:=zi H
  go_enter Tryz.func10,Tryz.ntmps10
  go_wp2_with(first|(refine zX 4 38 #[.slice ag ab.length ah,.slice ai ac.length aj,.slice ak ad.length al,.slice am ae.length an] ?_;intro af hg bT hbox hb;have aa:=zz (hbox);have aO:=zz ((zg:w.heap.size≤af));have aP:=zz ((zg:w.heap.size≤af));replace HB:=zz (zv zb hb);clear hb hbox hg;obtain⟨bi,bj,bk,bl,bn,bo,bq,br⟩:=zc4 aa.out)|(refine zL 45 10 Tryz.func45 #[.agg #[.slice ag ab.length ah,.slice ai ac.length aj,.slice ak ad.length al,.slice am ae.length an]] ?_;(with_reducible refine(spec_WorldOk.calls k _ _ ab _ _ ac _ _ ad _ _ ae true _ ?s1 ?s2 ?s3 ?s4 ?s5 ?s6 ?s7 ?s8 A5.out).mono ?_);(case s1=>exact zc ar.out);(case s2=>exact au.out);(case s3=>exact zc av.out);(case s4=>exact aw.out);(case s5=>exact zc ax.out);(case s6=>exact ay.out);(case s7=>exact zc az.out);(case s8=>exact aA.out);rintro e bU ⟨rfl,hb⟩;refine⟨_,rfl,?_⟩;replace aa:=zz (zJ aa hb);replace HB:=zz (zv zb hb);(try clear hb);(try clear aE);(try clear hk);(try clear hi))|(go_at_call 46;(with_reducible refine(spec_l19Item.calls k a1 _ _ l2 a3 true _ ?s1 ?s2 A7.out).mono ?_);(case s1=>exact zc aR.out);(case s2=>exact aS.out);rintro e bV ⟨rfl,hb⟩;replace aa:=zz (zJ aa hb);replace HB:=zz (zv zb hb);(try clear hb);(try clear aE);(try clear hk);(try clear hi);obtain⟨bs,bu,bv,bw,bz,bA,bB,bC⟩:=zc4 aa.out)|(refine zL 47 24 Tryz.func47 #[.agg #[.slice ag ab.length ah,.slice ai ac.length aj,.slice ak ad.length al,.slice am ae.length an],.string a1,.slice A2 l2.length c2,.string a3] ?_;(with_reducible refine(spec_l19PlanAdd.calls k _ _ ab _ _ ac _ _ ad _ _ ae a1 _ _ l2 a3 a8 _ ?s1 ?s2 ?s3 ?s4 ?s5 ?s6 ?s7 ?s8 ?s9 ?bL A9.out).mono ?_);(case s1=>exact zc ar.out);(case s2=>exact au.out);(case s3=>exact zc av.out);(case s4=>exact aw.out);(case s5=>exact zc ax.out);(case s6=>exact ay.out);(case s7=>exact zc az.out);(case s8=>exact aA.out);(case s9=>exact zc aR.out);(case bL=>exact aS.out);rintro e bW ⟨bO,rfl,a4,hb⟩;refine⟨_,rfl,?_⟩;have aU:=zz (Kd.S_lower a4 (qF zb));replace aa:=zz (zJ aa hb);replace HB:=zz (zv zb hb);(try clear hb);(try clear aE);(try clear hk);(try clear hi);(try clear a4)))
  go_ret
  exact⟨_,ze,zS aU.out,zb⟩
 replace c8:=Bool.eq_false_iff.mpr c8
 subst c8
 rw[if_neg (show¬(false=true) by decide)] at H
 obtain⟨a9,ap⟩:∃y_:List (S54),y_=(([]:List (S54))):=⟨_,rfl⟩
 replace H:(some a9)=some r:=by first|(rw[ap];with_reducible exact H)|(have aB:=(Option.bind_some _ _).symm.trans H;rw[ap];with_reducible exact aB)|(have aB:=(Option.bind_some _ _).symm.trans H;with_reducible exact aB)|with_reducible exact H|(rw[ap];exact H)|exact H
 have aQ:=zz ap
 clear ap
 obtain rfl:=zi H
 go_enter Tryz.func10,Tryz.ntmps10
 go_wp2_with(first|(refine zX 4 38 #[.slice ag ab.length ah,.slice ai ac.length aj,.slice ak ad.length al,.slice am ae.length an] ?_;intro af hg bX hbox hb;have aa:=zz (hbox);have aO:=zz ((zg:w.heap.size≤af));have aP:=zz ((zg:w.heap.size≤af));replace HB:=zz (zv zb hb);clear hb hbox hg;obtain⟨bD,bE,bF,bG,bH,bI,bJ,bK⟩:=zc4 aa.out)|(refine zL 45 10 Tryz.func45 #[.agg #[.slice ag ab.length ah,.slice ai ac.length aj,.slice ak ad.length al,.slice am ae.length an]] ?_;(with_reducible refine(spec_WorldOk.calls k _ _ ab _ _ ac _ _ ad _ _ ae true _ ?s1 ?s2 ?s3 ?s4 ?s5 ?s6 ?s7 ?s8 A5.out).mono ?_);(case s1=>exact zc ar.out);(case s2=>exact au.out);(case s3=>exact zc av.out);(case s4=>exact aw.out);(case s5=>exact zc ax.out);(case s6=>exact ay.out);(case s7=>exact zc az.out);(case s8=>exact aA.out);rintro e bY ⟨rfl,hb⟩;refine⟨_,rfl,?_⟩;replace aa:=zz (zJ aa hb);replace HB:=zz (zv zb hb);(try clear hb);(try clear aE);(try clear hk);(try clear hi))|(go_at_call 46;(with_reducible refine(spec_l19Item.calls k a1 _ _ l2 a3 false _ ?s1 ?s2 A7.out).mono ?_);(case s1=>exact zc aR.out);(case s2=>exact aS.out);rintro e bZ ⟨rfl,hb⟩;replace aa:=zz (zJ aa hb);replace HB:=zz (zv zb hb);(try clear hb);(try clear aE);(try clear hk);(try clear hi))|(refine zN 19 ?_;refine Kd.S_lit k54 _ 54 ?hg (N:=19) ?hd (xs:=([]:List (S54))) (inner:=[]) (ok:=fun _=>True) (okp:=fun _=>True) ?hr ?hp (fun _ hk=>hk) trivial (Below.refl _ _) (Nat.le_refl _) (by simp) ?_;(case hd=>rfl);(case hg=>rfl);(case hr=>first|(go_simp;done)|(go_simp;rfl));(case hp=>exact(Reps.none _ _));intro bP b0 aD hb hg_ hnew_;clear hg_ hnew_;(first|rw[←aQ.out] at aD|(simp only[Int.reduceToNat] at aD;rw[←aQ.out] at aD));have aV:=zz (Kd.S_lower aD (qF zb));replace aa:=zz (zJ aa hb);replace HB:=zz (zv zb hb);clear hb aD))
 go_ret
 exact⟨_,ze,zS aV.out,zb⟩
mutual
def impl_addCode.j0:Nat→List (S103)→ByteArray→List (S87)→Bool→Option (Int)
 |0,_,_,_,_=>none
 |k+1,x0,x1,x2,ag=>if ag=true then(some 5) else((impl_itemOf.f k x0 x1).bind fun aa=>(if aa≥0 then(if 0≤aa then(if aa<(x0.length:Int) then((impl_TreeSum.f k x2).bind fun ae=>(if((qE x0 aa).f1).toList=ae.toList then(some 1) else(some 2))) else(none)) else(none)) else(impl_addCode.l0 k x0 x1 x0 (x0.length:Int) 0)))
def impl_addCode.l0:Nat→List (S103)→ByteArray→List (S103)→Int→Int→Option (Int)
 |0,_,_,_,_,_=>none
 |k+1,x0,x1,ac,ad,ab=>if ab<ad then(if 0≤ab then(if ab<(ac.length:Int) then((impl_RefsIn.f k ((qE ac ab).f4) (([x1]:List ByteArray))).bind fun af=>(if(af.length:Int)>0 then(some 3) else(impl_addCode.l0 k x0 x1 ac ad (wrap64 (ab+1))))) else(none)) else(none)) else(if(x0.length:Int)≥300 then(some 4) else(some 0))
end
def impl_addCode.f(k:Nat)(l0:List (S103))(a1:ByteArray)(l2:List (S87))(a3:ByteArray):Option (Int):=(impl_StoreOk.f k l0).bind fun aa=>(if aa=true then((impl_AddressOk.f k a1).bind fun ab=>(if ab=true then(if a3.toList=([]:List UInt8) then((impl_TreeOk.f k l2).bind fun ac=>(impl_addCode.j0 k l0 a1 l2 (!ac))) else((impl_AddressOk.f k a3).bind fun ad=>(if ad=true then((impl_TreeOk.f k l2).bind fun ae=>(impl_addCode.j0 k l0 a1 l2 (!ae))) else(impl_addCode.j0 k l0 a1 l2 true)))) else(impl_addCode.j0 k l0 a1 l2 true))) else(impl_addCode.j0 k l0 a1 l2 true))
def impl_addCode.T5:Bool×List (List Nat×List Nat):=(true,[([],[]),([],[]),([0,1],[0,1]),([2],[2]),([3],[3]),([],[]),([5],[5]),([4,6],[4,6])])
def impl_addCode.B5:List Nat:=[0,0,3,7,15,0,32,127]
theorem impl_addCode.tab5:rtab .any (opsOf Tryz.f103 5)=impl_addCode.T5:=by kernel_rfl
theorem impl_addCode.bits5:waitsOk impl_addCode.T5.2 impl_addCode.B5=true:=by kernel_rfl
theorem impl_addCode.calls(k:Nat)(A0:Option Addr)(c0:Nat)(l0:List (S103))(a1:ByteArray)(A2:Option Addr)(c2:Nat)(l2:List (S87))(a3:ByteArray)(r:Int)(w:World)(bS:Kd.C k103 w A0 l0.length l0)(bT:l0.length≤c0)(bU:Kd.C k87 w A2 l2.length l2)(bV:l2.length≤c2)(hG_:GOK w)(h:impl_addCode.f k l0 a1 l2 a3=some r):
 Calls Tryz.prog 103 #[.slice A0 l0.length c0,.string a1,.slice A2 l2.length c2,.string a3] w fun e w'=>e= .returned (.int .i64 r)∧Below w.heap.size w w':=by
 have cK:=Tryz.underlying103
 have HG:=zz hG_
 clear hG_
 have aI:=zz bS
 have aT:=zz bT
 clear bS bT
 have bg:=zz bU
 have bh:=zz bV
 clear bU bV
 have HB:=yB w
 unfold impl_addCode.f at h
 have H:=h
 clear h
 have bu:=zz H
 clear H
 go_enter Tryz.func103,Tryz.ntmps103
 go_upto_region 1 with(fail)
 go_cut [33] (fun cE wc=>∃(kq:Nat) (aU:Bool),cE= .bool aU∧qC (impl_addCode.j0 kq l0 a1 l2 aU=some r)∧qC (kq≤k)∧qC (Below w.heap.size w wc))
 case first=>
  have H:=bu.out
  clear bu
  replace H:=zf H
  obtain⟨b3,bW,H⟩:=H
  try dsimp only at H
  have A6:=zz bW
  clear bW
  by_cases c7:b3=true
  ·subst c7
   rw[if_pos rfl] at H
   replace H:=zf H
   obtain⟨b4,bX,H⟩:=H
   try dsimp only at H
   have A8:=zz bX
   clear bX
   by_cases c9:b4=true
   ·subst c9
    rw[if_pos rfl] at H
    by_cases aW:a3.toList=([]:List UInt8)
    ·rw[if_pos aW] at H
     obtain⟨aG,bb⟩:=zq aW
     clear aW
     (first|rw[aG]|(simp only[i64_w,i32_w];rw[aG])|skip)
     replace H:=zf H
     obtain⟨bv,bw,H⟩:=H
     try dsimp only at H
     have cF:=zz bw
     clear bw
     have H':=zz H
     clear H
     go_wp2_with(first|(refine zL 99 13 Tryz.func99 #[.slice A0 l0.length c0] ?_;(with_reducible refine(impl_StoreOk.calls k _ _ l0 true _ ?s1 ?s2 ?s3 A6.out).mono ?_);(case s1=>exact zc aI.out);(case s2=>exact aT.out);(case s3=>exact zG);rintro e cS ⟨rfl,hb⟩;refine⟨_,rfl,?_⟩;replace HB:=zz (zv zb hb);(try clear hb);(try clear ak);(try clear hk);(try clear hi))|(go_at_call 102;(with_reducible refine(impl_AddressOk.calls k a1 true _ A8.out).mono ?_);rintro e w' ⟨rfl,⟨nd,rfl⟩⟩)|(go_at_call 82;(with_reducible refine(impl_TreeOk.calls k _ _ l2 bv _ ?s1 ?s2 ?s3 cF.out).mono ?_);(case s1=>exact zC bg.out);(case s2=>exact bh.out);(case s3=>exact zG);rintro e cT ⟨rfl,hb⟩;replace HB:=zz (zv zb hb);(try clear hb);(try clear ak);(try clear hk);(try clear hi)))
     go_meet
     case rel=>exact⟨_,(!bv),zr,H',⟨by first|omega|exact Nat.le_refl _⟩,⟨zb⟩⟩
    ·rw[if_neg aW] at H
     obtain⟨aG,bb⟩:=zw aW
     (first|rw[aG]|(simp only[i64_w,i32_w];rw[aG])|skip)
     replace H:=zf H
     obtain⟨b5,bz,H⟩:=H
     try dsimp only at H
     have bY:=zz bz
     clear bz
     by_cases ba:b5=true
     ·subst ba
      rw[if_pos rfl] at H
      replace H:=zf H
      obtain⟨bA,bB,H⟩:=H
      try dsimp only at H
      have cG:=zz bB
      clear bB
      have H':=zz H
      clear H
      go_wp2_with(first|(refine zL 99 13 Tryz.func99 #[.slice A0 l0.length c0] ?_;(with_reducible refine(impl_StoreOk.calls k _ _ l0 true _ ?s1 ?s2 ?s3 A6.out).mono ?_);(case s1=>exact zc aI.out);(case s2=>exact aT.out);(case s3=>exact zG);rintro e cU ⟨rfl,hb⟩;refine⟨_,rfl,?_⟩;replace HB:=zz (zv zb hb);(try clear hb);(try clear ak);(try clear hk);(try clear hi))|(go_at_call 102;(with_reducible refine(impl_AddressOk.calls k a1 true _ A8.out).mono ?_);rintro e w' ⟨rfl,⟨nd,rfl⟩⟩)|(go_at_call 102;(with_reducible refine(impl_AddressOk.calls k a3 true _ bY.out).mono ?_);rintro e w' ⟨rfl,⟨nd,rfl⟩⟩)|(go_at_call 82;(with_reducible refine(impl_TreeOk.calls k _ _ l2 bA _ ?s1 ?s2 ?s3 cG.out).mono ?_);(case s1=>exact zC bg.out);(case s2=>exact bh.out);(case s3=>exact zG);rintro e cV ⟨rfl,hb⟩;replace HB:=zz (zv zb hb);(try clear hb);(try clear ak);(try clear hk);(try clear hi)))
      go_meet
      case rel=>exact⟨_,(!bA),zr,H',⟨by first|omega|exact Nat.le_refl _⟩,⟨zb⟩⟩
     ·replace ba:=Bool.eq_false_iff.mpr ba
      subst ba
      rw[if_neg (show¬(false=true) by decide)] at H
      have H':=zz H
      clear H
      go_wp2_with(first|(refine zL 99 13 Tryz.func99 #[.slice A0 l0.length c0] ?_;(with_reducible refine(impl_StoreOk.calls k _ _ l0 true _ ?s1 ?s2 ?s3 A6.out).mono ?_);(case s1=>exact zc aI.out);(case s2=>exact aT.out);(case s3=>exact zG);rintro e cW ⟨rfl,hb⟩;refine⟨_,rfl,?_⟩;replace HB:=zz (zv zb hb);(try clear hb);(try clear ak);(try clear hk);(try clear hi))|(go_at_call 102;(with_reducible refine(impl_AddressOk.calls k a1 true _ A8.out).mono ?_);rintro e w' ⟨rfl,⟨nd,rfl⟩⟩)|(go_at_call 102;(with_reducible refine(impl_AddressOk.calls k a3 false _ bY.out).mono ?_);rintro e w' ⟨rfl,⟨nd,rfl⟩⟩))
      go_meet
      case rel=>exact⟨_,(true),zr,H',⟨by first|omega|exact Nat.le_refl _⟩,⟨zb⟩⟩
   ·replace c9:=Bool.eq_false_iff.mpr c9
    subst c9
    rw[if_neg (show¬(false=true) by decide)] at H
    have H':=zz H
    clear H
    go_wp2_with(first|(refine zL 99 13 Tryz.func99 #[.slice A0 l0.length c0] ?_;(with_reducible refine(impl_StoreOk.calls k _ _ l0 true _ ?s1 ?s2 ?s3 A6.out).mono ?_);(case s1=>exact zc aI.out);(case s2=>exact aT.out);(case s3=>exact zG);rintro e cX ⟨rfl,hb⟩;refine⟨_,rfl,?_⟩;replace HB:=zz (zv zb hb);(try clear hb);(try clear ak);(try clear hk);(try clear hi))|(go_at_call 102;(with_reducible refine(impl_AddressOk.calls k a1 false _ A8.out).mono ?_);rintro e w' ⟨rfl,⟨nd,rfl⟩⟩))
    go_meet
    case rel=>exact⟨_,(true),zr,H',⟨by first|omega|exact Nat.le_refl _⟩,⟨zb⟩⟩
  ·replace c7:=Bool.eq_false_iff.mpr c7
   subst c7
   rw[if_neg (show¬(false=true) by decide)] at H
   have H':=zz H
   clear H
   go_wp2_with(first|(refine zL 99 13 Tryz.func99 #[.slice A0 l0.length c0] ?_;(with_reducible refine(impl_StoreOk.calls k _ _ l0 false _ ?s1 ?s2 ?s3 A6.out).mono ?_);(case s1=>exact zc aI.out);(case s2=>exact aT.out);(case s3=>exact zG);rintro e cY ⟨rfl,hb⟩;refine⟨_,rfl,?_⟩;replace HB:=zz (zv zb hb);(try clear hb);(try clear ak);(try clear hk);(try clear hi)))
   go_meet
   case rel=>exact⟨_,(true),zr,H',⟨by first|omega|exact Nat.le_refl _⟩,⟨zb⟩⟩
 case rest=>
  clear bu
  try clear c1
  try clear c2
  try clear p2
  try clear c7
  try clear c9
  try clear aW
  try clear aG
  try clear bb
  try clear ba
  obtain⟨kq,aU,rfl,HA,bZ,HB⟩:=hcut
  cases kq with
  |zero=>exact absurd HA.out (by simp[impl_addCode.j0])
  |succ aX=>
   have H:=HA.out
   clear HA
   simp only[impl_addCode.j0] at H
   by_cases bd:aU=true
   ·subst bd
    rw[if_pos rfl] at H
    obtain rfl:=zi H
    go_wp2
    go_ret
    exact⟨ze,zb⟩
   replace bd:=Bool.eq_false_iff.mpr bd
   subst bd
   rw[if_neg (show¬(false=true) by decide)] at H
   replace H:=zf H
   obtain⟨aa,bC,H⟩:=H
   try dsimp only at H
   have bD:=zz bC
   clear bC
   refine yE H ?_ ?_<;>clear H<;>intro bI H
   ·replace H:=yAD H
    obtain⟨bJ,H⟩:=H
    replace H:=yAD H
    obtain⟨bK,H⟩:=H
    replace H:=zf H
    obtain⟨bE,bF,H⟩:=H
    try dsimp only at H
    have b0:=zz bF
    clear bF
    refine yCn H ?_ ?_<;>clear H<;>intro bi H
    ·obtain⟨bj,bk⟩:=zw bi
     obtain rfl:=zi H
     try go_wp2_with(first|(refine zL 81 36 Tryz.func81 #[.slice A0 l0.length c0,.string a1] ?_;(with_reducible refine(impl_itemOf.calls aX _ _ l0 a1 aa _ ?s1 ?s2 bD.out).mono ?_);(case s1=>exact zc aI.out);(case s2=>exact aT.out);rintro e cH ⟨rfl,hb⟩;refine⟨_,rfl,?_⟩;replace HB:=zz (zv zb hb);(try clear hb);(try clear ak);(try clear hk);(try clear hi)))
     replace HB:=zz (qK HB.out)
     have aJ:0≤(aa:Int):=z2
     have aK:aa<(l0.length:Int):=z2
     obtain⟨ac,aY,aZ,a0,a2,be,ad,ae,af,ag,ah,al,am,an,ao⟩:=at_T103 aI.out aa aJ aK
     have ap:=ah
     have ar:=ag
     have au:=af
     have av:=ae
     have aw:=ad
     cases be
     replace ad:=z3 HB.out ad
     replace ae:=z3 HB.out ae
     replace af:=z3 HB.out af
     replace ag:=z3 HB.out ag
     replace ah:=z3 HB.out ah
     have aO:=zz am
     have bo:=zz al
     clear am al
     have aP:=zz ao
     have bq:=zz an
     clear ao an
     replace aJ:=eq_true aJ
     replace aK:=eq_true aK
     refine start_ (n:=8) (S:=fun w'=>w'.cell? (ac.add ((aa).toNat*5))=some (.string ((qE l0 aa).f0))∧w'.cell? ⟨(ac.add ((aa).toNat*5)).block,(ac.add ((aa).toNat*5)).off+1,none⟩=some (.string ((qE l0 aa).f1))∧w'.cell? ⟨(ac.add ((aa).toNat*5)).block,(ac.add ((aa).toNat*5)).off+2,none⟩=some (.slice aY ((qE l0 aa).f2).length aZ)∧w'.cell? ⟨(ac.add ((aa).toNat*5)).block,(ac.add ((aa).toNat*5)).off+3,none⟩=some (.string ((qE l0 aa).f3))∧w'.cell? ⟨(ac.add ((aa).toNat*5)).block,(ac.add ((aa).toNat*5)).off+4,none⟩=some (.slice a0 ((qE l0 aa).f4).length a2)) (ds:=[]) (bp 0 8) zk rfl rfl ⟨(z3 HB.out aw),(z3 HB.out av),(z3 HB.out au),(z3 HB.out ar),(z3 HB.out ap)⟩ (fun hHeld=>?_);refine with_tabW impl_addCode.tab5 impl_addCode.bits5 (fun HT_ HW_=>?_)
     generalize cH.drew=cZ at HB aO aP ad ae af ag ah hHeld⊢
     refine zp 0 39 (bp 1 7) ?_
     refine zp 1 40 (bp 2 6) ?_
     refine zp 2 41 (bp 3 5) ?_
     refine zp 3 42 (bp 4 4) ?_
     refine zp 5 44 (bm 8 47) ?_
     refine zt 4 43 (bp 6 2) ?_
     refine zo 6 45 (bp 7 1) fun K hK=>?_
     refine zh Tryz.func83 #[.slice A2 l2.length c2] ?_
     with_reducible refine(impl_TreeSum.calls aX _ _ l2 bE _ ?s1 ?s2 ?s3 b0.out).mono ?_
     (case s1=>exact zc bg.out)
     (case s2=>exact bh.out)
     (case s3=>exact zG)
     rintro e c5 ⟨rfl,hb⟩
     refine⟨_,rfl,?_⟩
     replace HB:=zz (zv zb hb)
     (try clear hb)
     (try clear ak)
     (try clear hk)
     (try clear hi)
     refine hK.out _ _ ⟨(z3 HB.out aw),(z3 HB.out av),(z3 HB.out au),(z3 HB.out ar),(z3 HB.out ap)⟩ (fun hHeld=>?_)
     clear hK K
     refine zn 45 ?_
     refine zp 7 46 (bp 8 0) ?_
     refine done_ (done_of HT_.out zk) ?_
     try go_wp2
     go_ret
     exact⟨ze,zb⟩
    obtain⟨bj,bk⟩:=zq bi
    clear bi
    obtain rfl:=zi H
    try go_wp2_with(first|(refine zL 81 36 Tryz.func81 #[.slice A0 l0.length c0,.string a1] ?_;(with_reducible refine(impl_itemOf.calls aX _ _ l0 a1 aa _ ?s1 ?s2 bD.out).mono ?_);(case s1=>exact zc aI.out);(case s2=>exact aT.out);rintro e cI ⟨rfl,hb⟩;refine⟨_,rfl,?_⟩;replace HB:=zz (zv zb hb);(try clear hb);(try clear ak);(try clear hk);(try clear hi)))
    replace HB:=zz (qK HB.out)
    have aJ:0≤(aa:Int):=z2
    have aK:aa<(l0.length:Int):=z2
    obtain⟨ac,aY,aZ,a0,a2,be,ad,ae,af,ag,ah,al,am,an,ao⟩:=at_T103 aI.out aa aJ aK
    have ap:=ah
    have ar:=ag
    have au:=af
    have av:=ae
    have aw:=ad
    cases be
    replace ad:=z3 HB.out ad
    replace ae:=z3 HB.out ae
    replace af:=z3 HB.out af
    replace ag:=z3 HB.out ag
    replace ah:=z3 HB.out ah
    have aO:=zz am
    have bo:=zz al
    clear am al
    have aP:=zz ao
    have bq:=zz an
    clear ao an
    replace aJ:=eq_true aJ
    replace aK:=eq_true aK
    refine start_ (n:=8) (S:=fun w'=>w'.cell? (ac.add ((aa).toNat*5))=some (.string ((qE l0 aa).f0))∧w'.cell? ⟨(ac.add ((aa).toNat*5)).block,(ac.add ((aa).toNat*5)).off+1,none⟩=some (.string ((qE l0 aa).f1))∧w'.cell? ⟨(ac.add ((aa).toNat*5)).block,(ac.add ((aa).toNat*5)).off+2,none⟩=some (.slice aY ((qE l0 aa).f2).length aZ)∧w'.cell? ⟨(ac.add ((aa).toNat*5)).block,(ac.add ((aa).toNat*5)).off+3,none⟩=some (.string ((qE l0 aa).f3))∧w'.cell? ⟨(ac.add ((aa).toNat*5)).block,(ac.add ((aa).toNat*5)).off+4,none⟩=some (.slice a0 ((qE l0 aa).f4).length a2)) (ds:=[]) (bp 0 8) zk rfl rfl ⟨(z3 HB.out aw),(z3 HB.out av),(z3 HB.out au),(z3 HB.out ar),(z3 HB.out ap)⟩ (fun hHeld=>?_);refine with_tabW impl_addCode.tab5 impl_addCode.bits5 (fun HT_ HW_=>?_)
    generalize cI.drew=da at HB aO aP ad ae af ag ah hHeld⊢
    refine zp 0 39 (bp 1 7) ?_
    refine zp 1 40 (bp 2 6) ?_
    refine zp 2 41 (bp 3 5) ?_
    refine zp 3 42 (bp 4 4) ?_
    refine zp 5 44 (bm 8 47) ?_
    refine zt 4 43 (bp 6 2) ?_
    refine zo 6 45 (bp 7 1) fun K hK=>?_
    refine zh Tryz.func83 #[.slice A2 l2.length c2] ?_
    with_reducible refine(impl_TreeSum.calls aX _ _ l2 bE _ ?s1 ?s2 ?s3 b0.out).mono ?_
    (case s1=>exact zc bg.out)
    (case s2=>exact bh.out)
    (case s3=>exact zG)
    rintro e db ⟨rfl,hb⟩
    refine⟨_,rfl,?_⟩
    replace HB:=zz (zv zb hb)
    (try clear hb)
    (try clear ak)
    (try clear hk)
    (try clear hi)
    refine hK.out _ _ ⟨(z3 HB.out aw),(z3 HB.out av),(z3 HB.out au),(z3 HB.out ar),(z3 HB.out ap)⟩ (fun hHeld=>?_)
    clear hK K
    refine zn 45 ?_
    refine zp 7 46 (bp 8 0) ?_
    refine done_ (done_of HT_.out zk) ?_
    try go_wp2
    go_ret
    exact⟨ze,zb⟩
   have H':=zz H
   clear H
   go_wp2_with(first|(refine zL 81 36 Tryz.func81 #[.slice A0 l0.length c0,.string a1] ?_;(with_reducible refine(impl_itemOf.calls aX _ _ l0 a1 aa _ ?s1 ?s2 bD.out).mono ?_);(case s1=>exact zc aI.out);(case s2=>exact aT.out);rintro e dc ⟨rfl,hb⟩;refine⟨_,rfl,?_⟩;replace HB:=zz (zv zb hb);(try clear hb);(try clear ak);(try clear hk);(try clear hi)))
   go_loopg[49] aX (fun kq cJ w'=>∃(ab:Int),cJ= .int .i64 ab∧qC (impl_addCode.l0 kq l0 a1 l0 (l0.length:Int) ab=some r)∧qC (kq≤aX)∧qC (Below w.heap.size w w'))
   case atStart=>exact⟨(0),zr,H',⟨Nat.le_refl _⟩,⟨zb⟩⟩
   case round=>
    clear H'
    try clear c1
    try clear c2
    try clear p2
    try clear c6
    try clear p6
    try clear q6
    try clear de
    try clear c7
    try clear c8
    try clear c9
    try clear aW
    try clear aG
    try clear bb
    try clear ba
    try clear bd
    try clear df
    try clear bI
    try clear dh
    try clear bJ
    try clear di
    try clear bK
    try clear bi
    try clear bj
    try clear bk
    try clear ad
    try clear ae
    try clear af
    try clear ag
    try clear ah
    try clear p2
    try clear aJ
    try clear aK
    obtain⟨ab,rfl,HA,b1,HB⟩:=hrel
    cases gk with
    |zero=>exact absurd HA.out (by simp[impl_addCode.l0])
    |succ k2=>
     have H:=HA.out
     clear HA
     simp only[impl_addCode.l0] at H
     refine yD H ?_ ?_<;>clear H<;>intro cL H
     ·replace H:=yAD H
      obtain⟨cM,H⟩:=H
      replace H:=yAD H
      obtain⟨cN,H⟩:=H
      obtain⟨a4,aN⟩:∃y_:List ByteArray,y_=(([a1]:List ByteArray)):=⟨_,rfl⟩
      replace H:((impl_RefsIn.f k2 ((qE l0 ab).f4) a4).bind fun aQ=>(if(aQ.length:Int)>0 then(some 3) else(impl_addCode.l0 k2 l0 a1 l0 (l0.length:Int) (wrap64 (ab+1)))))=some r:=by first|(rw[aN];with_reducible exact H)|(have bG:=(Option.bind_some _ _).symm.trans H;rw[aN];with_reducible exact bG)|(have bG:=(Option.bind_some _ _).symm.trans H;with_reducible exact bG)|with_reducible exact H|(rw[aN];exact H)|exact H
      have aV:=zz aN
      clear aN
      replace H:=zf H
      obtain⟨aQ,bH,H⟩:=H
      try dsimp only at H
      have b2:=zz bH
      clear bH
      refine yC H ?_ ?_<;>clear H<;>intro bl H
      ·have bL:=zgt bl
       have bM:decide (0<aQ.length)=true:=z1 (by omega)
       clear bl
       obtain rfl:=zi H
       have b6:=yt (0≤(ab:Int))
       have b7:=yt (ab<(l0.length:Int))
       obtain⟨bN,a5,a6,aL,aM,bf,ax,ay,az,aA,aB,aC,aD,aE,aF⟩:=at_T103 aI.out ab z2 z2
       cases bf
       replace ax:=z3 HB.out ax
       replace ay:=z3 HB.out ay
       replace az:=z3 HB.out az
       replace aA:=z3 HB.out aA
       replace aB:=z3 HB.out aB
       have br:=zz aD
       have bs:=zz aC
       clear aD aC
       have aR:=zz aF
       have aS:=zz aE
       clear aF aE
       go_wp2_with(first|(refine zX 11 103 #[.string (⟨#[]⟩:ByteArray),.string (⟨#[]⟩:ByteArray),.slice none 0 0,.string (⟨#[]⟩:ByteArray),.slice none 0 0] ?_;intro aH hg dj hbox hb;have aj:=zz (hbox);have bO:=zz ((zg:w.heap.size≤aH));have bP:=zz ((zg:w.heap.size≤aH));replace HB:=zz (zv zb hb);clear hb hbox hg;obtain⟨ci,cj,ck,cm,cn,co,cp,cq,cr,ct⟩:=zc5 aj.out)|(refine zN 56 ?_;refine Kd.R_lit Kd.string _ 9 ?hg (N:=56) ?hd (xs:=([a1]:List ByteArray)) (inner:=[.string a1]) (ok:=fun _=>True) (okp:=fun _=>True) ?hr ?hp (fun _ hk=>hk) trivial (Below.refl _ _) (Nat.le_refl _) (by simp) ?_;(case hd=>rfl);(case hg=>rfl);(case hr=>first|(go_simp;done)|(go_simp;rfl));(case hp=>exact(Reps.one (show Kd.M Kd.string _ _ _ a1 [.string a1] from rfl) (Reps.none _ _)));intro b8 dk a7 hb hg_ hnew_;clear hg_ hnew_;(first|rw[←aV.out] at a7|(simp only[Int.reduceToNat] at a7;rw[←aV.out] at a7));have ai:=zz (Kd.qY a7 (qF zb));replace aj:=zz (qS (g:=aH) (o:= .cells #[.string ((qE l0 ab).f0),.string ((qE l0 ab).f1),.slice a5 ((qE l0 ab).f2).length a6,.string ((qE l0 ab).f3),.slice aL ((qE l0 ab).f4).length aM] 103 (0,0)) (yP aj.out) hb);replace HB:=zz (zv zb hb);clear hb a7;obtain⟨b9,ca,cb⟩:=Kd.qZ ai.out;subst cb)|(refine zL 158 57 Tryz.func158 #[.slice aL ((qE l0 ab).f4).length aM,.slice b9 a4.length ca] ?_;(with_reducible refine(impl_RefsIn.calls k2 _ _ ((qE l0 ab).f4) _ _ a4 aQ _ ?s1 ?s2 ?s3 ?s4 ?s5 b2.out).mono ?_);(case s1=>exact zc aR.out);(case s2=>exact aS.out);(case s3=>repeat(first|exact(Kd.qM ai.out).2.2|(with_reducible refine Kd.C_alloc ?_ _)|(with_reducible refine Kd.C_drewN ?_ _)|(with_reducible refine Kd.C_drew ?_)));(case s4=>exact(Kd.qM ai.out).2.1);(case s5=>exact zG);rintro e dl ⟨cc,rfl,a8,hb⟩;refine⟨_,rfl,?_⟩;have bc:=zz (Kd.qY (Kd.R_new' a8 (Kd.R_lt (zR ai.out))) (qF zb));replace ai:=zz (Kd.R_elder' (zR ai.out) (Kd.R_base a8) hb);replace aj:=zz (zJ aj hb);replace HB:=zz (zv zb hb);(try clear hb);(try clear ak);(try clear hk);(try clear hi);(try clear a8);obtain⟨cO,cP,cd⟩:=Kd.qZ bc.out;subst cd))
       go_ret
       exact⟨ze,zb⟩
      have bL:=zgtn bl
      have bM:decide (0<aQ.length)=false:=z0 (by omega)
      clear bl
      have H':=zz H
      clear H
      have b6:=yt (0≤(ab:Int))
      have b7:=yt (ab<(l0.length:Int))
      obtain⟨bN,a5,a6,aL,aM,bf,ax,ay,az,aA,aB,aC,aD,aE,aF⟩:=at_T103 aI.out ab z2 z2
      cases bf
      replace ax:=z3 HB.out ax
      replace ay:=z3 HB.out ay
      replace az:=z3 HB.out az
      replace aA:=z3 HB.out aA
      replace aB:=z3 HB.out aB
      have br:=zz aD
      have bs:=zz aC
      clear aD aC
      have aR:=zz aF
      have aS:=zz aE
      clear aF aE
      go_wp2_with(first|(refine zX 11 103 #[.string (⟨#[]⟩:ByteArray),.string (⟨#[]⟩:ByteArray),.slice none 0 0,.string (⟨#[]⟩:ByteArray),.slice none 0 0] ?_;intro aH hg dm hbox hb;have aj:=zz (hbox);have bO:=zz ((zg:w.heap.size≤aH));have bP:=zz ((zg:w.heap.size≤aH));replace HB:=zz (zv zb hb);clear hb hbox hg;obtain⟨cu,cv,cw,cx,cy,cz,cA,cB,cC,cD⟩:=zc5 aj.out)|(refine zN 56 ?_;refine Kd.R_lit Kd.string _ 9 ?hg (N:=56) ?hd (xs:=([a1]:List ByteArray)) (inner:=[.string a1]) (ok:=fun _=>True) (okp:=fun _=>True) ?hr ?hp (fun _ hk=>hk) trivial (Below.refl _ _) (Nat.le_refl _) (by simp) ?_;(case hd=>rfl);(case hg=>rfl);(case hr=>first|(go_simp;done)|(go_simp;rfl));(case hp=>exact(Reps.one (show Kd.M Kd.string _ _ _ a1 [.string a1] from rfl) (Reps.none _ _)));intro b8 dn a9 hb hg_ hnew_;clear hg_ hnew_;(first|rw[←aV.out] at a9|(simp only[Int.reduceToNat] at a9;rw[←aV.out] at a9));have ai:=zz (Kd.qY a9 (qF zb));replace aj:=zz (qS (g:=aH) (o:= .cells #[.string ((qE l0 ab).f0),.string ((qE l0 ab).f1),.slice a5 ((qE l0 ab).f2).length a6,.string ((qE l0 ab).f3),.slice aL ((qE l0 ab).f4).length aM] 103 (0,0)) (yP aj.out) hb);replace HB:=zz (zv zb hb);clear hb a9;obtain⟨ce,cf,cg⟩:=Kd.qZ ai.out;subst cg)|(refine zL 158 57 Tryz.func158 #[.slice aL ((qE l0 ab).f4).length aM,.slice ce a4.length cf] ?_;(with_reducible refine(impl_RefsIn.calls k2 _ _ ((qE l0 ab).f4) _ _ a4 aQ _ ?s1 ?s2 ?s3 ?s4 ?s5 b2.out).mono ?_);(case s1=>exact zc aR.out);(case s2=>exact aS.out);(case s3=>repeat(first|exact(Kd.qM ai.out).2.2|(with_reducible refine Kd.C_alloc ?_ _)|(with_reducible refine Kd.C_drewN ?_ _)|(with_reducible refine Kd.C_drew ?_)));(case s4=>exact(Kd.qM ai.out).2.1);(case s5=>exact zG);rintro e dp ⟨cc,rfl,a8,hb⟩;refine⟨_,rfl,?_⟩;have bc:=zz (Kd.qY (Kd.R_new' a8 (Kd.R_lt (zR ai.out))) (qF zb));replace ai:=zz (Kd.R_elder' (zR ai.out) (Kd.R_base a8) hb);replace aj:=zz (zJ aj hb);replace HB:=zz (zv zb hb);(try clear hb);(try clear ak);(try clear hk);(try clear hi);(try clear a8);obtain⟨cQ,cR,ch⟩:=Kd.qZ bc.out;subst ch))
      go_roundg k2
      case measure=>have:=bZ.out;have:=b1.out;omega
      case rel=>exact⟨(wrap64 (ab+1)),zr,H',⟨by have:=bZ.out;have:=b1.out;omega⟩,⟨zb⟩⟩
     refine yC H ?_ ?_<;>clear H<;>intro bn H
     ·have bQ:=zge bn
      have bR:decide (300≤l0.length)=true:=z1 (by omega)
      clear bn
      obtain rfl:=zi H
      go_wp2
      go_ret
      exact⟨ze,zb⟩
     have bQ:=zgen bn
     have bR:decide (300≤l0.length)=false:=z0 (by omega)
     clear bn
     obtain rfl:=zi H
     go_wp2
     go_ret
     exact⟨ze,zb⟩
def impl_copyTree.f(l0:List (S87)):Option ((List (S87))):=(some (([]:List (S87)):List (S87))).bind fun aa=>(if aa.length+l0.length<2932031007402 then(some (aa++l0)) else(none))
theorem impl_copyTree.calls(A0:Option Addr)(c0:Nat)(l0:List (S87))(r:List (S87))(w:World)(aj:Kd.C k87 w A0 l0.length l0)(ak:l0.length≤c0)(h:impl_copyTree.f l0=some r):
 Calls Tryz.prog 104 #[.slice A0 l0.length c0] w fun e w'=>∃al:Value,e= .returned (al)∧Kd.R k87 87 w' w.heap.size (fun _=>True) al r∧Below w.heap.size w w':=by
 have ap:=zz aj
 have au:=zz ak
 clear aj ak
 have HB:=yB w
 unfold impl_copyTree.f at h
 have H:=h
 clear h
 obtain⟨ad,aa⟩:∃y_:List (S87),y_=(([]:List (S87))):=⟨_,rfl⟩
 replace H:(if ad.length+l0.length<2932031007402 then(some (ad++l0)) else(none))=some r:=by first|(rw[aa];with_reducible exact H)|(have ac:=(Option.bind_some _ _).symm.trans H;rw[aa];with_reducible exact ac)|(have ac:=(Option.bind_some _ _).symm.trans H;with_reducible exact ac)|with_reducible exact H|(rw[aa];exact H)|exact H
 have af:=zz aa
 clear aa
 replace H:=yA H
 obtain⟨c2,H⟩:=H
 have am:=zz c2
 clear c2
 obtain⟨an,ab⟩:∃y_:List (S87),y_=(ad++l0):=⟨_,rfl⟩
 replace H:(some an)=some r:=by first|(rw[ab];with_reducible exact H)|(have ac:=(Option.bind_some _ _).symm.trans H;rw[ab];with_reducible exact ac)|(have ac:=(Option.bind_some _ _).symm.trans H;with_reducible exact ac)|with_reducible exact H|(rw[ab];exact H)|exact H
 have ah:=zz ab
 clear ab
 obtain rfl:=zi H
 go_enter Tryz.func104,Tryz.ntmps104
 go_wp2_with(first|(refine zN 3 ?_;refine Kd.R_lit k87 _ 87 ?hg (N:=3) ?hd (xs:=([]:List (S87))) (inner:=[]) (ok:=fun _=>True) (okp:=fun _=>True) ?hr ?hp (fun _ hk=>hk) trivial (Below.refl _ _) (Nat.le_refl _) (by simp) ?_;(case hd=>rfl);(case hg=>rfl);(case hr=>first|(go_simp;done)|(go_simp;rfl));(case hp=>exact(Reps.none _ _));intro ao w3 ae hb hg_ hnew_;clear hg_ hnew_;(first|rw[←af.out] at ae|(simp only[Int.reduceToNat] at ae;rw[←af.out] at ae));have ag:=zz (Kd.qY ae (qF zb));replace HB:=zz (zv zb hb);clear hb ae)|((with_reducible refine qT (b:= .append) (xs:= #[.tmp 3,.tmp 4]) rfl ?_);at_builtin;refine Kd.R_append_rows k87 (w0:=w) w.heap.size rfl (.tmp 3) (.tmp 4) 40 87 (.agg #[(.string ⟨#[]⟩),(.int .i64 0),(.string ⟨#[]⟩),(.bool false)]) 48 rfl Tryz.underlying40 info87 rfl (by decide) (by omega) ao ad l0 _ _ _ (fun _=>True) (fun _=>False) rfl rfl ?aO ?aR (fun _ _ h=>h) (fun _ h=>h.elim) ?aF ?aB ?aS ?aL ?_;(case aR=>exact zc ap.out);(case aB=>exact zb);(case aF=>exact(fun _ _=>trivial));(case aO=>exact(zR ag.out));(case aS=>exact(qF zb));(case aL=>have:=am.out;omega);intro ar w5 ho hb hg hat;rw[←ah.out] at ho;replace HB:=zz (hb);have ai:=zz (ho);clear ag;clear ho hb hg hat))
 go_ret
 exact⟨_,ze,zR ai.out,zb⟩
def impl_planAdd.f(k:Nat)(aa:List (S103))(ae:List (S137))(ab:List (S133))(af:List (S134))(a1:ByteArray)(l2:List (S87))(a3:ByteArray):Option ((List (S54))):=if(ab.length:Int)≥20 then(some ([]:List (S54))) else((impl_addCode.f k aa a1 l2 a3).bind fun ac=>(if ac≥2 then(some ([]:List (S54))) else((impl_copyTree.f l2).bind fun ad=>(some (([(⟨1,(⟨#[]⟩:ByteArray),a1,ad,a3,0⟩:S54),(⟨2,(⟨#[]⟩:ByteArray),a1,([]:List (S87)),(⟨#[]⟩:ByteArray),0⟩:S54)]:List (S54)))))))
theorem impl_planAdd.calls(k:Nat)(ai:Option Addr)(aj:Nat)(ac:List (S103))(ak:Option Addr)(al:Nat)(ae:List (S137))(am:Option Addr)(an:Nat)(ad:List (S133))(ao:Option Addr)(ap:Nat)(af:List (S134))(a1:ByteArray)(A2:Option Addr)(c2:Nat)(l2:List (S87))(a3:ByteArray)(r:List (S54))(w:World)(av:Kd.C k103 w ai ac.length ac)(aw:ac.length≤aj)(ax:Kd.C k137 w ak ae.length ae)(ay:ae.length≤al)(az:Kd.C k133 w am ad.length ad)(aA:ad.length≤an)(aB:Kd.C k134 w ao af.length af)(aC:af.length≤ap)(aQ:Kd.C k87 w A2 l2.length l2)(aR:l2.length≤c2)(hG_:GOK w)(h:impl_planAdd.f k ac ae ad af a1 l2 a3=some r):
 Calls Tryz.prog 54 #[.agg #[.slice ai ac.length aj,.slice ak ae.length al,.slice am ad.length an,.slice ao af.length ap],.string a1,.slice A2 l2.length c2,.string a3] w fun e w'=>∃aS:Value,e= .returned (aS)∧Kd.S k54 54 w' w.heap.size (fun _=>True) aS r∧Below w.heap.size w w':=by
 have bC:=Tryz.underlying38
 have bD:=Tryz.underlying54
 have HG:=zz hG_
 clear hG_
 have aD:=zz av
 have aE:=zz aw
 clear av aw
 have bu:=zz ax
 have bv:=zz ay
 clear ax ay
 have bw:=zz az
 have bz:=zz aA
 clear az aA
 have bA:=zz aB
 have bB:=zz aC
 clear aB aC
 have aI:=zz aQ
 have aJ:=zz aR
 clear aQ aR
 have HB:=yB w
 unfold impl_planAdd.f at h
 have H:=h
 clear h
 refine yC H ?_ ?_<;>clear H<;>intro c5 H
 ·have aW:=zge c5
  have aX:decide (20≤ad.length)=true:=z1 (by omega)
  clear c5
  obtain rfl:=zi H
  go_enter Tryz.func54,Tryz.ntmps54
  go_wp2_with(first|(refine zX 4 38 #[.slice ai ac.length aj,.slice ak ae.length al,.slice am ad.length an,.slice ao af.length ap] ?_;intro ab hg w6 hbox hb;have aa:=zz (hbox);have aF:=zz ((zg:w.heap.size≤ab));have aG:=zz ((zg:w.heap.size≤ab));replace HB:=zz (zv zb hb);clear hb hbox hg;obtain⟨bi,bj,bk,bl,bn,bo,bq,br⟩:=zc4 aa.out))
  go_ret
  exact⟨_,ze,by first|exact Kd.S_nil _ _ _ _ _|exact Kd.N_nil _ _ _ _ _|exact Kd.V_nil _ _ _ _ _|exact Kd.Q_nil _ _ _ _ _|exact Kd.R_nil _ _ _ _ _,zb⟩
 have aW:=zgen c5
 have aX:decide (20≤ad.length)=false:=z0 (by omega)
 clear c5
 replace H:=zf H
 obtain⟨aK,aT,H⟩:=H
 try dsimp only at H
 have A8:=zz aT
 clear aT
 refine yE H ?_ ?_<;>clear H<;>intro bE H
 ·obtain rfl:=zi H
  go_enter Tryz.func54,Tryz.ntmps54
  go_wp2_with(first|(refine zX 4 38 #[.slice ai ac.length aj,.slice ak ae.length al,.slice am ad.length an,.slice ao af.length ap] ?_;intro ab hg bH hbox hb;have aa:=zz (hbox);have aF:=zz ((zg:w.heap.size≤ab));have aG:=zz ((zg:w.heap.size≤ab));replace HB:=zz (zv zb hb);clear hb hbox hg;obtain⟨a0,a2,a4,a5,a6,a7,a8,a9⟩:=zc4 aa.out)|(go_at_call 103;(with_reducible refine(impl_addCode.calls k _ _ ac a1 _ _ l2 a3 aK _ ?s1 ?s2 ?s3 ?s4 ?s5 A8.out).mono ?_);(case s1=>exact zc aD.out);(case s2=>exact aE.out);(case s3=>exact zc aI.out);(case s4=>exact aJ.out);(case s5=>exact zG);rintro e bI ⟨rfl,hb⟩;replace aa:=zz (zJ aa hb);replace HB:=zz (zv zb hb);(try clear hb);(try clear aU);(try clear hk);(try clear hi)))
  go_ret
  exact⟨_,ze,by first|exact Kd.S_nil _ _ _ _ _|exact Kd.N_nil _ _ _ _ _|exact Kd.V_nil _ _ _ _ _|exact Kd.Q_nil _ _ _ _ _|exact Kd.R_nil _ _ _ _ _,zb⟩
 replace H:=zf H
 obtain⟨ah,aL,H⟩:=H
 try dsimp only at H
 have bs:=zz aL
 clear aL
 obtain⟨aY,ag⟩:∃y_:List (S54),y_=(([(⟨1,(⟨#[]⟩:ByteArray),a1,ah,a3,0⟩:S54),(⟨2,(⟨#[]⟩:ByteArray),a1,([]:List (S87)),(⟨#[]⟩:ByteArray),0⟩:S54)]:List (S54))):=⟨_,rfl⟩
 replace H:(some aY)=some r:=by first|(rw[ag];with_reducible exact H)|(have aM:=(Option.bind_some _ _).symm.trans H;rw[ag];with_reducible exact aM)|(have aM:=(Option.bind_some _ _).symm.trans H;with_reducible exact aM)|with_reducible exact H|(rw[ag];exact H)|exact H
 have aH:=zz ag
 clear ag
 obtain rfl:=zi H
 go_enter Tryz.func54,Tryz.ntmps54
 go_wp2_with(first|(refine zX 4 38 #[.slice ai ac.length aj,.slice ak ae.length al,.slice am ad.length an,.slice ao af.length ap] ?_;intro ab hg bJ hbox hb;have aa:=zz (hbox);have aF:=zz ((zg:w.heap.size≤ab));have aG:=zz ((zg:w.heap.size≤ab));replace HB:=zz (zv zb hb);clear hb hbox hg;obtain⟨ba,bb,bc,bd,be,bf,bg,bh⟩:=zc4 aa.out)|(go_at_call 103;(with_reducible refine(impl_addCode.calls k _ _ ac a1 _ _ l2 a3 aK _ ?s1 ?s2 ?s3 ?s4 ?s5 A8.out).mono ?_);(case s1=>exact zc aD.out);(case s2=>exact aE.out);(case s3=>exact zc aI.out);(case s4=>exact aJ.out);(case s5=>exact zG);rintro e bK ⟨rfl,hb⟩;replace aa:=zz (zJ aa hb);replace HB:=zz (zv zb hb);(try clear hb);(try clear aU);(try clear hk);(try clear hi))|(refine zL 104 24 Tryz.func104 #[.slice A2 l2.length c2] ?_;(with_reducible refine(impl_copyTree.calls _ _ l2 ah _ ?s1 ?s2 bs.out).mono ?_);(case s1=>exact zc aI.out);(case s2=>exact aJ.out);rintro e bL ⟨bF,rfl,aV,hb⟩;refine⟨_,rfl,?_⟩;have au:=zz (Kd.qY (Kd.R_newM (M:=fun k_=>(w.heap.size≤k_)) aV (qF zb) (fun k_ h_=>h_)) (qF zb));replace aa:=zz (zJ aa hb);replace HB:=zz (zv zb hb);(try clear hb);(try clear aU);(try clear hk);(try clear hi);(try clear aV);obtain⟨aN,aO,aZ⟩:=Kd.qZ au.out;subst aZ)|(refine zN 29 ?_;refine Kd.S_lits k54 (w0:=w) w.heap.size 54 ?hg (N:=29) ?hd (xs:=([(⟨1,(⟨#[]⟩:ByteArray),a1,ah,a3,0⟩:S54),(⟨2,(⟨#[]⟩:ByteArray),a1,([]:List (S87)),(⟨#[]⟩:ByteArray),0⟩:S54)]:List (S54))) (inner:=[.int .i64 1,.string (⟨#[]⟩:ByteArray),.string a1,.slice aN ah.length aO,.string a3,.int .i64 0,.int .i64 2,.string (⟨#[]⟩:ByteArray),.string a1,.slice none 0 0,.string (⟨#[]⟩:ByteArray),.int .i64 0]) (ok:=fun _=>True) (fun j k_=>j=0∧some k_=(.slice aN ah.length aO:Value).ownBlock) ?hr rfl ?hp (fun i j k_ h1 h2=>h1.1.trans h2.1.symm) (fun _ _ _=>trivial) trivial zb (qF zb) (by simp) ?_;(case hd=>rfl);(case hg=>rfl);(case hr=>first|(go_simp;done)|(go_simp;rfl));(case hp=>(rintro(_|_|j) x hx;(obtain rfl:=Option.some.inj (show some _=some x from hx);exact k54_mkM _ _ _ (⟨1,(⟨#[]⟩:ByteArray),a1,ah,a3,0⟩:S54) (Kd.vC (Kd.R_tight rfl (zR au.out)) (fun _ hk=>⟨rfl,hk⟩)));(obtain rfl:=Option.some.inj (show some _=some x from hx);exact k54_mkM _ _ _ (⟨2,(⟨#[]⟩:ByteArray),a1,([]:List (S87)),(⟨#[]⟩:ByteArray),0⟩:S54) (Kd.R_nil _ _ _ _ _));(exact absurd hx (by simp))));intro bG bM ar hb hg_ hnew_;(first|rw[←aH.out] at ar|(simp only[Int.reduceToNat] at ar;rw[←aH.out] at ar));have aP:=zz ar;replace aa:=zz (zK aa hg_ (fun h=>by cases h));replace HB:=zz hb;clear au;clear hb ar hg_ hnew_))
 go_ret
 exact⟨_,ze,by(with_reducible repeat(first|apply Kd.S_alloc|apply Kd.S_drewN|apply Kd.S_drew));exact Kd.S_mono aP.out (fun _ hk=>trivial),zb⟩
end Go.Proofs.YtmdoobnlehkmpaaGreatDoor.Q
