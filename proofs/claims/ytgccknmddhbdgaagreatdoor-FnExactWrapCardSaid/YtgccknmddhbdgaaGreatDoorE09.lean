import Derived.Test.YtgccknmddhbdgaaGreatDoorE08
namespace Go.Proofs.YtgccknmddhbdgaaGreatDoor.Q
open Go.RowKit W1 W2 W3
attribute [local go_sem] max2_int min2_int max_two min_two max_three min_three max_four min_four
attribute [local go_sem high] bl_leq bl_gtr bl_geq
set_option maxHeartbeats 8000000
set_option maxRecDepth 100000
def spec_TreeSum.f(k:Nat)(l0:List (S63)):Option (ByteArray):=(spec_TreeOk.f k l0).bind fun aa=>(if aa=true then((spec_PackTree.f k l0).bind fun ab=>((spec_Sum.f k ab).bind fun ac=>((spec_Word32.f k ac).bind fun ad=>(some ad)))) else(some (⟨#[]⟩:ByteArray)))
theorem spec_TreeSum.calls(k:Nat)(A0:Option Addr)(c0:Nat)(l0:List (S63))(r:ByteArray)(w:World)(ad:Kd.C k63 w A0 l0.length l0)(ae:l0.length<=c0)(H:spec_TreeSum.f k l0=some r):
 Calls Tryz.prog 97 #[.slice A0 l0.length c0] w fun e w'=>e= .returned (.string r)/\Below w.heap.size w w':=by
 have aa:=zz ad;have ac:=zz ae;clear ad ae;have HB:=yB w;unfold spec_TreeSum.f at H;replace HB:=HB.out;have HW:=yB w;go_enter Tryz.func97,Tryz.ntmps97;replace H:=yf H;obtain⟨al,A2,H⟩:=H;refine yF H ?_ ?_<;>clear H<;>rintro rfl H
 ·go_wp2_with(fail)
  refine(spec_TreeOk.calls k _ _ _ _ _ (Kd.qD aa.out HB) ac.out A2.out).mono ?_;rintro e ap ⟨rfl,hb⟩;replace HB:=zv HB hb;clear hb;obtain rfl:=zi H;exact yR
 go_wp2_with(fail)
 refine(spec_TreeOk.calls k _ _ _ _ _ (Kd.qD aa.out HB) ac.out A2.out).mono ?_;rintro e w5 ⟨rfl,hb⟩;replace HB:=zv HB hb;clear hb;replace H:=yf H;obtain⟨am,A6,H⟩:=H;go_wp2_with(fail)
 refine(spec_PackTree.calls k _ _ _ _ _ (Kd.qD aa.out HB) ac.out A6.out).mono ?_;rintro e w7 ⟨ah,rfl,ab,hb⟩;replace HB:=zv HB hb;clear hb;have hst:=HB;replace HW:=zz (zv HW.out hst);clear hst;replace HB:=Below.refl w7.heap.size w7;obtain⟨aj,ak,rfl,hl_,hC_⟩:=Kd.R_reads ab;have af:=zz hC_;have ag:=zz hl_;clear hl_ hC_ ab;replace H:=yf H;obtain⟨an,A9,H⟩:=H;go_wp2_with(fail)
 refine(spec_Sum.calls k _ _ _ _ _ (Kd.qD af.out HB) ag.out A9.out).mono ?_;rintro e ar ⟨rfl,hd⟩;replace HB:=zv HB hd.below;clear hd;replace H:=yf H;obtain⟨ao,ai,H⟩:=H;go_wp2_with(fail)
 refine(spec_Word32.calls k _ _ _ ai.out).mono ?_;rintro e au ⟨rfl,hb⟩;replace HB:=zv HB hb;clear hb;obtain rfl:=zi H;exact yR
end Go.Proofs.YtgccknmddhbdgaaGreatDoor.Q
