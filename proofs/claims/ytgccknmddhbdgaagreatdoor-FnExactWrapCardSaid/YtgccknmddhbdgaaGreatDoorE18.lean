import Derived.Test.YtgccknmddhbdgaaGreatDoorE02
namespace Go.Proofs.YtgccknmddhbdgaaGreatDoor.Q
open Go.RowKit W1 W2 W3
attribute [local go_sem] max2_int min2_int max_two min_two max_three min_three max_four min_four
attribute [local go_sem high] bl_leq bl_gtr bl_geq
set_option maxHeartbeats 8000000
set_option maxRecDepth 100000
def spec_l12Find.l0:Nat->List (S61)->ByteArray->Int->Option (Int)
 |0,_,_,_=>none
 |k+1,x0,x1,x5=>if x5<(x0.length:Int) then(if 0<=x5 then(if((qC x0 x5).f0).toList=x1.toList then(some x5) else(spec_l12Find.l0 k x0 x1 (wrap64 (x5+1)))) else(none)) else(some (-1))
def spec_l12Find.f(k:Nat)(l0:List (S61))(a1:ByteArray):Option (Int):=spec_l12Find.l0 k l0 a1 0
theorem spec_l12Find.calls(k:Nat)(A0:Option Addr)(c0:Nat)(l0:List (S61))(a1:ByteArray)(r:Int)(w:World)(ax:Kd.C k61 w A0 l0.length l0)(ay:l0.length<=c0)(H:spec_l12Find.f k l0 a1=some r):
 Calls Tryz.prog 50 #[.slice A0 l0.length c0,.string a1] w fun e w'=>e= .returned (.int .i64 r)/\vB w w':=by
 have az:=zz ax;have aH:=zz ay;clear ax ay;unfold spec_l12Find.f at H;have H':=zz H;clear H;go_enter Tryz.func50,Tryz.ntmps50;go_wp2;go_loopg[5] k (fun kq v5 w'=>∃(aa:Int),v5= .int .i64 aa/\qB (spec_l12Find.l0 kq l0 a1 aa=some r)/\qB (kq<=k)/\vB w w')
 case atStart=>exact⟨(0),zr,H',⟨Nat.le_refl _⟩,yD0⟩
 case round=>
  clear H';obtain⟨aa,rfl,HA,aA,⟨m1,rfl⟩⟩:=hrel;cases gk with
  |zero=>exact absurd HA.out (by simp[spec_l12Find.l0])
  |succ k1=>
   have H:=HA.out;clear HA;simp only[spec_l12Find.l0] at H;refine yDn H ?_ ?_<;>clear H<;>intro aF H
   ·obtain rfl:=zi H;exact yr
   replace H:=yAD H;obtain⟨aG,H⟩:=H;refine yC H ?_ ?_<;>clear H<;>intro c5 H
   ·obtain⟨aB,aC⟩:=zq c5;clear c5;obtain rfl:=zi H;have aD:=yt (0<=(aa:Int));have aE:=yt (aa<(l0.length:Int));obtain⟨aw,ap,ar,au,av,af,ag,ah,ai,aj,ak,ab,ac,ad,ae⟩:=at_T61 az.out aa z2 z2;cases af;have al:=zz ac;have am:=zz ab;clear ac ab;have an:=zz ae;have ao:=zz ad;clear ae ad;exact yr
   obtain⟨aB,aC⟩:=zw c5;have H':=zz H;clear H;have aD:=yt (0<=(aa:Int));have aE:=yt (aa<(l0.length:Int));obtain⟨aw,ap,ar,au,av,af,ag,ah,ai,aj,ak,ab,ac,ad,ae⟩:=at_T61 az.out aa z2 z2;cases af;have al:=zz ac;have am:=zz ab;clear ac ab;have an:=zz ae;have ao:=zz ad;clear ae ad;go_wp2;go_roundg k1
   case measure=>exact yM1 aA
   case rel=>exact⟨(wrap64 (aa+1)),zr,H',⟨yM1 aA⟩,yD0⟩
end Go.Proofs.YtgccknmddhbdgaaGreatDoor.Q
