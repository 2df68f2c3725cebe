import Derived.Test.YtcekmnclmldmmaaGreatDoorB04
set_option linter.unusedVariables false
set_option linter.unusedSimpArgs false
namespace Go.Proofs.YtcekmnclmldmmaaGreatDoor.Q
open Go.RowKit W1 W2 W3
attribute [local go_sem] max2_int min2_int max_two min_two max_three min_three max_four min_four
attribute [local go_sem high] bl_leq bl_gtr bl_geq
set_option maxHeartbeats 8000000
set_option maxRecDepth 100000
def spec_l13Gen.l0 : Nat → Int → Int → ByteArray → Int → List (S70) → Option (Int)
 | 0, _, _, _, _, _ => none
 | k + 1, x1, x5, x301000, x301001, x301002 => if x5 < (x301002.length : Int) then (if 0 ≤ x5 then (if ((rd_T70 x301002 x5).f0) = x1 then (some x5) else (spec_l13Gen.l0 k x1 (wrap64 (x5 + 1)) x301000 x301001 x301002)) else (none)) else (some (-1))
def spec_l13Gen.f (k : Nat) (a0_0 : ByteArray) (a0_1 : Int) (l0_2 : List (S70)) (a1 : Int) : Option (Int) := spec_l13Gen.l0 k a1 0 a0_0 a0_1 l0_2
theorem spec_l13Gen.mono_l : ∀ k, (∀ y0 y1 y2 y3 y4, LeO (spec_l13Gen.l0 k y0 y1 y2 y3 y4) (spec_l13Gen.l0 (k + 1) y0 y1 y2 y3 y4))
 | 0 => fun _ _ _ _ _ r h => by simp [spec_l13Gen.l0] at h
 | k + 1 => by
  have ih0 := spec_l13Gen.mono_l k
  ·intro y0 y1 y2 y3 y4
   unfold spec_l13Gen.l0
   exact zM
theorem spec_l13Gen.mono : ∀ a0 a1 a2 a3 k, LeO (spec_l13Gen.f k a0 a1 a2 a3) (spec_l13Gen.f (k + 1) a0 a1 a2 a3) := by
 intro a0 a1 a2 a3 k
 have ih0 := spec_l13Gen.mono_l k
 unfold spec_l13Gen.f
 exact zM
theorem spec_l13Gen.calls (k : Nat) (a0_0 : ByteArray) (a0_1 : Int) (A0_2 : Option Addr) (c0_2 : Nat) (l0_2 : List (S70)) (a1 : Int) (r : Int) (w : World) (hr0_2 : Kd.C k70 w A0_2 l0_2.length l0_2) (hc0_2 : l0_2.length ≤ c0_2) (h : spec_l13Gen.f k a0_0 a0_1 l0_2 a1 = some r) :
 Calls Tryz.prog 80 #[.agg #[.string a0_0, .int .i64 a0_1, .slice A0_2 l0_2.length c0_2], .int .i64 a1] w fun e w' => e = .returned (.int .i64 r) ∧ Below w.heap.size w w' := by
 have hu67 := Tryz.underlying67
 have HR0_2 := zz hr0_2
 have HC0_2 := zz hc0_2
 clear hr0_2 hc0_2
 have HB := zz (Below.refl w.heap.size w)
 unfold spec_l13Gen.f at h
 have H := h
 clear h
 replace HB := HB.out
 have HW := zz (Below.refl w.heap.size w)
 go_enter Tryz.func80, Tryz.ntmps80
 go_wp2_with (first | (refine zN 2 ?_; (try (refine z4 ?_; dsimp only)); refine zX 2 67 #[.string a0_0, .int .i64 a0_1, .slice A0_2 l0_2.length c0_2] ?_; intro gb300 hg w4 hbox hb; have hst := zv HB hb; clear hg hb HB; replace HW := zz (zv HW.out hst); replace HR0_2 := zz (Kd.C_below HR0_2.out hst); obtain ⟨hbx300_0, hbx300_1, hbx300_2⟩ := zx3 hbox; have HB := Below.refl w4.heap.size w4; clear hbox hst))
 go_loopg [5] k (fun kq v5 w' => ∃ (x5_kl3 : Int), v5 = .int .i64 x5_kl3 ∧ Aside0 (spec_l13Gen.l0 kq a1 x5_kl3 a0_0 a0_1 l0_2 = some r) ∧ Aside0 (kq ≤ k) ∧ Aside0 (Below w4.heap.size w4 w'))
 case atStart => exact ⟨(0), zr, ⟨H⟩, ⟨Nat.le_refl _⟩, ⟨HB⟩⟩
 case round =>
  clear H HB
  obtain ⟨x5_kl3, rfl, H, HKkl3, HB⟩ := hrel
  replace HB := HB.out
  replace H := H.out
  have HLkl3 := zz (Below.refl w4.heap.size w4)
  cases gk with
  | zero => exact absurd H (by simp [spec_l13Gen.l0])
  | succ kl3 =>
   simp only [spec_l13Gen.l0] at H
   by_cases c5 : x5_kl3 < (l0_2.length : Int)
   case neg =>
    rw [if_neg c5] at H
    have c5b0 := z0 c5
    clear c5
    obtain rfl := zi H
    go_wp2_with (fail)
    go_ret
    exact ⟨ze, zv HW.out HB⟩
   rw [if_pos c5] at H
   have c5b0 := z1 c5
   clear c5
   by_cases c6 : 0 ≤ x5_kl3
   case neg => exact zno H c6
   rw [if_pos c6] at H
   have c6b0 := z1 c6
   clear c6
   have p301 : 0 ≤ (x5_kl3 : Int) := z2
   have q301 : (x5_kl3 : Int) < (l0_2.length : Int) := z2
   obtain ⟨ad301, e301, hx301_0, hx301_1⟩ := at_T70 HR0_2.out x5_kl3 p301 q301
   cases e301
   replace hx301_0 := cellB hx301_0
   replace hx301_1 := cellB hx301_1
   replace p301 := eq_true p301
   replace q301 := eq_true q301
   by_cases c7 : ((rd_T70 l0_2 x5_kl3).f0) = a1
   case neg =>
    rw [if_neg c7] at H
    obtain ⟨c7b0, c7b1⟩ := zw c7
    go_wp2_with (fail)
    go_roundg kl3
    case measure => have := HKkl3.out; omega
    case rel => exact ⟨(wrap64 (x5_kl3 + 1)), zr, ⟨H⟩, ⟨by have := HKkl3.out; omega⟩, ⟨zv HLkl3.out HB⟩⟩
   rw [if_pos c7] at H
   obtain ⟨c7b0, c7b1⟩ := zq c7
   clear c7
   obtain rfl := zi H
   go_wp2_with (fail)
   go_ret
   exact ⟨ze, zv HW.out HB⟩
end Go.Proofs.YtcekmnclmldmmaaGreatDoor.Q
