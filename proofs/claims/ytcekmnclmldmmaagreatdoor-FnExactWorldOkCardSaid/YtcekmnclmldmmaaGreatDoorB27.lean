import Derived.Test.YtcekmnclmldmmaaGreatDoorB26
set_option linter.unusedVariables false
set_option linter.unusedSimpArgs false
namespace Go.Proofs.YtcekmnclmldmmaaGreatDoor.Q
open Go.RowKit W1 W2 W3
attribute [local go_sem] max2_int min2_int max_two min_two max_three min_three max_four min_four
attribute [local go_sem high] bl_leq bl_gtr bl_geq
set_option maxHeartbeats 8000000
set_option maxRecDepth 100000
def spec_StoreOk.l0 : Nat → List (S94) → List ByteArray → Int → Option (Bool)
 | 0, _, _, _ => none
 | k + 1, x0, x3, x4 => if x4 < (x0.length : Int) then (if x4 > 0 then (if 0 ≤ (wrap64 (x4 - 1)) then (if (wrap64 (x4 - 1)) < (x3.length : Int) then (if 0 ≤ x4 then (if x4 < (x3.length : Int) then (if ((Op.bytesLess ((rdOf ByteArray.empty x3 (wrap64 (x4 - 1))).toList) ((rdOf ByteArray.empty x3 x4).toList)) = true) then ((spec_l12ItemOk.f k ((rd_T94 x0 x4).f0) ((rd_T94 x0 x4).f1) ((rd_T94 x0 x4).f2) ((rd_T94 x0 x4).f3) ((rd_T94 x0 x4).f4) x3).bind fun t297 => (if t297 = true then (spec_StoreOk.l0 k x0 x3 (wrap64 (x4 + 1))) else (some false))) else (some false)) else (none)) else (none)) else (none)) else (none)) else (if 0 ≤ x4 then ((spec_l12ItemOk.f k ((rd_T94 x0 x4).f0) ((rd_T94 x0 x4).f1) ((rd_T94 x0 x4).f2) ((rd_T94 x0 x4).f3) ((rd_T94 x0 x4).f4) x3).bind fun t299 => (if t299 = true then (spec_StoreOk.l0 k x0 x3 (wrap64 (x4 + 1))) else (some false))) else (none))) else (some true)
def spec_StoreOk.f (k : Nat) (l0 : List (S94)) : Option (Bool) := if (l0.length : Int) > 300 then (some false) else ((spec_l12Paths.f k l0).bind fun t291 => (spec_StoreOk.l0 k l0 t291 0))
theorem spec_StoreOk.mono_l : ∀ k, (∀ y0 y1 y2, LeO (spec_StoreOk.l0 k y0 y1 y2) (spec_StoreOk.l0 (k + 1) y0 y1 y2))
 | 0 => fun _ _ _ r h => by simp [spec_StoreOk.l0] at h
 | k + 1 => by
  have ih0 := spec_StoreOk.mono_l k
  ·intro y0 y1 y2
   unfold spec_StoreOk.l0
   have m0 := @spec_l12ItemOk.mono
   have m1 := @spec_l12Paths.mono
   exact zM
theorem spec_StoreOk.mono : ∀ a0 k, LeO (spec_StoreOk.f k a0) (spec_StoreOk.f (k + 1) a0) := by
 intro a0 k
 have ih0 := spec_StoreOk.mono_l k
 unfold spec_StoreOk.f
 have m0 := @spec_l12ItemOk.mono
 have m1 := @spec_l12Paths.mono
 exact zM
theorem spec_StoreOk.calls (k : Nat) (A0 : Option Addr) (c0 : Nat) (l0 : List (S94)) (r : Bool) (w : World) (hr0 : Kd.C k94 w A0 l0.length l0) (hc0 : l0.length ≤ c0) (h : spec_StoreOk.f k l0 = some r) :
 Calls Tryz.prog 32 #[.slice A0 l0.length c0] w fun e w' => e = .returned (.bool r) ∧ Below w.heap.size w w' := by
 have hu94 := Tryz.underlying94
 have HR0 := zz hr0
 have HC0 := zz hc0
 clear hr0 hc0
 have HB := zz (Below.refl w.heap.size w)
 unfold spec_StoreOk.f at h
 have H := h
 clear h
 replace HB := HB.out
 have HW := zz (Below.refl w.heap.size w)
 go_enter Tryz.func32, Tryz.ntmps32
 by_cases c2 : (l0.length : Int) > 300
 ·rw [if_pos c2] at H
  have c2b0 := zgt c2
  have c2b1 : decide (300 < l0.length) = true := z1 (by omega)
  clear c2
  obtain rfl := zi H
  go_wp2_with (fail)
  go_ret
  exact ⟨ze, zv HW.out HB⟩
 rw [if_neg c2] at H
 have c2b0 := zgtn c2
 have c2b1 : decide (300 < l0.length) = false := z0 (by omega)
 clear c2
 replace H := zf H
 obtain ⟨t291, A3, H⟩ := H
 try dsimp only at H
 replace A3 := zz A3
 go_wp2_with (fail)
 refine (spec_l12Paths.calls k _ _ _ _ _ (Kd.C_below HR0.out HB) HC0.out A3.out).mono ?_
 rintro e w4 ⟨vHO293, rfl, hHO293, hb⟩
 replace HB := zv HB hb
 clear hb
 have hst := HB
 replace HW := zz (zv HW.out hst)
 replace HR0 := zz (Kd.C_below HR0.out hst)
 clear hst
 replace HB := Below.refl w4.heap.size w4
 obtain ⟨AHRo5, cHRo5, rfl, hl_, hC_⟩ := Kd.R_reads hHO293
 have HRo5 := zz hC_
 have HCo5 := zz hl_
 clear hl_ hC_ hHO293
 go_wp2_with (fail)
 go_loopg [4] k (fun kq v4 w' => ∃ (x4_kl6 : Int), v4 = .int .i64 x4_kl6 ∧ Aside0 (spec_StoreOk.l0 kq l0 t291 x4_kl6 = some r) ∧ Aside0 (kq ≤ k) ∧ Aside0 (Below w4.heap.size w4 w'))
 case atStart => exact ⟨(0), zr, ⟨H⟩, ⟨Nat.le_refl _⟩, ⟨HB⟩⟩
 case round =>
  clear H HB
  obtain ⟨x4_kl6, rfl, H, HKkl6, HB⟩ := hrel
  replace HB := HB.out
  replace H := H.out
  have HLkl6 := zz (Below.refl w4.heap.size w4)
  cases gk with
  | zero => exact absurd H (by simp [spec_StoreOk.l0])
  | succ kl6 =>
   simp only [spec_StoreOk.l0] at H
   by_cases c7 : x4_kl6 < (l0.length : Int)
   case neg =>
    rw [if_neg c7] at H
    have c7b0 := z0 c7
    clear c7
    obtain rfl := zi H
    go_wp2_with (fail)
    go_ret
    exact ⟨ze, zv HW.out HB⟩
   rw [if_pos c7] at H
   have c7b0 := z1 c7
   clear c7
   go_wp2_with (fail)
   try simp only [Act.put, List.setIfInBounds_toArray, List.set_cons_zero, List.set_cons_succ]
   refine wp_region_inv_lit (C := fun W_ => Below w4.heap.size w4 W_) zk zk (below_drew1 HB) ?_
   by_cases c8 : x4_kl6 > 0
   case neg =>
    rw [if_neg c8] at H
    have c8b0 := zgtn c8
    clear c8
    by_cases c20 : 0 ≤ x4_kl6
    case neg => exact zno H c20
    rw [if_pos c20] at H
    have c20b0 := z1 c20
    clear c20
    have p298 : 0 ≤ (x4_kl6 : Int) := z2
    have q298 : (x4_kl6 : Int) < (l0.length : Int) := z2
    obtain ⟨ad298, A298_2, c298_2, A298_4, c298_4, e298, hx298_0, hx298_1, hx298_2, hx298_3, hx298_4, hl298_2, hC298_2, hl298_4, hC298_4⟩ := at_T94 HR0.out x4_kl6 p298 q298
    cases e298
    replace hx298_0 := cellB hx298_0
    replace hx298_1 := cellB hx298_1
    replace hx298_2 := cellB hx298_2
    replace hx298_3 := cellB hx298_3
    replace hx298_4 := cellB hx298_4
    have HR298_2 := zz hC298_2
    have HC298_2 := zz hl298_2
    clear hC298_2 hl298_2
    have HR298_4 := zz hC298_4
    have HC298_4 := zz hl298_4
    clear hC298_4 hl298_4
    replace p298 := eq_true p298
    replace q298 := eq_true q298
    replace H := zf H
    obtain ⟨t299, A21, H⟩ := H
    try dsimp only at H
    replace A21 := zz A21
    by_cases c22 : t299 = true
    ·subst c22
     rw [if_pos rfl] at H
     repeat (first | go_big_quiet_skip | (go_big_quiet_want; go_big_quiet_op; first | go_big_quiet_on | (with_reducible apply Exists.intro; refine ⟨fun W hW => ?_, ?_⟩; (first | with_reducible rfl | (go_at_call 79; exact callB (spec_l12ItemOk.calls kl6 _ _ _ _ _ _ _ _ _ _ _ _ _ _ (Kd.C_below HR298_2.out hW) HC298_2.out (Kd.C_below HR298_4.out hW) HC298_4.out (Kd.C_below HRo5.out hW) HCo5.out A21.out) hW) | (go_simp; with_reducible rfl)); go_big_quiet_on)))
     clear HB
     refine zW fun w23 (HB : Below w4.heap.size w4 w23) => ?_
     go_wp2_with (fail)
     go_roundg kl6
     case measure => have := HKkl6.out; omega
     case rel => exact ⟨(wrap64 (x4_kl6 + 1)), zr, ⟨H⟩, ⟨by have := HKkl6.out; omega⟩, ⟨zv HLkl6.out HB⟩⟩
    replace c22 := Bool.eq_false_iff.mpr c22
    subst c22
    rw [if_neg (by decide)] at H
    obtain rfl := zi H
    repeat (first | go_big_quiet_skip | (go_big_quiet_want; go_big_quiet_op; first | go_big_quiet_on | (with_reducible apply Exists.intro; refine ⟨fun W hW => ?_, ?_⟩; (first | with_reducible rfl | (go_at_call 79; exact callB (spec_l12ItemOk.calls kl6 _ _ _ _ _ _ _ _ _ _ _ _ _ _ (Kd.C_below HR298_2.out hW) HC298_2.out (Kd.C_below HR298_4.out hW) HC298_4.out (Kd.C_below HRo5.out hW) HCo5.out A21.out) hW) | (go_simp; with_reducible rfl)); go_big_quiet_on)))
    clear HB
    refine zW fun w24 (HB : Below w4.heap.size w4 w24) => ?_
    go_wp2_with (fail)
    go_ret
    exact ⟨ze, zv HW.out HB⟩
   rw [if_pos c8] at H
   have c8b0 := zgt c8
   clear c8
   obtain ⟨ji9, hji9⟩ : ∃ j_ : Int, (wrap64 (x4_kl6 - 1)) = j_ := ⟨_, rfl⟩
   (first | rw [hji9] at H | simp only [hji9] at H)
   have hji9w : (IntKind.i64.wrap (x4_kl6 - 1)) = ji9 := (i64_w _).trans hji9
   (try rw [hji9] at A3)
   by_cases c10 : 0 ≤ (ji9)
   case neg => exact zno H c10
   rw [if_pos c10] at H
   have c10b0 := z1 c10
   clear c10
   by_cases c11 : (ji9) < (t291.length : Int)
   case neg => exact zno H c11
   rw [if_pos c11] at H
   have c11b0 := z1 c11
   clear c11
   have p294 : 0 ≤ ((ji9) : Int) := z2
   have q294 : ((ji9) : Int) < (t291.length : Int) := z2
   obtain ⟨ad294, e294, hx294_0⟩ := Kd.at_string HRo5.out (ji9) p294 q294
   cases e294
   replace hx294_0 := cellB hx294_0
   replace p294 := eq_true p294
   replace q294 := eq_true q294
   by_cases c12 : 0 ≤ x4_kl6
   case neg => exact zno H c12
   rw [if_pos c12] at H
   have c12b0 := z1 c12
   clear c12
   by_cases c13 : x4_kl6 < (t291.length : Int)
   case neg => exact zno H c13
   rw [if_pos c13] at H
   have c13b0 := z1 c13
   clear c13
   have p295 : 0 ≤ (x4_kl6 : Int) := z2
   have q295 : (x4_kl6 : Int) < (t291.length : Int) := z2
   obtain ⟨ad295, e295, hx295_0⟩ := Kd.at_string HRo5.out x4_kl6 p295 q295
   obtain rfl : ad294 = ad295 := (by injection e295)
   replace hx295_0 := cellB hx295_0
   replace p295 := eq_true p295
   replace q295 := eq_true q295
   by_cases c14 : ((Op.bytesLess ((rdOf ByteArray.empty t291 (ji9)).toList) ((rdOf ByteArray.empty t291 x4_kl6).toList)) = true)
   case neg =>
    rw [if_neg c14] at H
    have c14b0 : (Op.bytesLess ((rdOf ByteArray.empty t291 (ji9)).toList) ((rdOf ByteArray.empty t291 x4_kl6).toList)) = false := by simpa using c14
    clear c14
    obtain rfl := zi H
    repeat (first | go_big_quiet_skip | (go_big_quiet_want; go_big_quiet_op; first | go_big_quiet_on | (refine zE ?_; go_big_quiet_on)))
    clear HB
    refine zW fun w19 (HB : Below w4.heap.size w4 w19) => ?_
    go_wp2_with (fail)
    go_ret
    exact ⟨ze, zv HW.out HB⟩
   rw [if_pos c14] at H
   have c14b0 : (Op.bytesLess ((rdOf ByteArray.empty t291 (ji9)).toList) ((rdOf ByteArray.empty t291 x4_kl6).toList)) = true := c14
   clear c14
   have p296 : 0 ≤ (x4_kl6 : Int) := z2
   have q296 : (x4_kl6 : Int) < (l0.length : Int) := z2
   obtain ⟨ad296, A296_2, c296_2, A296_4, c296_4, e296, hx296_0, hx296_1, hx296_2, hx296_3, hx296_4, hl296_2, hC296_2, hl296_4, hC296_4⟩ := at_T94 HR0.out x4_kl6 p296 q296
   cases e296
   replace hx296_0 := cellB hx296_0
   replace hx296_1 := cellB hx296_1
   replace hx296_2 := cellB hx296_2
   replace hx296_3 := cellB hx296_3
   replace hx296_4 := cellB hx296_4
   have HR296_2 := zz hC296_2
   have HC296_2 := zz hl296_2
   clear hC296_2 hl296_2
   have HR296_4 := zz hC296_4
   have HC296_4 := zz hl296_4
   clear hC296_4 hl296_4
   replace p296 := eq_true p296
   replace q296 := eq_true q296
   replace H := zf H
   obtain ⟨t297, A15, H⟩ := H
   try dsimp only at H
   replace A15 := zz A15
   by_cases c16 : t297 = true
   ·subst c16
    rw [if_pos rfl] at H
    repeat (first | go_big_quiet_skip | (go_big_quiet_want; go_big_quiet_op; first | go_big_quiet_on | (with_reducible apply Exists.intro; refine ⟨fun W hW => ?_, ?_⟩; (first | with_reducible rfl | (go_at_call 79; exact callB (spec_l12ItemOk.calls kl6 _ _ _ _ _ _ _ _ _ _ _ _ _ _ (Kd.C_below HR296_2.out hW) HC296_2.out (Kd.C_below HR296_4.out hW) HC296_4.out (Kd.C_below HRo5.out hW) HCo5.out A15.out) hW) | (go_simp; with_reducible rfl)); go_big_quiet_on)))
    clear HB
    refine zW fun w17 (HB : Below w4.heap.size w4 w17) => ?_
    go_wp2_with (fail)
    go_roundg kl6
    case measure => have := HKkl6.out; omega
    case rel => exact ⟨(wrap64 (x4_kl6 + 1)), zr, ⟨H⟩, ⟨by have := HKkl6.out; omega⟩, ⟨zv HLkl6.out HB⟩⟩
   replace c16 := Bool.eq_false_iff.mpr c16
   subst c16
   rw [if_neg (by decide)] at H
   obtain rfl := zi H
   repeat (first | go_big_quiet_skip | (go_big_quiet_want; go_big_quiet_op; first | go_big_quiet_on | (with_reducible apply Exists.intro; refine ⟨fun W hW => ?_, ?_⟩; (first | with_reducible rfl | (go_at_call 79; exact callB (spec_l12ItemOk.calls kl6 _ _ _ _ _ _ _ _ _ _ _ _ _ _ (Kd.C_below HR296_2.out hW) HC296_2.out (Kd.C_below HR296_4.out hW) HC296_4.out (Kd.C_below HRo5.out hW) HCo5.out A15.out) hW) | (go_simp; with_reducible rfl)); go_big_quiet_on)))
   clear HB
   refine zW fun w18 (HB : Below w4.heap.size w4 w18) => ?_
   go_wp2_with (fail)
   go_ret
   exact ⟨ze, zv HW.out HB⟩
end Go.Proofs.YtcekmnclmldmmaaGreatDoor.Q
