import Derived.Test.YtcekmnclmldmmaaGreatDoorB06
set_option linter.unusedVariables false
set_option linter.unusedSimpArgs false
namespace Go.Proofs.YtcekmnclmldmmaaGreatDoor.Q
open Go.RowKit W1 W2 W3
attribute [local go_sem] max2_int min2_int max_two min_two max_three min_three max_four min_four
attribute [local go_sem high] bl_leq bl_gtr bl_geq
set_option maxHeartbeats 8000000
set_option maxRecDepth 100000
mutual
def spec_NameOk.j0 : Nat → ByteArray → Bool → Option (Bool)
 | 0, _, _ => none
 | k + 1, x0, x17 => if x17 = true then (some false) else (spec_NameOk.l0 k x0 0)
def spec_NameOk.l0 : Nat → ByteArray → Int → Option (Bool)
 | 0, _, _ => none
 | k + 1, x0, x3 => if x3 < (x0.size : Int) then (if 0 ≤ x3 then ((spec_l1Letter.f (bt x0 x3)).bind fun t136 => (if t136 = true then (spec_NameOk.l0 k x0 (wrap64 (x3 + 1))) else ((spec_l1Digit.f (bt x0 x3)).bind fun t137 => (if t137 = true then (spec_NameOk.l0 k x0 (wrap64 (x3 + 1))) else (if (bt x0 x3) = 45 then (spec_NameOk.l0 k x0 (wrap64 (x3 + 1))) else (if (bt x0 x3) = 95 then (spec_NameOk.l0 k x0 (wrap64 (x3 + 1))) else (if (bt x0 x3) = 46 then (spec_NameOk.l0 k x0 (wrap64 (x3 + 1))) else (if (bt x0 x3) = 43 then (spec_NameOk.l0 k x0 (wrap64 (x3 + 1))) else (some false))))))))) else (none)) else (some true)
end
def spec_NameOk.f (k : Nat) (a0 : ByteArray) : Option (Bool) := if (a0.size : Int) < 1 then (spec_NameOk.j0 k a0 true) else (if (a0.size : Int) > 60 then (spec_NameOk.j0 k a0 true) else (if 0 < (a0.size : Int) then (spec_NameOk.j0 k a0 ((bt a0 0) == 46)) else (none)))
theorem spec_NameOk.mono_l : ∀ k, (∀ y0 y1, LeO (spec_NameOk.j0 k y0 y1) (spec_NameOk.j0 (k + 1) y0 y1)) ∧ (∀ y0 y1, LeO (spec_NameOk.l0 k y0 y1) (spec_NameOk.l0 (k + 1) y0 y1))
 | 0 => ⟨fun _ _ r h => by simp [spec_NameOk.j0] at h, fun _ _ r h => by simp [spec_NameOk.l0] at h⟩
 | k + 1 => by
  obtain ⟨ih0, ih1⟩ := spec_NameOk.mono_l k
  refine ⟨?_, ?_⟩
  ·intro y0 y1
   unfold spec_NameOk.j0
   exact zM
  ·intro y0 y1
   unfold spec_NameOk.l0
   exact zM
theorem spec_NameOk.mono : ∀ a0 k, LeO (spec_NameOk.f k a0) (spec_NameOk.f (k + 1) a0) := by
 intro a0 k
 obtain ⟨ih0, ih1⟩ := spec_NameOk.mono_l k
 unfold spec_NameOk.f
 exact zM
theorem spec_NameOk.calls (k : Nat) (a0 : ByteArray) (r : Bool) (w : World) (h : spec_NameOk.f k a0 = some r) :
 Calls Tryz.prog 35 #[.string a0] w fun e w' => e = .returned (.bool r) ∧ Drawn0 w w' := by
 unfold spec_NameOk.f at h
 have H := h
 clear h
 have HC2 := zz H
 clear H
 go_enter Tryz.func35, Tryz.ntmps35
 go_upto_region 1 with (fail)
 go_cut [17] (fun v17 wc => ∃ (kq : Nat) (x17_1 : Bool), v17 = .bool x17_1 ∧ Aside0 (spec_NameOk.j0 kq a0 x17_1 = some r) ∧ Aside0 (kq ≤ k) ∧ Drawn0 w wc)
 case first =>
  have H := HC2.out
  clear HC2
  by_cases c3 : (a0.size : Int) < 1
  ·rw [if_pos c3] at H
   have c3b0 := z1 c3
   have c3b1 : decide (a0.size < 1) = true := z1 (by omega)
   clear c3
   (first | rw [c3b0] | (simp only [i64_w, i32_w]; rw [c3b0]) | skip)
   have H' := zz H
   clear H
   go_wp2
   go_meet
   case rel => exact ⟨_, (true), zr, H', ⟨by first | omega | exact Nat.le_refl _⟩, by repeat (first | exact Drawn0.refl _ | apply Drawn0.step)⟩
  ·rw [if_neg c3] at H
   have c3b0 := z0 c3
   have c3b1 : decide (a0.size < 1) = false := z0 (by omega)
   clear c3
   (first | rw [c3b0] | (simp only [i64_w, i32_w]; rw [c3b0]) | skip)
   by_cases c4 : (a0.size : Int) > 60
   ·rw [if_pos c4] at H
    have c4b0 := zgt c4
    have c4b1 : decide (60 < a0.size) = true := z1 (by omega)
    clear c4
    have H' := zz H
    clear H
    go_wp2
    go_meet
    case rel => exact ⟨_, (true), zr, H', ⟨by first | omega | exact Nat.le_refl _⟩, by repeat (first | exact Drawn0.refl _ | apply Drawn0.step)⟩
   ·rw [if_neg c4] at H
    have c4b0 := zgtn c4
    have c4b1 : decide (60 < a0.size) = false := z0 (by omega)
    clear c4
    by_cases c5 : 0 < (a0.size : Int)
    ·rw [if_pos c5] at H
     have c5b0 := z1 c5
     have c5b1 : decide (0 < a0.size) = true := z1 (by omega)
     clear c5
     have H' := zz H
     clear H
     have p6 : 0 ≤ (0 : Int) := (by omega)
     have q6 : 0 < a0.size := (by have : (0 : Int) < (a0.size : Int) := z2; omega)
     have hx6 : ∀ h : 0 < a0.size, ((a0[0]'h).toNat : Int) = bt a0 0 := bt_at a0 0
     clear p6
     have qi6 : (0 < (a0.size : Int)) = True := eq_true (z2)
     replace q6 := eq_true q6
     go_wp2
     go_meet
     case rel => exact ⟨_, (((bt a0 0) == 46)), zr, H', ⟨by first | omega | exact Nat.le_refl _⟩, by repeat (first | exact Drawn0.refl _ | apply Drawn0.step)⟩
    ·rw [if_neg c5] at H
     exact absurd H (by simp)
 case rest =>
  clear HC2
  try clear p2
  try clear c3
  try clear c3b0
  try clear c3b1
  try clear c4
  try clear c4b0
  try clear c4b1
  try clear c5
  try clear c5b0
  try clear c5b1
  try clear p6
  try clear q6
  try clear hx6
  try clear qi6
  try clear p6
  try clear q6
  obtain ⟨kq, x17_1, rfl, HA, HJ1, ⟨mc1, rfl⟩⟩ := hcut
  cases kq with
  | zero => exact absurd HA.out (by simp [spec_NameOk.j0])
  | succ kj1 =>
   have H := HA.out
   clear HA
   simp only [spec_NameOk.j0] at H
   by_cases c7 : x17_1 = true
   ·subst c7
    rw [if_pos rfl] at H
    obtain rfl := zi H
    go_wp2
    go_ret
    exact ⟨zr, by repeat (first | exact Drawn0.refl _ | apply Drawn0.step)⟩
   replace c7 := Bool.eq_false_iff.mpr c7
   subst c7
   rw [if_neg (show ¬ (false = true) by decide)] at H
   have H' := zz H
   clear H
   go_wp2
   go_loopg [3] kj1 (fun kq v3 w' => ∃ (x3_2 : Int), v3 = .int .i64 x3_2 ∧ Aside0 (spec_NameOk.l0 kq a0 x3_2 = some r) ∧ Aside0 (kq ≤ kj1) ∧ Drawn0 w w')
   case atStart => exact ⟨(0), zr, H', ⟨Nat.le_refl _⟩, by repeat (first | exact Drawn0.refl _ | apply Drawn0.step)⟩
   case round =>
    clear H'
    try clear c1
    try clear p2
    try clear c3
    try clear c3b0
    try clear c3b1
    try clear c4
    try clear c4b0
    try clear c4b1
    try clear c5
    try clear c5b0
    try clear c5b1
    try clear p6
    try clear q6
    try clear hx6
    try clear qi6
    try clear c7
    try clear p2
    try clear p6
    try clear q6
    obtain ⟨x3_2, rfl, HA, HK2, ⟨m2, rfl⟩⟩ := hrel
    cases gk with
    | zero => exact absurd HA.out (by simp [spec_NameOk.l0])
    | succ k2 =>
     have H := HA.out
     clear HA
     simp only [spec_NameOk.l0] at H
     by_cases c8 : x3_2 < (a0.size : Int)
     case neg =>
      rw [if_neg c8] at H
      have c8b0 := z0 c8
      clear c8
      obtain rfl := zi H
      go_wp2
      go_ret
      exact ⟨zr, by repeat (first | exact Drawn0.refl _ | apply Drawn0.step)⟩
     rw [if_pos c8] at H
     have c8b0 := z1 c8
     clear c8
     by_cases c9 : 0 ≤ x3_2
     case neg => exact zno H c9
     rw [if_pos c9] at H
     have c9b0 := z1 c9
     clear c9
     replace H := zf H
     obtain ⟨t136, A110, H⟩ := H
     try dsimp only at H
     have A11 := zz A110
     clear A110
     by_cases c12 : t136 = true
     ·subst c12
      rw [if_pos rfl] at H
      have H' := zz H
      clear H
      have p10 : 0 ≤ (x3_2 : Int) := z2
      have q10 : x3_2 < (a0.size : Int) := z2
      have hx10 := bt_at a0 x3_2
      replace p10 := eq_true p10
      replace q10 := eq_true q10
      go_wp2_with (first | (refine zL 82 28 Tryz.func82 #[.int .u8 (bt a0 x3_2)] ?_; (with_reducible refine (spec_l1Letter.calls (bt a0 x3_2) true _ A11.out).mono ?_); rintro e w' ⟨rfl, ⟨nd, rfl⟩⟩; refine ⟨_, rfl, ?_⟩))
      go_roundg k2
      case measure => have := HJ1.out; have := HK2.out; omega
      case rel => exact ⟨(wrap64 (x3_2 + 1)), zr, H', ⟨by have := HJ1.out; have := HK2.out; omega⟩, by repeat (first | exact Drawn0.refl _ | apply Drawn0.step)⟩
     replace c12 := Bool.eq_false_iff.mpr c12
     subst c12
     rw [if_neg (show ¬ (false = true) by decide)] at H
     replace H := zf H
     obtain ⟨t137, A130, H⟩ := H
     try dsimp only at H
     have A13 := zz A130
     clear A130
     by_cases c14 : t137 = true
     ·subst c14
      rw [if_pos rfl] at H
      have H' := zz H
      clear H
      have p10 : 0 ≤ (x3_2 : Int) := z2
      have q10 : x3_2 < (a0.size : Int) := z2
      have hx10 := bt_at a0 x3_2
      replace p10 := eq_true p10
      replace q10 := eq_true q10
      go_wp2_with (first | (refine zL 82 28 Tryz.func82 #[.int .u8 (bt a0 x3_2)] ?_; (with_reducible refine (spec_l1Letter.calls (bt a0 x3_2) false _ A11.out).mono ?_); rintro e w' ⟨rfl, ⟨nd, rfl⟩⟩; refine ⟨_, rfl, ?_⟩) | (go_at_call 83; (with_reducible refine (spec_l1Digit.calls (bt a0 x3_2) true _ A13.out).mono ?_); rintro e w' ⟨rfl, ⟨nd, rfl⟩⟩))
      go_roundg k2
      case measure => have := HJ1.out; have := HK2.out; omega
      case rel => exact ⟨(wrap64 (x3_2 + 1)), zr, H', ⟨by have := HJ1.out; have := HK2.out; omega⟩, by repeat (first | exact Drawn0.refl _ | apply Drawn0.step)⟩
     replace c14 := Bool.eq_false_iff.mpr c14
     subst c14
     rw [if_neg (show ¬ (false = true) by decide)] at H
     by_cases c15 : (bt a0 x3_2) = 45
     ·rw [if_pos c15] at H
      obtain ⟨c15b0, c15b1⟩ := zq c15
      clear c15
      have H' := zz H
      clear H
      have p10 : 0 ≤ (x3_2 : Int) := z2
      have q10 : x3_2 < (a0.size : Int) := z2
      have hx10 := bt_at a0 x3_2
      replace p10 := eq_true p10
      replace q10 := eq_true q10
      go_wp2_with (first | (refine zL 82 28 Tryz.func82 #[.int .u8 (bt a0 x3_2)] ?_; (with_reducible refine (spec_l1Letter.calls (bt a0 x3_2) false _ A11.out).mono ?_); rintro e w' ⟨rfl, ⟨nd, rfl⟩⟩; refine ⟨_, rfl, ?_⟩) | (go_at_call 83; (with_reducible refine (spec_l1Digit.calls (bt a0 x3_2) false _ A13.out).mono ?_); rintro e w' ⟨rfl, ⟨nd, rfl⟩⟩))
      go_roundg k2
      case measure => have := HJ1.out; have := HK2.out; omega
      case rel => exact ⟨(wrap64 (x3_2 + 1)), zr, H', ⟨by have := HJ1.out; have := HK2.out; omega⟩, by repeat (first | exact Drawn0.refl _ | apply Drawn0.step)⟩
     rw [if_neg c15] at H
     obtain ⟨c15b0, c15b1⟩ := zw c15
     by_cases c16 : (bt a0 x3_2) = 95
     ·rw [if_pos c16] at H
      obtain ⟨c16b0, c16b1⟩ := zq c16
      clear c16
      have H' := zz H
      clear H
      have p10 : 0 ≤ (x3_2 : Int) := z2
      have q10 : x3_2 < (a0.size : Int) := z2
      have hx10 := bt_at a0 x3_2
      replace p10 := eq_true p10
      replace q10 := eq_true q10
      go_wp2_with (first | (refine zL 82 28 Tryz.func82 #[.int .u8 (bt a0 x3_2)] ?_; (with_reducible refine (spec_l1Letter.calls (bt a0 x3_2) false _ A11.out).mono ?_); rintro e w' ⟨rfl, ⟨nd, rfl⟩⟩; refine ⟨_, rfl, ?_⟩) | (go_at_call 83; (with_reducible refine (spec_l1Digit.calls (bt a0 x3_2) false _ A13.out).mono ?_); rintro e w' ⟨rfl, ⟨nd, rfl⟩⟩))
      go_roundg k2
      case measure => have := HJ1.out; have := HK2.out; omega
      case rel => exact ⟨(wrap64 (x3_2 + 1)), zr, H', ⟨by have := HJ1.out; have := HK2.out; omega⟩, by repeat (first | exact Drawn0.refl _ | apply Drawn0.step)⟩
     rw [if_neg c16] at H
     obtain ⟨c16b0, c16b1⟩ := zw c16
     by_cases c17 : (bt a0 x3_2) = 46
     ·rw [if_pos c17] at H
      obtain ⟨c17b0, c17b1⟩ := zq c17
      clear c17
      have H' := zz H
      clear H
      have p10 : 0 ≤ (x3_2 : Int) := z2
      have q10 : x3_2 < (a0.size : Int) := z2
      have hx10 := bt_at a0 x3_2
      replace p10 := eq_true p10
      replace q10 := eq_true q10
      go_wp2_with (first | (refine zL 82 28 Tryz.func82 #[.int .u8 (bt a0 x3_2)] ?_; (with_reducible refine (spec_l1Letter.calls (bt a0 x3_2) false _ A11.out).mono ?_); rintro e w' ⟨rfl, ⟨nd, rfl⟩⟩; refine ⟨_, rfl, ?_⟩) | (go_at_call 83; (with_reducible refine (spec_l1Digit.calls (bt a0 x3_2) false _ A13.out).mono ?_); rintro e w' ⟨rfl, ⟨nd, rfl⟩⟩))
      go_roundg k2
      case measure => have := HJ1.out; have := HK2.out; omega
      case rel => exact ⟨(wrap64 (x3_2 + 1)), zr, H', ⟨by have := HJ1.out; have := HK2.out; omega⟩, by repeat (first | exact Drawn0.refl _ | apply Drawn0.step)⟩
     rw [if_neg c17] at H
     obtain ⟨c17b0, c17b1⟩ := zw c17
     by_cases c18 : (bt a0 x3_2) = 43
     case neg =>
      rw [if_neg c18] at H
      obtain ⟨c18b0, c18b1⟩ := zw c18
      obtain rfl := zi H
      have p10 : 0 ≤ (x3_2 : Int) := z2
      have q10 : x3_2 < (a0.size : Int) := z2
      have hx10 := bt_at a0 x3_2
      replace p10 := eq_true p10
      replace q10 := eq_true q10
      go_wp2_with (first | (refine zL 82 28 Tryz.func82 #[.int .u8 (bt a0 x3_2)] ?_; (with_reducible refine (spec_l1Letter.calls (bt a0 x3_2) false _ A11.out).mono ?_); rintro e w' ⟨rfl, ⟨nd, rfl⟩⟩; refine ⟨_, rfl, ?_⟩) | (go_at_call 83; (with_reducible refine (spec_l1Digit.calls (bt a0 x3_2) false _ A13.out).mono ?_); rintro e w' ⟨rfl, ⟨nd, rfl⟩⟩))
      go_ret
      exact ⟨zr, by repeat (first | exact Drawn0.refl _ | apply Drawn0.step)⟩
     rw [if_pos c18] at H
     obtain ⟨c18b0, c18b1⟩ := zq c18
     clear c18
     have H' := zz H
     clear H
     have p10 : 0 ≤ (x3_2 : Int) := z2
     have q10 : x3_2 < (a0.size : Int) := z2
     have hx10 := bt_at a0 x3_2
     replace p10 := eq_true p10
     replace q10 := eq_true q10
     go_wp2_with (first | (refine zL 82 28 Tryz.func82 #[.int .u8 (bt a0 x3_2)] ?_; (with_reducible refine (spec_l1Letter.calls (bt a0 x3_2) false _ A11.out).mono ?_); rintro e w' ⟨rfl, ⟨nd, rfl⟩⟩; refine ⟨_, rfl, ?_⟩) | (go_at_call 83; (with_reducible refine (spec_l1Digit.calls (bt a0 x3_2) false _ A13.out).mono ?_); rintro e w' ⟨rfl, ⟨nd, rfl⟩⟩))
     go_roundg k2
     case measure => have := HJ1.out; have := HK2.out; omega
     case rel => exact ⟨(wrap64 (x3_2 + 1)), zr, H', ⟨by have := HJ1.out; have := HK2.out; omega⟩, by repeat (first | exact Drawn0.refl _ | apply Drawn0.step)⟩
def spec_l1Index.l0 : Nat → Int → Int → Option (Int)
 | 0, _, _ => none
 | k + 1, x0, x3 => if x3 < 32 then (if 0 ≤ x3 then (if (bt (⟨#[48, 49, 50, 51, 52, 53, 54, 55, 56, 57, 97, 98, 99, 100, 102, 103, 104, 105, 106, 107, 108, 109, 110, 112, 113, 114, 115, 118, 119, 120, 121, 122]⟩ : ByteArray) x3) = x0 then (some x3) else (spec_l1Index.l0 k x0 (wrap64 (x3 + 1)))) else (none)) else (some (-1))
def spec_l1Index.f (k : Nat) (a0 : Int) : Option (Int) := spec_l1Index.l0 k a0 0
theorem spec_l1Index.mono_l : ∀ k, (∀ y0 y1, LeO (spec_l1Index.l0 k y0 y1) (spec_l1Index.l0 (k + 1) y0 y1))
 | 0 => fun _ _ r h => by simp [spec_l1Index.l0] at h
 | k + 1 => by
  have ih0 := spec_l1Index.mono_l k
  ·intro y0 y1
   unfold spec_l1Index.l0
   exact zM
theorem spec_l1Index.mono : ∀ a0 k, LeO (spec_l1Index.f k a0) (spec_l1Index.f (k + 1) a0) := by
 intro a0 k
 have ih0 := spec_l1Index.mono_l k
 unfold spec_l1Index.f
 exact zM
theorem spec_l1Index.calls (k : Nat) (a0 : Int) (r : Int) (w : World) (h : spec_l1Index.f k a0 = some r) :
 Calls Tryz.prog 122 #[.int .u8 a0] w fun e w' => e = .returned (.int .i64 r) ∧ Drawn0 w w' := by
 unfold spec_l1Index.f at h
 have H := h
 clear h
 have H' := zz H
 clear H
 go_enter Tryz.func122, Tryz.ntmps122
 go_wp2
 go_loopg [3] k (fun kq v3 w' => ∃ (x3_1 : Int), v3 = .int .i64 x3_1 ∧ Aside0 (spec_l1Index.l0 kq a0 x3_1 = some r) ∧ Aside0 (kq ≤ k) ∧ Drawn0 w w')
 case atStart => exact ⟨(0), zr, H', ⟨Nat.le_refl _⟩, by repeat (first | exact Drawn0.refl _ | apply Drawn0.step)⟩
 case round =>
  clear H'
  try clear c1
  obtain ⟨x3_1, rfl, HA, HK1, ⟨m1, rfl⟩⟩ := hrel
  cases gk with
  | zero => exact absurd HA.out (by simp [spec_l1Index.l0])
  | succ k1 =>
   have H := HA.out
   clear HA
   simp only [spec_l1Index.l0] at H
   by_cases c2 : x3_1 < 32
   case neg =>
    rw [if_neg c2] at H
    have c2b0 := z0 c2
    clear c2
    obtain rfl := zi H
    go_wp2
    go_ret
    exact ⟨zr, by repeat (first | exact Drawn0.refl _ | apply Drawn0.step)⟩
   rw [if_pos c2] at H
   have c2b0 := z1 c2
   clear c2
   by_cases c3 : 0 ≤ x3_1
   case neg => exact zno H c3
   rw [if_pos c3] at H
   have c3b0 := z1 c3
   clear c3
   by_cases c5 : (bt (⟨#[48, 49, 50, 51, 52, 53, 54, 55, 56, 57, 97, 98, 99, 100, 102, 103, 104, 105, 106, 107, 108, 109, 110, 112, 113, 114, 115, 118, 119, 120, 121, 122]⟩ : ByteArray) x3_1) = a0
   ·rw [if_pos c5] at H
    obtain ⟨c5b0, c5b1⟩ := zq c5
    clear c5
    obtain rfl := zi H
    have p4 : 0 ≤ (x3_1 : Int) := z2
    have q4 : x3_1 < (32 : Int) := z2
    have hx4 := bt_at (⟨#[48, 49, 50, 51, 52, 53, 54, 55, 56, 57, 97, 98, 99, 100, 102, 103, 104, 105, 106, 107, 108, 109, 110, 112, 113, 114, 115, 118, 119, 120, 121, 122]⟩ : ByteArray) x3_1
    replace p4 := eq_true p4
    replace q4 := eq_true q4
    go_wp2
    go_ret
    exact ⟨zr, by repeat (first | exact Drawn0.refl _ | apply Drawn0.step)⟩
   rw [if_neg c5] at H
   obtain ⟨c5b0, c5b1⟩ := zw c5
   have H' := zz H
   clear H
   have p4 : 0 ≤ (x3_1 : Int) := z2
   have q4 : x3_1 < (32 : Int) := z2
   have hx4 := bt_at (⟨#[48, 49, 50, 51, 52, 53, 54, 55, 56, 57, 97, 98, 99, 100, 102, 103, 104, 105, 106, 107, 108, 109, 110, 112, 113, 114, 115, 118, 119, 120, 121, 122]⟩ : ByteArray) x3_1
   replace p4 := eq_true p4
   replace q4 := eq_true q4
   go_wp2
   go_roundg k1
   case measure => have := HK1.out; omega
   case rel => exact ⟨(wrap64 (x3_1 + 1)), zr, H', ⟨by have := HK1.out; omega⟩, by repeat (first | exact Drawn0.refl _ | apply Drawn0.step)⟩
def spec_ReadWord32.l0 : Nat → ByteArray → Int → Int → Option (Int × Bool)
 | 0, _, _, _ => none
 | k + 1, x0, x4, x5 => if x5 < 13 then (if 0 ≤ x5 then (if x5 < (x0.size : Int) then ((spec_l1Index.f k (bt x0 x5)).bind fun t138 => (if t138 < 0 then (some (0, false)) else (if x5 = 0 then (if t138 > 15 then (some (0, false)) else (spec_ReadWord32.l0 k x0 (IntKind.u64.wrap ((IntKind.u64.wrap (x4 * 32)) + (IntKind.u64.wrap (t138)))) (wrap64 (x5 + 1)))) else (spec_ReadWord32.l0 k x0 (IntKind.u64.wrap ((IntKind.u64.wrap (x4 * 32)) + (IntKind.u64.wrap (t138)))) (wrap64 (x5 + 1)))))) else (none)) else (none)) else (some (x4, true))
def spec_ReadWord32.f (k : Nat) (a0 : ByteArray) : Option (Int × Bool) := if (a0.size : Int) = 13 then (spec_ReadWord32.l0 k a0 0 0) else (some (0, false))
theorem spec_ReadWord32.mono_l : ∀ k, (∀ y0 y1 y2, LeO (spec_ReadWord32.l0 k y0 y1 y2) (spec_ReadWord32.l0 (k + 1) y0 y1 y2))
 | 0 => fun _ _ _ r h => by simp [spec_ReadWord32.l0] at h
 | k + 1 => by
  have ih0 := spec_ReadWord32.mono_l k
  ·intro y0 y1 y2
   unfold spec_ReadWord32.l0
   have m0 := @spec_l1Index.mono
   exact zM
theorem spec_ReadWord32.mono : ∀ a0 k, LeO (spec_ReadWord32.f k a0) (spec_ReadWord32.f (k + 1) a0) := by
 intro a0 k
 have ih0 := spec_ReadWord32.mono_l k
 unfold spec_ReadWord32.f
 have m0 := @spec_l1Index.mono
 exact zM
theorem spec_ReadWord32.calls (k : Nat) (a0 : ByteArray) (r1 : Int) (r2 : Bool) (w : World) (h : spec_ReadWord32.f k a0 = some (r1, r2)) :
 Calls Tryz.prog 84 #[.string a0] w fun e w' => e = .returned (.tuple #[.int .u64 r1, .bool r2]) ∧ Drawn0 w w' := by
 unfold spec_ReadWord32.f at h
 have H := h
 clear h
 by_cases c2 : (a0.size : Int) = 13
 case neg =>
  rw [if_neg c2] at H
  obtain ⟨c2b0, c2b1⟩ := zw c2
  simp only [Option.some.injEq, Prod.mk.injEq] at H
  obtain ⟨rfl, rfl⟩ := H
  go_enter Tryz.func84, Tryz.ntmps84
  go_wp2
  go_ret2
  exact ⟨zr, by repeat (first | exact Drawn0.refl _ | apply Drawn0.step)⟩
 rw [if_pos c2] at H
 obtain ⟨c2b0, c2b1⟩ := zq c2
 clear c2
 have H' := zz H
 clear H
 go_enter Tryz.func84, Tryz.ntmps84
 go_wp2
 go_loopg [4, 5] k (fun kq v4 v5 w' => ∃ (x4_1 : Int) (x5_1 : Int), v4 = .int .u64 x4_1 ∧ v5 = .int .i64 x5_1 ∧ Aside0 (spec_ReadWord32.l0 kq a0 x4_1 x5_1 = some (r1, r2)) ∧ Aside0 (kq ≤ k) ∧ Drawn0 w w')
 case atStart => exact ⟨(0), (0), zr, zr, H', ⟨Nat.le_refl _⟩, by repeat (first | exact Drawn0.refl _ | apply Drawn0.step)⟩
 case round =>
  clear H'
  try clear c2
  try clear c2b0
  try clear c2b1
  try clear p2
  obtain ⟨x4_1, x5_1, rfl, rfl, HA, HK1, ⟨m1, rfl⟩⟩ := hrel
  cases gk with
  | zero => exact absurd HA.out (by simp [spec_ReadWord32.l0])
  | succ k1 =>
   have H := HA.out
   clear HA
   simp only [spec_ReadWord32.l0] at H
   by_cases c3 : x5_1 < 13
   case neg =>
    rw [if_neg c3] at H
    have c3b0 := z0 c3
    clear c3
    simp only [Option.some.injEq, Prod.mk.injEq] at H
    obtain ⟨rfl, rfl⟩ := H
    go_wp2
    go_ret2
    exact ⟨zr, by repeat (first | exact Drawn0.refl _ | apply Drawn0.step)⟩
   rw [if_pos c3] at H
   have c3b0 := z1 c3
   clear c3
   by_cases c4 : 0 ≤ x5_1
   case neg => exact zno H c4
   rw [if_pos c4] at H
   have c4b0 := z1 c4
   clear c4
   by_cases c5 : x5_1 < (a0.size : Int)
   case neg => exact zno H c5
   rw [if_pos c5] at H
   have c5b0 := z1 c5
   clear c5
   replace H := zf H
   obtain ⟨t138, A70, H⟩ := H
   try dsimp only at H
   have A7 := zz A70
   clear A70
   by_cases c8 : t138 < 0
   ·rw [if_pos c8] at H
    have c8b0 := z1 c8
    clear c8
    simp only [Option.some.injEq, Prod.mk.injEq] at H
    obtain ⟨rfl, rfl⟩ := H
    have p6 : 0 ≤ (x5_1 : Int) := z2
    have q6 : x5_1 < (a0.size : Int) := z2
    have hx6 := bt_at a0 x5_1
    replace p6 := eq_true p6
    replace q6 := eq_true q6
    go_wp2_with (first | (refine zL 122 17 Tryz.func122 #[.int .u8 (bt a0 x5_1)] ?_; (with_reducible refine (spec_l1Index.calls k1 (bt a0 x5_1) t138 _ A7.out).mono ?_); rintro e w' ⟨rfl, ⟨nd, rfl⟩⟩; refine ⟨_, rfl, ?_⟩))
    go_ret2
    exact ⟨zr, by repeat (first | exact Drawn0.refl _ | apply Drawn0.step)⟩
   rw [if_neg c8] at H
   have c8b0 := z0 c8
   clear c8
   by_cases c9 : x5_1 = 0
   case neg =>
    rw [if_neg c9] at H
    obtain ⟨c9b0, c9b1⟩ := zw c9
    have H' := zz H
    clear H
    have p6 : 0 ≤ (x5_1 : Int) := z2
    have q6 : x5_1 < (a0.size : Int) := z2
    have hx6 := bt_at a0 x5_1
    replace p6 := eq_true p6
    replace q6 := eq_true q6
    go_wp2_with (first | (refine zL 122 17 Tryz.func122 #[.int .u8 (bt a0 x5_1)] ?_; (with_reducible refine (spec_l1Index.calls k1 (bt a0 x5_1) t138 _ A7.out).mono ?_); rintro e w' ⟨rfl, ⟨nd, rfl⟩⟩; refine ⟨_, rfl, ?_⟩))
    go_roundg k1
    case measure => have := HK1.out; omega
    case rel => exact ⟨(IntKind.u64.wrap ((IntKind.u64.wrap (x4_1 * 32)) + (IntKind.u64.wrap (t138)))), (wrap64 (x5_1 + 1)), zr, zr, H', ⟨by have := HK1.out; omega⟩, by repeat (first | exact Drawn0.refl _ | apply Drawn0.step)⟩
   rw [if_pos c9] at H
   obtain ⟨c9b0, c9b1⟩ := zq c9
   clear c9
   by_cases c10 : t138 > 15
   ·rw [if_pos c10] at H
    have c10b0 := zgt c10
    clear c10
    simp only [Option.some.injEq, Prod.mk.injEq] at H
    obtain ⟨rfl, rfl⟩ := H
    have p6 : 0 ≤ (x5_1 : Int) := z2
    have q6 : x5_1 < (a0.size : Int) := z2
    have hx6 := bt_at a0 x5_1
    replace p6 := eq_true p6
    replace q6 := eq_true q6
    go_wp2_with (first | (refine zL 122 17 Tryz.func122 #[.int .u8 (bt a0 x5_1)] ?_; (with_reducible refine (spec_l1Index.calls k1 (bt a0 x5_1) t138 _ A7.out).mono ?_); rintro e w' ⟨rfl, ⟨nd, rfl⟩⟩; refine ⟨_, rfl, ?_⟩))
    go_ret2
    exact ⟨zr, by repeat (first | exact Drawn0.refl _ | apply Drawn0.step)⟩
   rw [if_neg c10] at H
   have c10b0 := zgtn c10
   clear c10
   have H' := zz H
   clear H
   have p6 : 0 ≤ (x5_1 : Int) := z2
   have q6 : x5_1 < (a0.size : Int) := z2
   have hx6 := bt_at a0 x5_1
   replace p6 := eq_true p6
   replace q6 := eq_true q6
   go_wp2_with (first | (refine zL 122 17 Tryz.func122 #[.int .u8 (bt a0 x5_1)] ?_; (with_reducible refine (spec_l1Index.calls k1 (bt a0 x5_1) t138 _ A7.out).mono ?_); rintro e w' ⟨rfl, ⟨nd, rfl⟩⟩; refine ⟨_, rfl, ?_⟩))
   go_roundg k1
   case measure => have := HK1.out; omega
   case rel => exact ⟨(IntKind.u64.wrap ((IntKind.u64.wrap (x4_1 * 32)) + (IntKind.u64.wrap (t138)))), (wrap64 (x5_1 + 1)), zr, zr, H', ⟨by have := HK1.out; omega⟩, by repeat (first | exact Drawn0.refl _ | apply Drawn0.step)⟩
def spec_AddressOk.j0 : Nat → ByteArray → Bool → Option (Bool)
 | 0, _, _ => none
 | k + 1, x0, x12 => if x12 = true then (some false) else (if 0 ≤ 13 then (if 13 ≤ (x0.size : Int) then ((spec_ReadWord32.f k (x0.extract 0 13)).bind fun bt139 => (if bt139.2 = true then (if 14 ≤ (x0.size : Int) then ((spec_NameOk.f k (x0.extract 14 x0.size)).bind fun t141 => (some t141)) else (none)) else (some false))) else (none)) else (none))
def spec_AddressOk.f (k : Nat) (a0 : ByteArray) : Option (Bool) := if (a0.size : Int) < 15 then (spec_AddressOk.j0 k a0 true) else (if 13 < (a0.size : Int) then (spec_AddressOk.j0 k a0 ((bt a0 13) != 45)) else (none))
theorem spec_AddressOk.mono_l : ∀ k, (∀ y0 y1, LeO (spec_AddressOk.j0 k y0 y1) (spec_AddressOk.j0 (k + 1) y0 y1))
 | 0 => fun _ _ r h => by simp [spec_AddressOk.j0] at h
 | k + 1 => by
  have ih0 := spec_AddressOk.mono_l k
  ·intro y0 y1
   unfold spec_AddressOk.j0
   have m0 := @spec_NameOk.mono
   have m1 := @spec_ReadWord32.mono
   exact zM
theorem spec_AddressOk.mono : ∀ a0 k, LeO (spec_AddressOk.f k a0) (spec_AddressOk.f (k + 1) a0) := by
 intro a0 k
 have ih0 := spec_AddressOk.mono_l k
 unfold spec_AddressOk.f
 have m0 := @spec_NameOk.mono
 have m1 := @spec_ReadWord32.mono
 exact zM
theorem spec_AddressOk.calls (k : Nat) (a0 : ByteArray) (r : Bool) (w : World) (h : spec_AddressOk.f k a0 = some r) :
 Calls Tryz.prog 36 #[.string a0] w fun e w' => e = .returned (.bool r) ∧ Drawn0 w w' := by
 unfold spec_AddressOk.f at h
 have H := h
 clear h
 have HC2 := zz H
 clear H
 go_enter Tryz.func36, Tryz.ntmps36
 go_upto_region 1 with (fail)
 go_cut [12] (fun v12 wc => ∃ (kq : Nat) (x12_1 : Bool), v12 = .bool x12_1 ∧ Aside0 (spec_AddressOk.j0 kq a0 x12_1 = some r) ∧ Aside0 (kq ≤ k) ∧ Drawn0 w wc)
 case first =>
  have H := HC2.out
  clear HC2
  by_cases c3 : (a0.size : Int) < 15
  ·rw [if_pos c3] at H
   have c3b0 := z1 c3
   have c3b1 : decide (a0.size < 15) = true := z1 (by omega)
   clear c3
   (first | rw [c3b0] | (simp only [i64_w, i32_w]; rw [c3b0]) | skip)
   have H' := zz H
   clear H
   go_wp2
   go_meet
   case rel => exact ⟨_, (true), zr, H', ⟨by first | omega | exact Nat.le_refl _⟩, by repeat (first | exact Drawn0.refl _ | apply Drawn0.step)⟩
  ·rw [if_neg c3] at H
   have c3b0 := z0 c3
   have c3b1 : decide (a0.size < 15) = false := z0 (by omega)
   clear c3
   (first | rw [c3b0] | (simp only [i64_w, i32_w]; rw [c3b0]) | skip)
   by_cases c4 : 13 < (a0.size : Int)
   ·rw [if_pos c4] at H
    have c4b0 := z1 c4
    have c4b1 : decide (13 < a0.size) = true := z1 (by omega)
    clear c4
    have H' := zz H
    clear H
    have p5 : 0 ≤ (13 : Int) := (by omega)
    have q5 : 13 < a0.size := (by have : (13 : Int) < (a0.size : Int) := z2; omega)
    have hx5 : ∀ h : 13 < a0.size, ((a0[13]'h).toNat : Int) = bt a0 13 := bt_at a0 13
    clear p5
    have qi5 : (13 < (a0.size : Int)) = True := eq_true (z2)
    replace q5 := eq_true q5
    go_wp2
    go_meet
    case rel => exact ⟨_, (((bt a0 13) != 45)), zr, H', ⟨by first | omega | exact Nat.le_refl _⟩, by repeat (first | exact Drawn0.refl _ | apply Drawn0.step)⟩
   ·rw [if_neg c4] at H
    exact absurd H (by simp)
 case rest =>
  clear HC2
  try clear p2
  try clear c3
  try clear c3b0
  try clear c3b1
  try clear c4
  try clear c4b0
  try clear c4b1
  try clear p5
  try clear q5
  try clear hx5
  try clear qi5
  try clear p5
  try clear q5
  obtain ⟨kq, x12_1, rfl, HA, HJ1, ⟨mc1, rfl⟩⟩ := hcut
  cases kq with
  | zero => exact absurd HA.out (by simp [spec_AddressOk.j0])
  | succ kj1 =>
   have H := HA.out
   clear HA
   simp only [spec_AddressOk.j0] at H
   by_cases c6 : x12_1 = true
   ·subst c6
    rw [if_pos rfl] at H
    obtain rfl := zi H
    go_wp2
    go_ret
    exact ⟨zr, by repeat (first | exact Drawn0.refl _ | apply Drawn0.step)⟩
   replace c6 := Bool.eq_false_iff.mpr c6
   subst c6
   rw [if_neg (show ¬ (false = true) by decide)] at H
   by_cases c7 : 0 ≤ 13
   case neg => exact zno H c7
   rw [if_pos c7] at H
   have c7b0 := eq_true c7
   have c7b1 := z1 c7
   clear c7
   by_cases c8 : 13 ≤ (a0.size : Int)
   case neg => exact zno H c8
   rw [if_pos c8] at H
   have c8b0 := eq_true c8
   have c8b1 := z1 c8
   clear c8
   replace H := zf H
   obtain ⟨⟨t139, t140⟩, A90, H⟩ := H
   try dsimp only at H
   have A9 := zz A90
   clear A90
   by_cases c10 : t140 = true
   case neg =>
    replace c10 := Bool.eq_false_iff.mpr c10
    subst c10
    rw [if_neg (show ¬ (false = true) by decide)] at H
    obtain rfl := zi H
    go_wp2_with (first | (refine zL 84 16 Tryz.func84 #[.string (a0.extract 0 13)] ?_; (with_reducible refine (spec_ReadWord32.calls kj1 (a0.extract 0 13) t139 false _ A9.out).mono ?_); rintro e w' ⟨rfl, ⟨nd, rfl⟩⟩; refine ⟨_, rfl, ?_⟩))
    go_ret
    exact ⟨zr, by repeat (first | exact Drawn0.refl _ | apply Drawn0.step)⟩
   subst c10
   rw [if_pos rfl] at H
   by_cases c11 : 14 ≤ (a0.size : Int)
   case neg => exact zno H c11
   rw [if_pos c11] at H
   have c11b0 := eq_true c11
   have c11b1 := z1 c11
   clear c11
   replace H := zf H
   obtain ⟨t141, A120, H⟩ := H
   try dsimp only at H
   have A12 := zz A120
   clear A120
   obtain rfl := zi H
   go_wp2_with (first | (refine zL 84 16 Tryz.func84 #[.string (a0.extract 0 13)] ?_; (with_reducible refine (spec_ReadWord32.calls kj1 (a0.extract 0 13) t139 true _ A9.out).mono ?_); rintro e w' ⟨rfl, ⟨nd, rfl⟩⟩; refine ⟨_, rfl, ?_⟩) | (go_at_call 35; (with_reducible refine (spec_NameOk.calls kj1 (a0.extract 14 a0.size) t141 _ A12.out).mono ?_); rintro e w' ⟨rfl, ⟨nd, rfl⟩⟩))
   go_ret
   exact ⟨zr, by repeat (first | exact Drawn0.refl _ | apply Drawn0.step)⟩
end Go.Proofs.YtcekmnclmldmmaaGreatDoor.Q
