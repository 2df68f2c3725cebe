import Derived.Test.YtcekmnclmldmmaaGreatDoorB18
import Derived.Test.YtcekmnclmldmmaaGreatDoorB21
set_option linter.unusedVariables false
set_option linter.unusedSimpArgs false
namespace Go.Proofs.YtcekmnclmldmmaaGreatDoor.Q
open Go.RowKit W1 W2 W3
attribute [local go_sem] max2_int min2_int max_two min_two max_three min_three max_four min_four
attribute [local go_sem high] bl_leq bl_gtr bl_geq
set_option maxHeartbeats 8000000
set_option maxRecDepth 100000
def impl_storePaths.l0 : Nat → List ByteArray → List (S94) → Int → Int → Option (List ByteArray)
 | 0, _, _, _, _ => none
 | k + 1, x3, x7, x8, x9 => if x9 < x8 then (if 0 ≤ x9 then (if x9 < (x7.length : Int) then (if x3.length < 8796093022208 then (impl_storePaths.l0 k (x3 ++ [(rd_T94 x7 x9).f0]) x7 x8 (wrap64 (x9 + 1))) else (none)) else (none)) else (none)) else (some x3)
def impl_storePaths.f (k : Nat) (l0 : List (S94)) : Option (List ByteArray) := impl_storePaths.l0 k (([] : List ByteArray)) l0 (l0.length : Int) 0
theorem impl_storePaths.mono_l : ∀ k, (∀ y0 y1 y2 y3, LeO (impl_storePaths.l0 k y0 y1 y2 y3) (impl_storePaths.l0 (k + 1) y0 y1 y2 y3))
 | 0 => fun _ _ _ _ r h => by simp [impl_storePaths.l0] at h
 | k + 1 => by
  have ih0 := impl_storePaths.mono_l k
  ·intro y0 y1 y2 y3
   unfold impl_storePaths.l0
   exact zM
theorem impl_storePaths.mono : ∀ a0 k, LeO (impl_storePaths.f k a0) (impl_storePaths.f (k + 1) a0) := by
 intro a0 k
 have ih0 := impl_storePaths.mono_l k
 unfold impl_storePaths.f
 exact zM
theorem impl_storePaths.calls (k : Nat) (A0 : Option Addr) (c0 : Nat) (l0 : List (S94)) (r : List ByteArray) (w : World) (hr0 : Kd.C k94 w A0 l0.length l0) (hc0 : l0.length ≤ c0) (h : impl_storePaths.f k l0 = some r) :
 Calls Tryz.prog 89 #[.slice A0 l0.length c0] w fun e w' => ∃ v0_ : Value, e = .returned (v0_) ∧ Kd.R Kd.string 9 w' w.heap.size (fun _ => True) v0_ r ∧ Below w.heap.size w w' := by
 have hu94 := Tryz.underlying94
 have HR0 := zz hr0
 have HC0 := zz hc0
 clear hr0 hc0
 have HB := zz (Below.refl w.heap.size w)
 unfold impl_storePaths.f at h
 have H := h
 clear h
 obtain ⟨y439, hy439⟩ : ∃ y_ : List ByteArray, y_ = (([] : List ByteArray)) := ⟨_, rfl⟩
 replace H : (impl_storePaths.l0 k y439 l0 (l0.length : Int) 0) = some r := by first | (rw [hy439]; with_reducible exact H) | (have H2_ := (Option.bind_some _ _).symm.trans H; rw [hy439]; with_reducible exact H2_) | (have H2_ := (Option.bind_some _ _).symm.trans H; with_reducible exact H2_) | with_reducible exact H | (rw [hy439]; exact H) | exact H
 have Ny439 := zz hy439
 clear hy439
 have H' := zz H
 clear H
 go_enter Tryz.func89, Tryz.ntmps89
 go_wp2_with (first | (refine zN 6 ?_; refine Kd.R_lit Kd.string _ 9 ?hg (N := 6) ?hd (xs := ([] : List ByteArray)) (inner := []) (ok := fun _ => True) (okp := fun _ => True) ?hr ?hp (fun _ hk => hk) trivial (Below.refl _ _) (Nat.le_refl _) (by simp) ?_; (case hd => rfl); (case hg => rfl); (case hr => first | (go_simp; done) | (go_simp; rfl)); (case hp => exact (Reps.none _ _)); intro v440 w2 ho3 hb hg_ hnew_; clear hg_ hnew_; (first | rw [← Ny439.out] at ho3 | (simp only [Int.reduceToNat] at ho3; rw [← Ny439.out] at ho3)); have HO441 := zz (Kd.R_lower ho3 (below_size zb)); replace HB := zz (zv zb hb); clear hb ho3))
 go_loopg [3, 9] k (fun kq v3 v9 w' => ∃ (x3_1 : List ByteArray) (x9_1 : Int), v9 = .int .i64 x9_1 ∧ Aside0 (impl_storePaths.l0 kq x3_1 l0 (l0.length : Int) x9_1 = some r) ∧ Aside0 (kq ≤ k) ∧ Aside0 (Kd.R Kd.string 9 w' w.heap.size (fun _ => True) v3 x3_1) ∧ Aside0 (Below w.heap.size w w'))
 case atStart => exact ⟨(y439), (0), zr, H', ⟨Nat.le_refl _⟩, ⟨by (with_reducible repeat (first | apply Kd.R_alloc | apply Kd.R_drewN | apply Kd.R_drew)); exact HO441.out⟩, ⟨zb⟩⟩
 case round =>
  clear H'
  try clear p2
  obtain ⟨x3_1, x9_1, rfl, HA, HK1, HO_3, HB⟩ := hrel
  cases gk with
  | zero => exact absurd HA.out (by simp [impl_storePaths.l0])
  | succ k1 =>
   have H := HA.out
   clear HA
   simp only [impl_storePaths.l0] at H
   by_cases c4 : x9_1 < (l0.length : Int)
   case neg =>
    rw [if_neg c4] at H
    have c4b0 := z0 c4
    clear c4
    obtain rfl := zi H
    go_wp2
    go_ret
    exact ⟨_, ze, by (with_reducible repeat (first | apply Kd.R_alloc | apply Kd.R_drewN | apply Kd.R_drew)); exact HO_3.out, zb⟩
   rw [if_pos c4] at H
   have c4b0 := z1 c4
   clear c4
   by_cases c5 : 0 ≤ x9_1
   case neg => exact zno H c5
   rw [if_pos c5] at H
   have c5b0 := z1 c5
   clear c5
   by_cases c6 : x9_1 < (l0.length : Int)
   case neg => exact zno H c6
   rw [if_pos c6] at H
   have c6b0 := z1 c6
   clear c6
   by_cases c7 : x3_1.length < 8796093022208
   case neg => exact zno H c7
   rw [if_pos c7] at H
   have LMc7 := zz c7
   clear c7
   obtain ⟨y444, hy444⟩ : ∃ y_ : List ByteArray, y_ = (x3_1 ++ [(rd_T94 l0 x9_1).f0]) := ⟨_, rfl⟩
   replace H : (impl_storePaths.l0 k1 y444 l0 (l0.length : Int) (wrap64 (x9_1 + 1))) = some r := by first | (rw [hy444]; with_reducible exact H) | (have H2_ := (Option.bind_some _ _).symm.trans H; rw [hy444]; with_reducible exact H2_) | (have H2_ := (Option.bind_some _ _).symm.trans H; with_reducible exact H2_) | with_reducible exact H | (rw [hy444]; exact H) | exact H
   have Ny444 := zz hy444
   clear hy444
   have H' := zz H
   clear H
   have p442 : 0 ≤ (x9_1 : Int) := z2
   have q442 : x9_1 < (l0.length : Int) := z2
   obtain ⟨ad442, A442_2, c442_2, A442_4, c442_4, e442, hx442_0, hx442_1, hx442_2, hx442_3, hx442_4, hl442_2, hi442_2, hl442_4, hi442_4⟩ := at_T94 HR0.out x9_1 p442 q442
   cases e442
   replace hx442_0 := z3 HB.out hx442_0
   replace hx442_1 := z3 HB.out hx442_1
   replace hx442_2 := z3 HB.out hx442_2
   replace hx442_3 := z3 HB.out hx442_3
   replace hx442_4 := z3 HB.out hx442_4
   have HR442_2 := zz hi442_2
   have HC442_2 := zz hl442_2
   clear hi442_2 hl442_2
   have HR442_4 := zz hi442_4
   have HC442_4 := zz hl442_4
   clear hi442_4 hl442_4
   replace p442 := eq_true p442
   replace q442 := eq_true q442
   go_wp2_with (first | (refine zX 5 94 #[.string (⟨#[]⟩ : ByteArray), .string (⟨#[]⟩ : ByteArray), .slice none 0 0, .string (⟨#[]⟩ : ByteArray), .slice none 0 0] ?_; intro gb443 hg w8 hbox hb; replace HO_3 := zz (Kd.R_below (zR HO_3.out) hb); have BK443 := zz (hbox); have GW443 := zz ((zg : w.heap.size ≤ gb443)); have GE443 := zz ((zg : w.heap.size ≤ gb443)); replace HB := zz (zv zb hb); clear hb hbox hg; obtain ⟨hcz9_0, hcz9_1, hcz9_2, hcz9_3, hcz9_4, hfz9_0, hfz9_1, hfz9_2, hfz9_3, hfz9_4⟩ := zc5 BK443.out) | ((with_reducible refine gate_builtin (b := .append) (xs := #[.tmp 13, .tmp 16]) rfl ?_); at_builtin; refine Kd.R_append Kd.string (w0 := w) w.heap.size rfl (.tmp 13) (.tmp 16) 39 9 (.string ⟨#[]⟩) 16 rfl Tryz.underlying39 info9 rfl (by decide) (by omega) u3 x3_1 ((rd_T94 l0 x9_1).f0) [.string ((rd_T94 l0 x9_1).f0)] (fun _ => True) (fun _ => False) rfl (by first | (go_simp; done) | (go_simp; rfl)) ?aP (fun _ hk => hk.elim) ?aF ?aO ?aB ?aS ?aL ?_; (case aP => exact rfl); (case aB => exact zb); (case aF => exact (fun _ _ => trivial)); (case aO => exact (by (with_reducible repeat (first | apply Kd.R_alloc | apply Kd.R_drewN | apply Kd.R_drew)); exact Kd.R_mono (Kd.R_far (p := ⟨gb443, 4, none⟩) (Kd.R_far (p := ⟨gb443, 3, none⟩) (Kd.R_far (p := ⟨gb443, 2, none⟩) (Kd.R_far (p := ⟨gb443, 1, none⟩) (Kd.R_far (p := ⟨gb443, 0, none⟩) (Kd.R_types HO_3.out BK443.out (by decide)) (fun _ hk => hk.2) (.string ((rd_T94 l0 x9_1).f0))) (fun _ hk => hk.2) (.string ((rd_T94 l0 x9_1).f1))) (fun _ hk => hk.2) (.slice A442_2 ((rd_T94 l0 x9_1).f2).length c442_2)) (fun _ hk => hk.2) (.string ((rd_T94 l0 x9_1).f3))) (fun _ hk => hk.2) (.slice A442_4 ((rd_T94 l0 x9_1).f4).length c442_4)) (fun _ hk => trivial))); (case aS => exact (below_size zb)); (case aL => have := LMc7.out; omega); intro v445 w10 ho hb hg hat; rw [← Ny444.out] at ho; replace BK443 := zz (blk_grown (g := gb443) (o := .cells #[.string ((rd_T94 l0 x9_1).f0), .string ((rd_T94 l0 x9_1).f1), .slice A442_2 ((rd_T94 l0 x9_1).f2).length c442_2, .string ((rd_T94 l0 x9_1).f3), .slice A442_4 ((rd_T94 l0 x9_1).f4).length c442_4] 94 (0, 0)) (by (with_reducible repeat (first | refine blk_drewN ?_ _ | refine blk_drew ?_ | refine blk_alloc ?_ _)); refine blk_put (cs := #[.string ((rd_T94 l0 x9_1).f0), .string ((rd_T94 l0 x9_1).f1), .slice A442_2 ((rd_T94 l0 x9_1).f2).length c442_2, .string ((rd_T94 l0 x9_1).f3), .slice none 0 0]) ?_ 4 _ rfl; (with_reducible repeat (first | refine blk_drewN ?_ _ | refine blk_drew ?_ | refine blk_alloc ?_ _)); refine blk_put (cs := #[.string ((rd_T94 l0 x9_1).f0), .string ((rd_T94 l0 x9_1).f1), .slice A442_2 ((rd_T94 l0 x9_1).f2).length c442_2, .string (⟨#[]⟩ : ByteArray), .slice none 0 0]) ?_ 3 _ rfl; (with_reducible repeat (first | refine blk_drewN ?_ _ | refine blk_drew ?_ | refine blk_alloc ?_ _)); refine blk_put (cs := #[.string ((rd_T94 l0 x9_1).f0), .string ((rd_T94 l0 x9_1).f1), .slice none 0 0, .string (⟨#[]⟩ : ByteArray), .slice none 0 0]) ?_ 2 _ rfl; (with_reducible repeat (first | refine blk_drewN ?_ _ | refine blk_drew ?_ | refine blk_alloc ?_ _)); refine blk_put (cs := #[.string ((rd_T94 l0 x9_1).f0), .string (⟨#[]⟩ : ByteArray), .slice none 0 0, .string (⟨#[]⟩ : ByteArray), .slice none 0 0]) ?_ 1 _ rfl; (with_reducible repeat (first | refine blk_drewN ?_ _ | refine blk_drew ?_ | refine blk_alloc ?_ _)); refine blk_put (cs := #[.string (⟨#[]⟩ : ByteArray), .string (⟨#[]⟩ : ByteArray), .slice none 0 0, .string (⟨#[]⟩ : ByteArray), .slice none 0 0]) ?_ 0 _ rfl; (with_reducible repeat (first | refine blk_drewN ?_ _ | refine blk_drew ?_ | refine blk_alloc ?_ _)); exact BK443.out) hg (Kd.R_ne HO_3.out BK443.out (by decide))); replace HB := zz (hb); have HO446 := zz (ho); clear HO_3; clear ho hb hg hat))
   go_roundg k1
   case measure => have := HK1.out; omega
   case rel => exact ⟨(y444), (wrap64 (x9_1 + 1)), zr, H', ⟨by have := HK1.out; omega⟩, ⟨by (with_reducible repeat (first | apply Kd.R_alloc | apply Kd.R_drewN | apply Kd.R_drew)); exact HO446.out⟩, ⟨zb⟩⟩
def impl_rising_hs.l0 : Nat → List ByteArray → Int → Option (Bool)
 | 0, _, _ => none
 | k + 1, x0, x3 => if x3 < (x0.length : Int) then (if 0 ≤ (wrap64 (x3 - 1)) then (if (wrap64 (x3 - 1)) < (x0.length : Int) then (if 0 ≤ x3 then (if ((Op.bytesLess ((rdOf ByteArray.empty x0 (wrap64 (x3 - 1))).toList) ((rdOf ByteArray.empty x0 x3).toList)) = true) then (impl_rising_hs.l0 k x0 (wrap64 (x3 + 1))) else (some false)) else (none)) else (none)) else (none)) else (some true)
def impl_rising_hs.f (k : Nat) (l0 : List ByteArray) : Option (Bool) := impl_rising_hs.l0 k l0 1
theorem impl_rising_hs.mono_l : ∀ k, (∀ y0 y1, LeO (impl_rising_hs.l0 k y0 y1) (impl_rising_hs.l0 (k + 1) y0 y1))
 | 0 => fun _ _ r h => by simp [impl_rising_hs.l0] at h
 | k + 1 => by
  have ih0 := impl_rising_hs.mono_l k
  ·intro y0 y1
   unfold impl_rising_hs.l0
   exact zM
theorem impl_rising_hs.mono : ∀ a0 k, LeO (impl_rising_hs.f k a0) (impl_rising_hs.f (k + 1) a0) := by
 intro a0 k
 have ih0 := impl_rising_hs.mono_l k
 unfold impl_rising_hs.f
 exact zM
theorem impl_rising_hs.calls (k : Nat) (A0 : Option Addr) (c0 : Nat) (l0 : List ByteArray) (r : Bool) (w : World) (hr0 : Kd.C Kd.string w A0 l0.length l0) (hc0 : l0.length ≤ c0) (h : impl_rising_hs.f k l0 = some r) :
 Calls Tryz.prog 90 #[.slice A0 l0.length c0] w fun e w' => e = .returned (.bool r) ∧ Drawn0 w w' := by
 have HR0 := zz hr0
 have HC0 := zz hc0
 clear hr0 hc0
 unfold impl_rising_hs.f at h
 have H := h
 clear h
 have H' := zz H
 clear H
 go_enter Tryz.func90, Tryz.ntmps90
 go_wp2
 repeat (go_quiet (fail); try go_wp2)
 go_loopg [3] k (fun kq v3 w' => ∃ (x3_1 : Int), v3 = .int .i64 x3_1 ∧ Aside0 (impl_rising_hs.l0 kq l0 x3_1 = some r) ∧ Aside0 (kq ≤ k) ∧ Drawn0 w w')
 case atStart => exact ⟨(1), zr, H', ⟨Nat.le_refl _⟩, by repeat (first | exact Drawn0.refl _ | apply Drawn0.step)⟩
 case round =>
  clear H'
  obtain ⟨x3_1, rfl, HA, HK1, ⟨m1, rfl⟩⟩ := hrel
  cases gk with
  | zero => exact absurd HA.out (by simp [impl_rising_hs.l0])
  | succ k1 =>
   have H := HA.out
   clear HA
   simp only [impl_rising_hs.l0] at H
   by_cases c2 : x3_1 < (l0.length : Int)
   case neg =>
    rw [if_neg c2] at H
    have c2b0 := z0 c2
    clear c2
    obtain rfl := zi H
    go_wp2
    repeat (go_quiet (fail); try go_wp2)
    go_ret
    exact ⟨zr, by repeat (first | exact Drawn0.refl _ | apply Drawn0.step)⟩
   rw [if_pos c2] at H
   have c2b0 := z1 c2
   clear c2
   obtain ⟨ji3, hji3⟩ : ∃ j_ : Int, (wrap64 (x3_1 - 1)) = j_ := ⟨_, rfl⟩
   replace H : (if 0 ≤ (ji3) then (if (ji3) < (l0.length : Int) then (if 0 ≤ x3_1 then (if ((Op.bytesLess ((rdOf ByteArray.empty l0 (ji3)).toList) ((rdOf ByteArray.empty l0 x3_1).toList)) = true) then (impl_rising_hs.l0 k1 l0 (wrap64 (x3_1 + 1))) else (some false)) else (none)) else (none)) else (none)) = some r := by first | (rw [hji3] at H; exact H) | (simp only [hji3] at H ⊢; exact H)
   have hji3w : (IntKind.i64.wrap (x3_1 - 1)) = ji3 := (i64_w _).trans hji3
   by_cases c4 : 0 ≤ (ji3)
   case neg => exact zno H c4
   rw [if_pos c4] at H
   have c4b0 := z1 c4
   clear c4
   by_cases c5 : (ji3) < (l0.length : Int)
   case neg => exact zno H c5
   rw [if_pos c5] at H
   have c5b0 := z1 c5
   clear c5
   by_cases c6 : 0 ≤ x3_1
   case neg => exact zno H c6
   rw [if_pos c6] at H
   have c6b0 := z1 c6
   clear c6
   by_cases c7 : ((Op.bytesLess ((rdOf ByteArray.empty l0 (ji3)).toList) ((rdOf ByteArray.empty l0 x3_1).toList)) = true)
   case neg =>
    rw [if_neg c7] at H
    have c7b0 : (Op.bytesLess ((rdOf ByteArray.empty l0 (ji3)).toList) ((rdOf ByteArray.empty l0 x3_1).toList)) = false := by simpa using c7
    clear c7
    obtain rfl := zi H
    have p447 : 0 ≤ ((ji3) : Int) := z2
    have q447 : (ji3) < (l0.length : Int) := z2
    obtain ⟨ad447, e447, hx447_0⟩ := Kd.at_string HR0.out (ji3) p447 q447
    cases e447
    replace p447 := eq_true p447
    replace q447 := eq_true q447
    have p448 : 0 ≤ (x3_1 : Int) := z2
    have q448 : x3_1 < (l0.length : Int) := z2
    obtain ⟨ad448, e448, hx448_0⟩ := Kd.at_string HR0.out x3_1 p448 q448
    obtain rfl : ad447 = ad448 := (by injection e448)
    replace p448 := eq_true p448
    replace q448 := eq_true q448
    go_wp2
    repeat (go_quiet (fail); try go_wp2)
    go_ret
    exact ⟨by first | rfl | (simp; done) | (simp only [← hji3] <;> (first | rfl | simp)) | (simp [*]; done), by repeat (first | exact Drawn0.refl _ | apply Drawn0.step)⟩
   rw [if_pos c7] at H
   have c7b0 : (Op.bytesLess ((rdOf ByteArray.empty l0 (ji3)).toList) ((rdOf ByteArray.empty l0 x3_1).toList)) = true := c7
   clear c7
   have H' := zz H
   clear H
   have p447 : 0 ≤ ((ji3) : Int) := z2
   have q447 : (ji3) < (l0.length : Int) := z2
   obtain ⟨ad447, e447, hx447_0⟩ := Kd.at_string HR0.out (ji3) p447 q447
   cases e447
   replace p447 := eq_true p447
   replace q447 := eq_true q447
   have p448 : 0 ≤ (x3_1 : Int) := z2
   have q448 : x3_1 < (l0.length : Int) := z2
   obtain ⟨ad448, e448, hx448_0⟩ := Kd.at_string HR0.out x3_1 p448 q448
   obtain rfl : ad447 = ad448 := (by injection e448)
   replace p448 := eq_true p448
   replace q448 := eq_true q448
   go_wp2
   repeat (go_quiet (fail); try go_wp2)
   go_roundg k1
   case measure => have := HK1.out; omega
   case rel => exact ⟨(wrap64 (x3_1 + 1)), zr, H', ⟨by have := HK1.out; omega⟩, by repeat (first | exact Drawn0.refl _ | apply Drawn0.step)⟩
def impl_sameTexts.l0 : Nat → List ByteArray → List ByteArray → Int → Int → Option (Bool)
 | 0, _, _, _, _ => none
 | k + 1, x0, x1, x12, x13 => if x13 < x12 then (if 0 ≤ x13 then (if x13 < (x0.length : Int) then (if x13 < (x1.length : Int) then (if (rdOf ByteArray.empty x0 x13).toList = (rdOf ByteArray.empty x1 x13).toList then (impl_sameTexts.l0 k x0 x1 x12 (wrap64 (x13 + 1))) else (some false)) else (none)) else (none)) else (none)) else (some true)
def impl_sameTexts.f (k : Nat) (l0 : List ByteArray) (l1 : List ByteArray) : Option (Bool) := if (l0.length : Int) = (l1.length : Int) then (impl_sameTexts.l0 k l0 l1 (l0.length : Int) 0) else (some false)
theorem impl_sameTexts.mono_l : ∀ k, (∀ y0 y1 y2 y3, LeO (impl_sameTexts.l0 k y0 y1 y2 y3) (impl_sameTexts.l0 (k + 1) y0 y1 y2 y3))
 | 0 => fun _ _ _ _ r h => by simp [impl_sameTexts.l0] at h
 | k + 1 => by
  have ih0 := impl_sameTexts.mono_l k
  ·intro y0 y1 y2 y3
   unfold impl_sameTexts.l0
   exact zM
theorem impl_sameTexts.mono : ∀ a0 a1 k, LeO (impl_sameTexts.f k a0 a1) (impl_sameTexts.f (k + 1) a0 a1) := by
 intro a0 a1 k
 have ih0 := impl_sameTexts.mono_l k
 unfold impl_sameTexts.f
 exact zM
theorem impl_sameTexts.calls (k : Nat) (A0 : Option Addr) (c0 : Nat) (l0 : List ByteArray) (A1 : Option Addr) (c1 : Nat) (l1 : List ByteArray) (r : Bool) (w : World) (hr0 : Kd.C Kd.string w A0 l0.length l0) (hc0 : l0.length ≤ c0) (hr1 : Kd.C Kd.string w A1 l1.length l1) (hc1 : l1.length ≤ c1) (h : impl_sameTexts.f k l0 l1 = some r) :
 Calls Tryz.prog 126 #[.slice A0 l0.length c0, .slice A1 l1.length c1] w fun e w' => e = .returned (.bool r) ∧ Drawn0 w w' := by
 have HR0 := zz hr0
 have HC0 := zz hc0
 clear hr0 hc0
 have HR1 := zz hr1
 have HC1 := zz hc1
 clear hr1 hc1
 unfold impl_sameTexts.f at h
 have H := h
 clear h
 by_cases c3 : (l0.length : Int) = (l1.length : Int)
 case neg =>
  rw [if_neg c3] at H
  obtain ⟨c3b0, c3b1⟩ := zw c3
  have c3b2 : (l0.length == l1.length) = false := by first | simpa using c3 | (simp at c3 ⊢; omega)
  obtain rfl := zi H
  go_enter Tryz.func126, Tryz.ntmps126
  go_wp2
  repeat (go_quiet (fail); try go_wp2)
  go_ret
  exact ⟨zr, by repeat (first | exact Drawn0.refl _ | apply Drawn0.step)⟩
 rw [if_pos c3] at H
 obtain ⟨c3b0, c3b1⟩ := zq c3
 have c3b2 : (l0.length == l1.length) = true := by first | simpa using c3 | (simp at c3 ⊢; omega)
 clear c3
 have H' := zz H
 clear H
 go_enter Tryz.func126, Tryz.ntmps126
 go_wp2
 repeat (go_quiet (fail); try go_wp2)
 go_loopg [13] k (fun kq v13 w' => ∃ (x13_1 : Int), v13 = .int .i64 x13_1 ∧ Aside0 (impl_sameTexts.l0 kq l0 l1 (l0.length : Int) x13_1 = some r) ∧ Aside0 (kq ≤ k) ∧ Drawn0 w w')
 case atStart => exact ⟨(0), zr, H', ⟨Nat.le_refl _⟩, by repeat (first | exact Drawn0.refl _ | apply Drawn0.step)⟩
 case round =>
  clear H'
  try clear c1
  try clear p2
  try clear c3
  try clear c3b0
  try clear c3b1
  try clear c3b2
  obtain ⟨x13_1, rfl, HA, HK1, ⟨m1, rfl⟩⟩ := hrel
  cases gk with
  | zero => exact absurd HA.out (by simp [impl_sameTexts.l0])
  | succ k1 =>
   have H := HA.out
   clear HA
   simp only [impl_sameTexts.l0] at H
   by_cases c4 : x13_1 < (l0.length : Int)
   case neg =>
    rw [if_neg c4] at H
    have c4b0 := z0 c4
    clear c4
    obtain rfl := zi H
    go_wp2
    repeat (go_quiet (fail); try go_wp2)
    go_ret
    exact ⟨zr, by repeat (first | exact Drawn0.refl _ | apply Drawn0.step)⟩
   rw [if_pos c4] at H
   have c4b0 := z1 c4
   clear c4
   by_cases c5 : 0 ≤ x13_1
   case neg => exact zno H c5
   rw [if_pos c5] at H
   have c5b0 := z1 c5
   clear c5
   by_cases c6 : x13_1 < (l0.length : Int)
   case neg => exact zno H c6
   rw [if_pos c6] at H
   have c6b0 := z1 c6
   clear c6
   by_cases c7 : x13_1 < (l1.length : Int)
   case neg => exact zno H c7
   rw [if_pos c7] at H
   have c7b0 := z1 c7
   clear c7
   by_cases c8 : (rdOf ByteArray.empty l0 x13_1).toList = (rdOf ByteArray.empty l1 x13_1).toList
   case neg =>
    rw [if_neg c8] at H
    obtain ⟨c8b0, c8b1⟩ := zw c8
    obtain rfl := zi H
    have p532 : 0 ≤ (x13_1 : Int) := z2
    have q532 : x13_1 < (l0.length : Int) := z2
    obtain ⟨ad532, e532, hx532_0⟩ := Kd.at_string HR0.out x13_1 p532 q532
    cases e532
    replace p532 := eq_true p532
    replace q532 := eq_true q532
    have p533 : 0 ≤ (x13_1 : Int) := z2
    have q533 : x13_1 < (l1.length : Int) := z2
    obtain ⟨ad533, e533, hx533_0⟩ := Kd.at_string HR1.out x13_1 p533 q533
    cases e533
    replace p533 := eq_true p533
    replace q533 := eq_true q533
    go_wp2
    repeat (go_quiet (fail); try go_wp2)
    go_ret
    exact ⟨zr, by repeat (first | exact Drawn0.refl _ | apply Drawn0.step)⟩
   rw [if_pos c8] at H
   obtain ⟨c8b0, c8b1⟩ := zq c8
   clear c8
   have H' := zz H
   clear H
   have p532 : 0 ≤ (x13_1 : Int) := z2
   have q532 : x13_1 < (l0.length : Int) := z2
   obtain ⟨ad532, e532, hx532_0⟩ := Kd.at_string HR0.out x13_1 p532 q532
   cases e532
   replace p532 := eq_true p532
   replace q532 := eq_true q532
   have p533 : 0 ≤ (x13_1 : Int) := z2
   have q533 : x13_1 < (l1.length : Int) := z2
   obtain ⟨ad533, e533, hx533_0⟩ := Kd.at_string HR1.out x13_1 p533 q533
   cases e533
   replace p533 := eq_true p533
   replace q533 := eq_true q533
   go_wp2
   repeat (go_quiet (fail); try go_wp2)
   go_roundg k1
   case measure => have := HK1.out; omega
   case rel => exact ⟨(wrap64 (x13_1 + 1)), zr, H', ⟨by have := HK1.out; omega⟩, by repeat (first | exact Drawn0.refl _ | apply Drawn0.step)⟩
def impl_itemOk.f (k : Nat) (a0_0 : ByteArray) (a0_1 : ByteArray) (l0_2 : List ByteArray) (a0_3 : ByteArray) (l0_4 : List (S96)) (l1 : List ByteArray) : Option (Bool) := (impl_AddressOk.f k a0_0).bind fun t545 => (if t545 = true then ((impl_TreeOk.f k l0_4).bind fun t546 => (if t546 = true then ((impl_TreeSum.f k l0_4).bind fun t547 => (if a0_1.toList = t547.toList then ((impl_RefsIn.f k l0_4 l1).bind fun t548 => ((impl_sameTexts.f k l0_2 t548).bind fun t551 => (if t551 = true then (if a0_3.toList = ([] : List UInt8) then (some true) else ((impl_AddressOk.f k a0_3).bind fun t552 => (some t552))) else (some false)))) else (some false))) else (some false))) else (some false))
theorem impl_itemOk.mono : ∀ a0 a1 a2 a3 a4 a5 k, LeO (impl_itemOk.f k a0 a1 a2 a3 a4 a5) (impl_itemOk.f (k + 1) a0 a1 a2 a3 a4 a5) := by
 intro a0 a1 a2 a3 a4 a5 k
 unfold impl_itemOk.f
 have m0 := @impl_AddressOk.mono
 have m1 := @impl_RefsIn.mono
 have m2 := @impl_TreeOk.mono
 have m3 := @impl_TreeSum.mono
 have m4 := @impl_sameTexts.mono
 exact zM
def impl_itemOk.T1 : Bool × List (List Nat × List Nat) := (true, [([], []), ([0], [0]), ([1], [1]), ([2, 2], [2]), ([3], [3]), ([4, 3], [3, 4]), ([5, 3, 3], [3, 5]), ([3, 6], [3, 6]), ([7, 6], [7]), ([8], [8]), ([9, 8], [8, 9]), ([8], [8]), ([11, 8], [8, 11]), ([12, 8, 8], [8, 12]), ([10, 13, 8], [8, 10, 13]), ([8, 14], [8, 14]), ([15, 13], [15]), ([16], [16]), ([17, 16], [16, 17]), ([16], [16]), ([19, 16], [16, 19]), ([16], [16]), ([20, 21, 16, 16], [16, 20, 21]), ([18, 22, 22, 16], [16, 18, 22]), ([16, 23], [16, 23]), ([24, 23], [24]), ([25], [25]), ([26, 25], [25, 26]), ([27, 25], [25, 27]), ([28, 25, 25], [25, 28]), ([29], [29]), ([30, 29], [29, 30]), ([31, 29, 29], [29, 31]), ([29, 32, 25], [25, 29, 32]), ([25, 33], [25, 33]), ([34, 32, 0, 1, 2, 3, 4, 5, 6, 7, 8, 9, 10, 11, 12, 13, 14, 15, 16, 17, 18, 19, 20, 21, 22, 23, 24, 25, 26, 27, 28, 29, 30, 31, 32, 33, 34], [34])])
def impl_itemOk.B1 : List Nat := [0, 1, 3, 7, 15, 31, 63, 127, 255, 511, 1023, 511, 2559, 6655, 16383, 32767, 65535, 131071, 262143, 131071, 655359, 131071, 3801087, 8388607, 16777215, 33554431, 67108863, 134217727, 268435455, 536870911, 1073741823, 2147483647, 4294967295, 8589934591, 17179869183, 34359738367]
theorem impl_itemOk.tab1 : rtab .any (opsOf Tryz.f91 1) = impl_itemOk.T1 := by kernel_rfl
theorem impl_itemOk.bits1 : waitsOk impl_itemOk.T1.2 impl_itemOk.B1 = true := by kernel_rfl
theorem impl_itemOk.calls (k : Nat) (a0_0 : ByteArray) (a0_1 : ByteArray) (A0_2 : Option Addr) (c0_2 : Nat) (l0_2 : List ByteArray) (a0_3 : ByteArray) (A0_4 : Option Addr) (c0_4 : Nat) (l0_4 : List (S96)) (A1 : Option Addr) (c1 : Nat) (l1 : List ByteArray) (r : Bool) (w : World) (hr0_2 : Kd.C Kd.string w A0_2 l0_2.length l0_2) (hc0_2 : l0_2.length ≤ c0_2) (hr0_4 : Kd.C k96 w A0_4 l0_4.length l0_4) (hc0_4 : l0_4.length ≤ c0_4) (hr1 : Kd.C Kd.string w A1 l1.length l1) (hc1 : l1.length ≤ c1) (hG_ : GOK w) (h : impl_itemOk.f k a0_0 a0_1 l0_2 a0_3 l0_4 l1 = some r) :
 Calls Tryz.prog 91 #[.agg #[.string a0_0, .string a0_1, .slice A0_2 l0_2.length c0_2, .string a0_3, .slice A0_4 l0_4.length c0_4], .slice A1 l1.length c1] w fun e w' => e = .returned (.bool r) ∧ Below w.heap.size w w' := by
 have hu94 := Tryz.underlying94
 have HG := zz hG_
 clear hG_
 have HR0_2 := zz hr0_2
 have HC0_2 := zz hc0_2
 clear hr0_2 hc0_2
 have HR0_4 := zz hr0_4
 have HC0_4 := zz hc0_4
 clear hr0_4 hc0_4
 have HR1 := zz hr1
 have HC1 := zz hc1
 clear hr1 hc1
 have HB := zz (Below.refl w.heap.size w)
 unfold impl_itemOk.f at h
 have H := h
 clear h
 replace H := zf H
 obtain ⟨t545, A30, H⟩ := H
 try dsimp only at H
 have A3 := zz A30
 clear A30
 go_enter Tryz.func91, Tryz.ntmps91
 try go_wp2_with (first | (refine zX 2 94 #[.string a0_0, .string a0_1, .slice A0_2 l0_2.length c0_2, .string a0_3, .slice A0_4 l0_4.length c0_4] ?_; intro gb544 hg w13 hbox hb; have BK544 := zz (hbox); have GW544 := zz ((zg : w.heap.size ≤ gb544)); have GE544 := zz ((zg : w.heap.size ≤ gb544)); replace HB := zz (zv zb hb); clear hb hbox hg))
 replace BK544 := zz (blk_drew BK544.out)
 replace HB := zz (below_drew1 HB.out)
 refine start_ (n := 36) (S := fun w' => w'.cell? ⟨gb544, 0, none⟩ = some (.string a0_0) ∧ w'.cell? ⟨gb544, 1, none⟩ = some (.string a0_1) ∧ w'.cell? ⟨gb544, 2, none⟩ = some (.slice A0_2 l0_2.length c0_2) ∧ w'.cell? ⟨gb544, 3, none⟩ = some (.string a0_3) ∧ w'.cell? ⟨gb544, 4, none⟩ = some (.slice A0_4 l0_4.length c0_4)) (ds := []) (bp 0 36) zk rfl rfl (zy5 BK544.out) (fun hHeld => ?_); refine with_tabW impl_itemOk.tab1 impl_itemOk.bits1 (fun HT_ HW_ => ?_)
 generalize w13.drew = w14 at BK544 HB hHeld ⊢
 refine zp 0 5 (bp 1 35) ?_
 refine zt 1 6 (bp 2 34) ?_
 refine zo 2 7 (bp 3 33) fun K hK => ?_
 refine zh Tryz.func46 #[.string a0_0] ?_
 with_reducible refine (impl_AddressOk.calls k a0_0 _ _ A3.out).mono ?_
 rintro e w' ⟨rfl, ⟨nd, rfl⟩⟩
 refine ⟨_, rfl, ?_⟩
 refine hK.out _ _ (zy5 BK544.out) (fun hHeld => ?_)
 clear hK K
 refine zn 7 ?_
 by_cases c4 : t545 = true
 case neg =>
  replace c4 := Bool.eq_false_iff.mpr c4
  subst c4
  rw [if_neg (show ¬ (false = true) by decide)] at H
  obtain rfl := zi H
  refine zp 3 8 (bp 4 32) ?_
  refine zu 4 9 (bp 5 31) ?_
  refine zu 5 10 (bp 6 30) ?_
  refine zu 6 11 (bp 7 29) ?_
  refine zp 7 12 (bp 8 28) ?_
  refine zp 8 13 (bp 9 27) ?_
  refine zu 9 14 (bp 10 26) ?_
  refine zu 10 15 (bp 11 25) ?_
  refine zu 11 16 (bp 12 24) ?_
  refine zu 12 17 (bp 13 23) ?_
  refine zu 13 18 (bp 14 22) ?_
  refine zu 14 19 (bp 15 21) ?_
  refine zp 15 20 (bp 16 20) ?_
  refine zp 16 21 (bp 17 19) ?_
  refine zu 17 22 (bp 18 18) ?_
  refine zu 18 23 (bp 19 17) ?_
  refine zu 19 24 (bp 20 16) ?_
  refine zu 20 25 (bp 21 15) ?_
  refine zu 21 26 (bp 22 14) ?_
  refine zu 22 27 (bp 23 13) ?_
  refine zu 23 28 (bp 24 12) ?_
  refine zp 24 29 (bp 25 11) ?_
  refine zp 25 30 (bp 26 10) ?_
  refine zu 26 31 (bp 27 9) ?_
  refine zu 27 32 (bp 28 8) ?_
  refine zu 28 33 (bp 29 7) ?_
  refine zu 29 34 (bp 30 6) ?_
  refine zu 30 35 (bp 31 5) ?_
  refine zu 31 36 (bp 32 4) ?_
  refine zu 32 37 (bp 33 3) ?_
  refine zu 33 38 (bp 34 2) ?_
  refine zp 34 39 (bp 35 1) ?_
  refine zp 35 4 (bp 36 0) ?_
  refine done_ (done_of HT_.out zk) ?_
  try go_wp2
  go_ret
  exact ⟨ze, zb⟩
 subst c4
 rw [if_pos rfl] at H
 replace H := zf H
 obtain ⟨t546, A50, H⟩ := H
 try dsimp only at H
 have A5 := zz A50
 clear A50
 refine zp 3 8 (bp 4 32) ?_
 refine zp 4 9 (bp 5 31) ?_
 refine zt 5 10 (bp 6 30) ?_
 refine zo 6 11 (bp 7 29) fun K hK => ?_
 refine zh Tryz.func66 #[.slice A0_4 l0_4.length c0_4] ?_
 with_reducible refine (impl_TreeOk.calls k _ _ l0_4 _ _ ?s1 ?s2 ?s3 A5.out).mono ?_
 (case s1 => exact zC HR0_4.out)
 (case s2 => exact HC0_4.out)
 (case s3 => exact zG)
 rintro e w15 ⟨rfl, hb⟩
 refine ⟨_, rfl, ?_⟩
 replace BK544 := zz (zJ BK544 hb)
 replace HB := zz (zv zb hb)
 (try clear hb)
 (try clear hb2)
 (try clear hk)
 (try clear hi)
 refine hK.out _ _ (zy5 BK544.out) (fun hHeld => ?_)
 clear hK K
 refine zn 11 ?_
 by_cases c6 : t546 = true
 case neg =>
  replace c6 := Bool.eq_false_iff.mpr c6
  subst c6
  rw [if_neg (show ¬ (false = true) by decide)] at H
  obtain rfl := zi H
  refine zp 7 12 (bp 8 28) ?_
  refine zp 8 13 (bp 9 27) ?_
  refine zu 9 14 (bp 10 26) ?_
  refine zu 10 15 (bp 11 25) ?_
  refine zu 11 16 (bp 12 24) ?_
  refine zu 12 17 (bp 13 23) ?_
  refine zu 13 18 (bp 14 22) ?_
  refine zu 14 19 (bp 15 21) ?_
  refine zp 15 20 (bp 16 20) ?_
  refine zp 16 21 (bp 17 19) ?_
  refine zu 17 22 (bp 18 18) ?_
  refine zu 18 23 (bp 19 17) ?_
  refine zu 19 24 (bp 20 16) ?_
  refine zu 20 25 (bp 21 15) ?_
  refine zu 21 26 (bp 22 14) ?_
  refine zu 22 27 (bp 23 13) ?_
  refine zu 23 28 (bp 24 12) ?_
  refine zp 24 29 (bp 25 11) ?_
  refine zp 25 30 (bp 26 10) ?_
  refine zu 26 31 (bp 27 9) ?_
  refine zu 27 32 (bp 28 8) ?_
  refine zu 28 33 (bp 29 7) ?_
  refine zu 29 34 (bp 30 6) ?_
  refine zu 30 35 (bp 31 5) ?_
  refine zu 31 36 (bp 32 4) ?_
  refine zu 32 37 (bp 33 3) ?_
  refine zu 33 38 (bp 34 2) ?_
  refine zp 34 39 (bp 35 1) ?_
  refine zp 35 4 (bp 36 0) ?_
  refine done_ (done_of HT_.out zk) ?_
  try go_wp2
  go_ret
  exact ⟨ze, zb⟩
 subst c6
 rw [if_pos rfl] at H
 replace H := zf H
 obtain ⟨t547, A70, H⟩ := H
 try dsimp only at H
 have A7 := zz A70
 clear A70
 refine zp 7 12 (bp 8 28) ?_
 refine zp 8 13 (bp 9 27) ?_
 refine zp 9 14 (bp 10 26) ?_
 refine zp 11 16 (bm 36 3071) ?_
 refine zt 10 15 (bp 12 24) ?_
 refine zt 12 17 (bp 13 23) ?_
 refine zo 13 18 (bp 14 22) fun K hK => ?_
 refine zh Tryz.func125 #[.slice A0_4 l0_4.length c0_4] ?_
 with_reducible refine (impl_TreeSum.calls k _ _ l0_4 t547 _ ?s1 ?s2 ?s3 A7.out).mono ?_
 (case s1 => exact zc HR0_4.out)
 (case s2 => exact HC0_4.out)
 (case s3 => exact zG)
 rintro e w16 ⟨rfl, hb⟩
 refine ⟨_, rfl, ?_⟩
 replace BK544 := zz (zJ BK544 hb)
 replace HB := zz (zv zb hb)
 (try clear hb)
 (try clear hb2)
 (try clear hk)
 (try clear hi)
 refine hK.out _ _ (zy5 BK544.out) (fun hHeld => ?_)
 clear hK K
 refine zn 18 ?_
 by_cases c8 : a0_1.toList = t547.toList
 case neg =>
  rw [if_neg c8] at H
  obtain ⟨c8b0, c8b1⟩ := zw c8
  obtain rfl := zi H
  refine zp 14 19 (bp 15 21) ?_
  refine zp 15 20 (bp 16 20) ?_
  refine zp 16 21 (bp 17 19) ?_
  refine zu 17 22 (bp 18 18) ?_
  refine zu 18 23 (bp 19 17) ?_
  refine zu 19 24 (bp 20 16) ?_
  refine zu 20 25 (bp 21 15) ?_
  refine zu 21 26 (bp 22 14) ?_
  refine zu 22 27 (bp 23 13) ?_
  refine zu 23 28 (bp 24 12) ?_
  refine zp 24 29 (bp 25 11) ?_
  refine zp 25 30 (bp 26 10) ?_
  refine zu 26 31 (bp 27 9) ?_
  refine zu 27 32 (bp 28 8) ?_
  refine zu 28 33 (bp 29 7) ?_
  refine zu 29 34 (bp 30 6) ?_
  refine zu 30 35 (bp 31 5) ?_
  refine zu 31 36 (bp 32 4) ?_
  refine zu 32 37 (bp 33 3) ?_
  refine zu 33 38 (bp 34 2) ?_
  refine zp 34 39 (bp 35 1) ?_
  refine zp 35 4 (bp 36 0) ?_
  refine done_ (done_of HT_.out zk) ?_
  try go_wp2
  go_ret
  exact ⟨ze, zb⟩
 rw [if_pos c8] at H
 obtain ⟨c8b0, c8b1⟩ := zq c8
 clear c8
 replace H := zf H
 obtain ⟨t548, A90, H⟩ := H
 try dsimp only at H
 have A9 := zz A90
 clear A90
 replace H := zf H
 obtain ⟨t551, A100, H⟩ := H
 try dsimp only at H
 have A10 := zz A100
 clear A100
 refine zp 14 19 (bp 15 21) ?_
 refine zp 15 20 (bp 16 20) ?_
 refine zp 16 21 (bp 17 19) ?_
 refine zp 17 22 (bp 18 18) ?_
 refine zp 19 24 (bm 36 786431) ?_
 refine zp 21 26 (bm 36 2883583) ?_
 refine zt 18 23 (bm 36 3145727) ?_
 refine zt 20 25 (bp 22 14) ?_
 refine zo 22 27 (bp 23 13) fun K hK => ?_
 refine zh Tryz.func127 #[.slice A0_4 l0_4.length c0_4, .slice A1 l1.length c1] ?_
 with_reducible refine (impl_RefsIn.calls k _ _ l0_4 _ _ l1 t548 _ ?s1 ?s2 ?s3 ?s4 ?s5 A9.out).mono ?_
 (case s1 => exact zc HR0_4.out)
 (case s2 => exact HC0_4.out)
 (case s3 => exact zc HR1.out)
 (case s4 => exact HC1.out)
 (case s5 => exact zG)
 rintro e w17 ⟨v549, rfl, ho0, hb⟩
 refine ⟨_, rfl, ?_⟩
 have HO550 := zz (Kd.R_lower ho0 (below_size zb))
 replace BK544 := zz (zJ BK544 hb)
 replace HB := zz (zv zb hb)
 (try clear hb)
 (try clear hb2)
 (try clear hk)
 (try clear hi)
 (try clear ho0)
 obtain ⟨Ao18, co18, eo18⟩ := Kd.R_slice HO550.out
 (first | subst eo18 | (injection eo18 with f1_ f2_ f3_; have f4_ := f1_.symm; have f5_ := f3_.symm; clear f1_ f2_ f3_; subst f4_; subst f5_))
 refine hK.out _ _ (zy5 BK544.out) (fun hHeld => ?_)
 clear hK K
 refine zn 27 ?_
 refine zo 23 28 (bp 24 12) fun K hK => ?_
 refine zh Tryz.func126 #[.slice A0_2 l0_2.length c0_2, .slice Ao18 t548.length co18] ?_
 with_reducible refine (impl_sameTexts.calls k _ _ l0_2 _ _ t548 _ _ ?s1 ?s2 ?s3 ?s4 A10.out).mono ?_
 (case s1 => exact zc HR0_2.out)
 (case s2 => exact HC0_2.out)
 (case s3 => repeat (first | exact (Kd.R_reads' HO550.out).2.2 | (with_reducible refine Kd.C_alloc ?_ _) | (with_reducible refine Kd.C_drewN ?_ _) | (with_reducible refine Kd.C_drew ?_)))
 (case s4 => exact (Kd.R_reads' HO550.out).2.1)
 rintro e w' ⟨rfl, ⟨nd, rfl⟩⟩
 refine ⟨_, rfl, ?_⟩
 refine hK.out _ _ (zy5 BK544.out) (fun hHeld => ?_)
 clear hK K
 refine zn 28 ?_
 by_cases c11 : t551 = true
 case neg =>
  replace c11 := Bool.eq_false_iff.mpr c11
  subst c11
  rw [if_neg (show ¬ (false = true) by decide)] at H
  obtain rfl := zi H
  refine zp 24 29 (bp 25 11) ?_
  refine zp 25 30 (bp 26 10) ?_
  refine zu 26 31 (bp 27 9) ?_
  refine zu 27 32 (bp 28 8) ?_
  refine zu 28 33 (bp 29 7) ?_
  refine zu 29 34 (bp 30 6) ?_
  refine zu 30 35 (bp 31 5) ?_
  refine zu 31 36 (bp 32 4) ?_
  refine zu 32 37 (bp 33 3) ?_
  refine zu 33 38 (bp 34 2) ?_
  refine zp 34 39 (bp 35 1) ?_
  refine zp 35 4 (bp 36 0) ?_
  refine done_ (done_of HT_.out zk) ?_
  try go_wp2
  go_ret
  exact ⟨ze, zb⟩
 subst c11
 rw [if_pos rfl] at H
 by_cases c12 : a0_3.toList = ([] : List UInt8)
 ·rw [if_pos c12] at H
  obtain ⟨c12b0, c12b1⟩ := zq c12
  clear c12
  obtain rfl := zi H
  refine zp 24 29 (bp 25 11) ?_
  refine zp 25 30 (bp 26 10) ?_
  refine zp 26 31 (bp 27 9) ?_
  refine zt 27 32 (bp 28 8) ?_
  refine zp 28 33 (bp 29 7) ?_
  refine zp 29 34 (bp 30 6) ?_
  refine zu 30 35 (bp 31 5) ?_
  refine zu 31 36 (bp 32 4) ?_
  refine zu 32 37 (bp 33 3) ?_
  refine zp 33 38 (bp 34 2) ?_
  refine zp 34 39 (bp 35 1) ?_
  refine zp 35 4 (bp 36 0) ?_
  refine done_ (done_of HT_.out zk) ?_
  try go_wp2
  go_ret
  exact ⟨ze, zb⟩
 rw [if_neg c12] at H
 obtain ⟨c12b0, c12b1⟩ := zw c12
 replace H := zf H
 obtain ⟨t552, A190, H⟩ := H
 try dsimp only at H
 have A19 := zz A190
 clear A190
 obtain rfl := zi H
 refine zp 24 29 (bp 25 11) ?_
 refine zp 25 30 (bp 26 10) ?_
 refine zp 26 31 (bp 27 9) ?_
 refine zt 27 32 (bp 28 8) ?_
 refine zp 28 33 (bp 29 7) ?_
 refine zp 29 34 (bp 30 6) ?_
 refine zp 30 35 (bp 31 5) ?_
 refine zt 31 36 (bp 32 4) ?_
 refine zo 32 37 (bp 33 3) fun K hK => ?_
 refine zh Tryz.func46 #[.string a0_3] ?_
 with_reducible refine (impl_AddressOk.calls k a0_3 t552 _ A19.out).mono ?_
 rintro e w' ⟨rfl, ⟨nd, rfl⟩⟩
 refine ⟨_, rfl, ?_⟩
 refine hK.out _ _ (zy5 BK544.out) (fun hHeld => ?_)
 clear hK K
 refine zn 37 ?_
 refine zp 33 38 (bp 34 2) ?_
 refine zp 34 39 (bp 35 1) ?_
 refine zp 35 4 (bp 36 0) ?_
 refine done_ (done_of HT_.out zk) ?_
 try go_wp2
 go_ret
 exact ⟨ze, zb⟩
end Go.Proofs.YtcekmnclmldmmaaGreatDoor.Q
