import Derived.Test.YtcekmnclmldmmaaGreatDoorB25
import Derived.Test.YtcekmnclmldmmaaGreatDoorB19
import Derived.Test.YtcekmnclmldmmaaGreatDoorB23
set_option linter.unusedVariables false
set_option linter.unusedSimpArgs false
namespace Go.Proofs.YtcekmnclmldmmaaGreatDoor.Q
open Go.RowKit W1 W2 W3
attribute [local go_sem] max2_int min2_int max_two min_two max_three min_three max_four min_four
attribute [local go_sem high] bl_leq bl_gtr bl_geq
set_option maxHeartbeats 8000000
set_option maxRecDepth 100000
def impl_StoreOk.l0 : Nat → List ByteArray → List (S94) → Int → Int → Option (Bool)
 | 0, _, _, _, _ => none
 | k + 1, x3, x14, x15, x16 => if x16 < x15 then (if 0 ≤ x16 then (if x16 < (x14.length : Int) then ((impl_itemOk.f k ((rd_T94 x14 x16).f0) ((rd_T94 x14 x16).f1) ((rd_T94 x14 x16).f2) ((rd_T94 x14 x16).f3) ((rd_T94 x14 x16).f4) x3).bind fun t559 => (if t559 = true then (impl_StoreOk.l0 k x3 x14 x15 (wrap64 (x16 + 1))) else (some false))) else (none)) else (none)) else (some true)
def impl_StoreOk.f (k : Nat) (l0 : List (S94)) : Option (Bool) := if (l0.length : Int) > 300 then (some false) else ((impl_storePaths.f k l0).bind fun t553 => ((impl_rising_hs.f k t553).bind fun t556 => (if t556 = true then (impl_StoreOk.l0 k t553 l0 (l0.length : Int) 0) else (some false))))
theorem impl_StoreOk.mono_l : ∀ k, (∀ y0 y1 y2 y3, LeO (impl_StoreOk.l0 k y0 y1 y2 y3) (impl_StoreOk.l0 (k + 1) y0 y1 y2 y3))
 | 0 => fun _ _ _ _ r h => by simp [impl_StoreOk.l0] at h
 | k + 1 => by
  have ih0 := impl_StoreOk.mono_l k
  ·intro y0 y1 y2 y3
   unfold impl_StoreOk.l0
   have m0 := @impl_itemOk.mono
   have m1 := @impl_rising_hs.mono
   have m2 := @impl_storePaths.mono
   exact zM
theorem impl_StoreOk.mono : ∀ a0 k, LeO (impl_StoreOk.f k a0) (impl_StoreOk.f (k + 1) a0) := by
 intro a0 k
 have ih0 := impl_StoreOk.mono_l k
 unfold impl_StoreOk.f
 have m0 := @impl_itemOk.mono
 have m1 := @impl_rising_hs.mono
 have m2 := @impl_storePaths.mono
 exact zM
theorem impl_StoreOk.calls (k : Nat) (A0 : Option Addr) (c0 : Nat) (l0 : List (S94)) (r : Bool) (w : World) (hr0 : Kd.C k94 w A0 l0.length l0) (hc0 : l0.length ≤ c0) (hG_ : GOK w) (h : impl_StoreOk.f k l0 = some r) :
 Calls Tryz.prog 42 #[.slice A0 l0.length c0] w fun e w' => e = .returned (.bool r) ∧ Below w.heap.size w w' := by
 have hu94 := Tryz.underlying94
 have HG := zz hG_
 clear hG_
 have HR0 := zz hr0
 have HC0 := zz hc0
 clear hr0 hc0
 have HB := zz (Below.refl w.heap.size w)
 unfold impl_StoreOk.f at h
 have H := h
 clear h
 replace HB := HB.out
 have HW := zz (Below.refl w.heap.size w)
 go_enter Tryz.func42, Tryz.ntmps42
 by_cases c2 : (l0.length : Int) > 300
 ·rw [if_pos c2] at H
  have c2b0 := zgt c2
  have c2b1 : decide (300 < l0.length) = true := z1 (by omega)
  clear c2
  obtain rfl := zi H
  go_wp2_with (fail)
  go_ret
  exact ⟨ze, zv HW.out HB⟩
 rw [if_neg c2] at H
 have c2b0 := zgtn c2
 have c2b1 : decide (300 < l0.length) = false := z0 (by omega)
 clear c2
 replace H := zf H
 obtain ⟨t553, A3, H⟩ := H
 try dsimp only at H
 replace A3 := zz A3
 go_wp2_with (fail)
 refine (impl_storePaths.calls k _ _ _ _ _ (Kd.C_below HR0.out HB) HC0.out A3.out).mono ?_
 rintro e w4 ⟨vHO555, rfl, hHO555, hb⟩
 replace HB := zv HB hb
 clear hb
 have hst := HB
 replace HW := zz (zv HW.out hst)
 replace HR0 := zz (Kd.C_below HR0.out hst)
 clear hst
 replace HB := Below.refl w4.heap.size w4
 obtain ⟨AHRo5, cHRo5, rfl, hl_, hC_⟩ := Kd.R_reads hHO555
 have HRo5 := zz hC_
 have HCo5 := zz hl_
 clear hl_ hC_ hHO555
 replace H := zf H
 obtain ⟨t556, A6, H⟩ := H
 try dsimp only at H
 replace A6 := zz A6
 by_cases c7 : t556 = true
 case neg =>
  replace c7 := Bool.eq_false_iff.mpr c7
  subst c7
  rw [if_neg (by decide)] at H
  go_wp2_with (fail)
  refine (impl_rising_hs.calls k _ _ _ _ _ (Kd.C_below HRo5.out HB) HCo5.out A6.out).mono ?_
  rintro e w23 ⟨rfl, hd⟩
  replace HB := zv HB hd.below
  clear hd
  obtain rfl := zi H
  go_wp2_with (fail)
  go_ret
  exact ⟨ze, zv HW.out HB⟩
 subst c7
 rw [if_pos rfl] at H
 go_wp2_with (fail)
 refine (impl_rising_hs.calls k _ _ _ _ _ (Kd.C_below HRo5.out HB) HCo5.out A6.out).mono ?_
 rintro e w8 ⟨rfl, hd⟩
 replace HB := zv HB hd.below
 clear hd
 go_wp2_with (fail)
 go_loopg [16] k (fun kq v16 w' => ∃ (x16_kl9 : Int), v16 = .int .i64 x16_kl9 ∧ Aside0 (impl_StoreOk.l0 kq t553 l0 (l0.length : Int) x16_kl9 = some r) ∧ Aside0 (kq ≤ k) ∧ Aside0 (Below w4.heap.size w4 w'))
 case atStart => exact ⟨(0), zr, ⟨H⟩, ⟨Nat.le_refl _⟩, ⟨HB⟩⟩
 case round =>
  clear H HB
  obtain ⟨x16_kl9, rfl, H, HKkl9, HB⟩ := hrel
  replace HB := HB.out
  replace H := H.out
  have HLkl9 := zz (Below.refl w4.heap.size w4)
  cases gk with
  | zero => exact absurd H (by simp [impl_StoreOk.l0])
  | succ kl9 =>
   simp only [impl_StoreOk.l0] at H
   by_cases c10 : x16_kl9 < (l0.length : Int)
   case neg =>
    rw [if_neg c10] at H
    have c10b0 := z0 c10
    clear c10
    obtain rfl := zi H
    go_wp2_with (fail)
    go_ret
    exact ⟨ze, zv HW.out HB⟩
   rw [if_pos c10] at H
   have c10b0 := z1 c10
   clear c10
   by_cases c11 : 0 ≤ x16_kl9
   case neg => exact zno H c11
   rw [if_pos c11] at H
   have c11b0 := z1 c11
   clear c11
   by_cases c12 : x16_kl9 < (l0.length : Int)
   case neg => exact zno H c12
   rw [if_pos c12] at H
   have c12b0 := z1 c12
   clear c12
   have p557 : 0 ≤ (x16_kl9 : Int) := z2
   have q557 : (x16_kl9 : Int) < (l0.length : Int) := z2
   obtain ⟨ad557, A557_2, c557_2, A557_4, c557_4, e557, hx557_0, hx557_1, hx557_2, hx557_3, hx557_4, hl557_2, hC557_2, hl557_4, hC557_4⟩ := at_T94 HR0.out x16_kl9 p557 q557
   cases e557
   replace hx557_0 := cellB hx557_0
   replace hx557_1 := cellB hx557_1
   replace hx557_2 := cellB hx557_2
   replace hx557_3 := cellB hx557_3
   replace hx557_4 := cellB hx557_4
   have HR557_2 := zz hC557_2
   have HC557_2 := zz hl557_2
   clear hC557_2 hl557_2
   have HR557_4 := zz hC557_4
   have HC557_4 := zz hl557_4
   clear hC557_4 hl557_4
   replace p557 := eq_true p557
   replace q557 := eq_true q557
   replace H := zf H
   obtain ⟨t559, A13, H⟩ := H
   try dsimp only at H
   replace A13 := zz A13
   go_wp2_with (first | (refine zN 5 ?_; (try (refine z4 ?_; dsimp only)); refine zX 5 94 #[.string (⟨#[]⟩ : ByteArray), .string (⟨#[]⟩ : ByteArray), .slice none 0 0, .string (⟨#[]⟩ : ByteArray), .slice none 0 0] ?_; intro gb558 hg w16 hbox hb; have hge : w4.heap.size ≤ gb558 := (by rw [hg]; exact below_size HB); clear hg; have hst : Below w4.heap.size w4 (((((w16.setCell ⟨gb558, 0, none⟩ (.string ((rd_T94 l0 x16_kl9).f0))).setCell ⟨gb558, 1, none⟩ (.string ((rd_T94 l0 x16_kl9).f1))).setCell ⟨gb558, 2, none⟩ (.slice A557_2 ((rd_T94 l0 x16_kl9).f2).length c557_2)).setCell ⟨gb558, 3, none⟩ (.string ((rd_T94 l0 x16_kl9).f3))).setCell ⟨gb558, 4, none⟩ (.slice A557_4 ((rd_T94 l0 x16_kl9).f4).length c557_4)) := (below_set (below_set (below_set (below_set (below_set (zv HB hb) hge) hge) hge) hge) hge); have hbx : (((((w16.setCell ⟨gb558, 0, none⟩ (.string ((rd_T94 l0 x16_kl9).f0))).setCell ⟨gb558, 1, none⟩ (.string ((rd_T94 l0 x16_kl9).f1))).setCell ⟨gb558, 2, none⟩ (.slice A557_2 ((rd_T94 l0 x16_kl9).f2).length c557_2)).setCell ⟨gb558, 3, none⟩ (.string ((rd_T94 l0 x16_kl9).f3))).setCell ⟨gb558, 4, none⟩ (.slice A557_4 ((rd_T94 l0 x16_kl9).f4).length c557_4)).heap[gb558]? = some (.cells #[.string ((rd_T94 l0 x16_kl9).f0), .string ((rd_T94 l0 x16_kl9).f1), .slice A557_2 ((rd_T94 l0 x16_kl9).f2).length c557_2, .string ((rd_T94 l0 x16_kl9).f3), .slice A557_4 ((rd_T94 l0 x16_kl9).f4).length c557_4] 94 (0, 0)) := (blk_put (cs := #[.string ((rd_T94 l0 x16_kl9).f0), .string ((rd_T94 l0 x16_kl9).f1), .slice A557_2 ((rd_T94 l0 x16_kl9).f2).length c557_2, .string ((rd_T94 l0 x16_kl9).f3), .slice none 0 0]) (blk_put (cs := #[.string ((rd_T94 l0 x16_kl9).f0), .string ((rd_T94 l0 x16_kl9).f1), .slice A557_2 ((rd_T94 l0 x16_kl9).f2).length c557_2, .string (⟨#[]⟩ : ByteArray), .slice none 0 0]) (blk_put (cs := #[.string ((rd_T94 l0 x16_kl9).f0), .string ((rd_T94 l0 x16_kl9).f1), .slice none 0 0, .string (⟨#[]⟩ : ByteArray), .slice none 0 0]) (blk_put (cs := #[.string ((rd_T94 l0 x16_kl9).f0), .string (⟨#[]⟩ : ByteArray), .slice none 0 0, .string (⟨#[]⟩ : ByteArray), .slice none 0 0]) (blk_put (cs := #[.string (⟨#[]⟩ : ByteArray), .string (⟨#[]⟩ : ByteArray), .slice none 0 0, .string (⟨#[]⟩ : ByteArray), .slice none 0 0]) hbox 0 _ rfl) 1 _ rfl) 2 _ rfl) 3 _ rfl) 4 _ rfl); obtain ⟨hs558_0, hs558_1, hs558_2, hs558_3, hs558_4, hf558_0, hf558_1, hf558_2, hf558_3, hf558_4⟩ := zc5 hbox) | ((with_reducible refine gate_store (t := 94) (p := 5) rfl ?_); (try (refine z4 ?_; dsimp only)); refine store_event (t := 94) (p := 5) (v := ?vo_w17) (w1 := (((((w16.setCell ⟨gb558, 0, none⟩ (.string ((rd_T94 l0 x16_kl9).f0))).setCell ⟨gb558, 1, none⟩ (.string ((rd_T94 l0 x16_kl9).f1))).setCell ⟨gb558, 2, none⟩ (.slice A557_2 ((rd_T94 l0 x16_kl9).f2).length c557_2)).setCell ⟨gb558, 3, none⟩ (.string ((rd_T94 l0 x16_kl9).f3))).setCell ⟨gb558, 4, none⟩ (.slice A557_4 ((rd_T94 l0 x16_kl9).f4).length c557_4))) ?hg ?ho ?hn ?hr ?_; (case ho => rfl); (case hg => rfl); (case hn => rfl); (case hr => first | (go_simp; done) | (go_simp; rfl)); intro w17 hw; replace hst := hst; rw [← hw] at hst hbx; clear hw hb hbox hge HB hs558_0 hf558_0 hs558_1 hf558_1 hs558_2 hf558_2 hs558_3 hf558_3 hs558_4 hf558_4; replace HW := zz (zv HW.out hst); replace HLkl9 := zz (zv HLkl9.out hst); replace HR0 := zz (Kd.C_below HR0.out hst); replace HRo5 := zz (Kd.C_below HRo5.out hst); replace HR557_2 := zz (Kd.C_below HR557_2.out hst); replace HR557_4 := zz (Kd.C_below HR557_4.out hst); replace hx557_0 := rebase hx557_0 hst; replace hx557_1 := rebase hx557_1 hst; replace hx557_2 := rebase hx557_2 hst; replace hx557_3 := rebase hx557_3 hst; replace hx557_4 := rebase hx557_4 hst; obtain ⟨hbx558_0, hbx558_1, hbx558_2, hbx558_3, hbx558_4⟩ := zx5 hbx; have HB := Below.refl w17.heap.size w17; clear hbx hst))
   refine (impl_itemOk.calls kl9 _ _ _ _ _ _ _ _ _ _ _ _ _ _ (Kd.C_below HR557_2.out HB) HC557_2.out (Kd.C_below HR557_4.out HB) HC557_4.out (Kd.C_below HRo5.out HB) HCo5.out (GOK.below HG.out (zv HW.out HB)) A13.out).mono ?_
   rintro e w18 ⟨rfl, hb⟩
   replace HB := zv HB hb
   clear hb
   by_cases c14 : t559 = true
   ·subst c14
    rw [if_pos rfl] at H
    go_wp2_with (fail)
    go_roundg kl9
    case measure => have := HKkl9.out; omega
    case rel => exact ⟨(wrap64 (x16_kl9 + 1)), zr, ⟨H⟩, ⟨by have := HKkl9.out; omega⟩, ⟨zv HLkl9.out HB⟩⟩
   replace c14 := Bool.eq_false_iff.mpr c14
   subst c14
   rw [if_neg (by decide)] at H
   obtain rfl := zi H
   go_wp2_with (fail)
   go_ret
   exact ⟨ze, zv HW.out HB⟩
def spec_l12Paths.l0 : Nat → List (S94) → List ByteArray → Int → Option (List ByteArray)
 | 0, _, _, _ => none
 | k + 1, x0, x3, x4 => if x4 < (x0.length : Int) then (if 0 ≤ x4 then (if x3.length < 8796093022208 then (spec_l12Paths.l0 k x0 (x3 ++ [(rd_T94 x0 x4).f0]) (wrap64 (x4 + 1))) else (none)) else (none)) else (some x3)
def spec_l12Paths.f (k : Nat) (l0 : List (S94)) : Option (List ByteArray) := spec_l12Paths.l0 k l0 (([] : List ByteArray)) 0
theorem spec_l12Paths.mono_l : ∀ k, (∀ y0 y1 y2, LeO (spec_l12Paths.l0 k y0 y1 y2) (spec_l12Paths.l0 (k + 1) y0 y1 y2))
 | 0 => fun _ _ _ r h => by simp [spec_l12Paths.l0] at h
 | k + 1 => by
  have ih0 := spec_l12Paths.mono_l k
  ·intro y0 y1 y2
   unfold spec_l12Paths.l0
   exact zM
theorem spec_l12Paths.mono : ∀ a0 k, LeO (spec_l12Paths.f k a0) (spec_l12Paths.f (k + 1) a0) := by
 intro a0 k
 have ih0 := spec_l12Paths.mono_l k
 unfold spec_l12Paths.f
 exact zM
theorem spec_l12Paths.calls (k : Nat) (A0 : Option Addr) (c0 : Nat) (l0 : List (S94)) (r : List ByteArray) (w : World) (hr0 : Kd.C k94 w A0 l0.length l0) (hc0 : l0.length ≤ c0) (h : spec_l12Paths.f k l0 = some r) :
 Calls Tryz.prog 78 #[.slice A0 l0.length c0] w fun e w' => ∃ v0_ : Value, e = .returned (v0_) ∧ Kd.R Kd.string 9 w' w.heap.size (fun _ => True) v0_ r ∧ Below w.heap.size w w' := by
 have HR0 := zz hr0
 have HC0 := zz hc0
 clear hr0 hc0
 have HB := zz (Below.refl w.heap.size w)
 unfold spec_l12Paths.f at h
 have H := h
 clear h
 obtain ⟨y129, hy129⟩ : ∃ y_ : List ByteArray, y_ = (([] : List ByteArray)) := ⟨_, rfl⟩
 replace H : (spec_l12Paths.l0 k l0 y129 0) = some r := by first | (rw [hy129]; with_reducible exact H) | (have H2_ := (Option.bind_some _ _).symm.trans H; rw [hy129]; with_reducible exact H2_) | (have H2_ := (Option.bind_some _ _).symm.trans H; with_reducible exact H2_) | with_reducible exact H | (rw [hy129]; exact H) | exact H
 have Ny129 := zz hy129
 clear hy129
 have H' := zz H
 clear H
 go_enter Tryz.func78, Tryz.ntmps78
 go_wp2_with (first | (refine zN 5 ?_; refine Kd.R_lit Kd.string _ 9 ?hg (N := 5) ?hd (xs := ([] : List ByteArray)) (inner := []) (ok := fun _ => True) (okp := fun _ => True) ?hr ?hp (fun _ hk => hk) trivial (Below.refl _ _) (Nat.le_refl _) (by simp) ?_; (case hd => rfl); (case hg => rfl); (case hr => first | (go_simp; done) | (go_simp; rfl)); (case hp => exact (Reps.none _ _)); intro v130 w2 ho3 hb hg_ hnew_; clear hg_ hnew_; (first | rw [← Ny129.out] at ho3 | (simp only [Int.reduceToNat] at ho3; rw [← Ny129.out] at ho3)); have HO131 := zz (Kd.R_lower ho3 (below_size zb)); replace HB := zz (zv zb hb); clear hb ho3))
 go_loopg [3, 4] k (fun kq v3 v4 w' => ∃ (x3_1 : List ByteArray) (x4_1 : Int), v4 = .int .i64 x4_1 ∧ Aside0 (spec_l12Paths.l0 kq l0 x3_1 x4_1 = some r) ∧ Aside0 (kq ≤ k) ∧ Aside0 (Kd.R Kd.string 9 w' w.heap.size (fun _ => True) v3 x3_1) ∧ Aside0 (Below w.heap.size w w'))
 case atStart => exact ⟨(y129), (0), zr, H', ⟨Nat.le_refl _⟩, ⟨by (with_reducible repeat (first | apply Kd.R_alloc | apply Kd.R_drewN | apply Kd.R_drew)); exact HO131.out⟩, ⟨zb⟩⟩
 case round =>
  clear H'
  try clear p2
  obtain ⟨x3_1, x4_1, rfl, HA, HK1, HO_3, HB⟩ := hrel
  cases gk with
  | zero => exact absurd HA.out (by simp [spec_l12Paths.l0])
  | succ k1 =>
   have H := HA.out
   clear HA
   simp only [spec_l12Paths.l0] at H
   by_cases c4 : x4_1 < (l0.length : Int)
   case neg =>
    rw [if_neg c4] at H
    have c4b0 := z0 c4
    clear c4
    obtain rfl := zi H
    go_wp2
    go_ret
    exact ⟨_, ze, by (with_reducible repeat (first | apply Kd.R_alloc | apply Kd.R_drewN | apply Kd.R_drew)); exact HO_3.out, zb⟩
   rw [if_pos c4] at H
   have c4b0 := z1 c4
   clear c4
   by_cases c5 : 0 ≤ x4_1
   case neg => exact zno H c5
   rw [if_pos c5] at H
   have c5b0 := z1 c5
   clear c5
   by_cases c6 : x3_1.length < 8796093022208
   case neg => exact zno H c6
   rw [if_pos c6] at H
   have LMc6 := zz c6
   clear c6
   obtain ⟨y133, hy133⟩ : ∃ y_ : List ByteArray, y_ = (x3_1 ++ [(rd_T94 l0 x4_1).f0]) := ⟨_, rfl⟩
   replace H : (spec_l12Paths.l0 k1 l0 y133 (wrap64 (x4_1 + 1))) = some r := by first | (rw [hy133]; with_reducible exact H) | (have H2_ := (Option.bind_some _ _).symm.trans H; rw [hy133]; with_reducible exact H2_) | (have H2_ := (Option.bind_some _ _).symm.trans H; with_reducible exact H2_) | with_reducible exact H | (rw [hy133]; exact H) | exact H
   have Ny133 := zz hy133
   clear hy133
   have H' := zz H
   clear H
   have p132 : 0 ≤ (x4_1 : Int) := z2
   have q132 : x4_1 < (l0.length : Int) := z2
   obtain ⟨ad132, A132_2, c132_2, A132_4, c132_4, e132, hx132_0, hx132_1, hx132_2, hx132_3, hx132_4, hl132_2, hi132_2, hl132_4, hi132_4⟩ := at_T94 HR0.out x4_1 p132 q132
   cases e132
   replace hx132_0 := z3 HB.out hx132_0
   replace hx132_1 := z3 HB.out hx132_1
   replace hx132_2 := z3 HB.out hx132_2
   replace hx132_3 := z3 HB.out hx132_3
   replace hx132_4 := z3 HB.out hx132_4
   have HR132_2 := zz hi132_2
   have HC132_2 := zz hl132_2
   clear hi132_2 hl132_2
   have HR132_4 := zz hi132_4
   have HC132_4 := zz hl132_4
   clear hi132_4 hl132_4
   replace p132 := eq_true p132
   replace q132 := eq_true q132
   go_wp2_with (first | ((with_reducible refine gate_builtin (b := .append) (xs := #[.tmp 12, .tmp 18]) rfl ?_); at_builtin; refine Kd.R_append Kd.string (w0 := w) w.heap.size rfl (.tmp 12) (.tmp 18) 39 9 (.string ⟨#[]⟩) 16 rfl Tryz.underlying39 info9 rfl (by decide) (by omega) u3 x3_1 ((rd_T94 l0 x4_1).f0) [.string ((rd_T94 l0 x4_1).f0)] (fun _ => True) (fun _ => False) rfl rfl ?aP (fun _ hk => hk.elim) ?aF ?aO ?aB ?aS ?aL ?_; (case aP => exact rfl); (case aB => exact zb); (case aF => exact (fun _ _ => trivial)); (case aO => exact (zR HO_3.out)); (case aS => exact (below_size zb)); (case aL => have := LMc6.out; omega); intro v134 w7 ho hb hg hat; rw [← Ny133.out] at ho; replace HB := zz (hb); have HO135 := zz (ho); clear HO_3; clear ho hb hg hat))
   go_roundg k1
   case measure => have := HK1.out; omega
   case rel => exact ⟨(y133), (wrap64 (x4_1 + 1)), zr, H', ⟨by have := HK1.out; omega⟩, ⟨by (with_reducible repeat (first | apply Kd.R_alloc | apply Kd.R_drewN | apply Kd.R_drew)); exact HO135.out⟩, ⟨zb⟩⟩
def spec_l12SameTexts.l0 : Nat → List ByteArray → List ByteArray → Int → Option (Bool)
 | 0, _, _, _ => none
 | k + 1, x0, x1, x5 => if x5 < (x0.length : Int) then (if 0 ≤ x5 then (if x5 < (x1.length : Int) then (if (rdOf ByteArray.empty x0 x5).toList = (rdOf ByteArray.empty x1 x5).toList then (spec_l12SameTexts.l0 k x0 x1 (wrap64 (x5 + 1))) else (some false)) else (none)) else (none)) else (some true)
def spec_l12SameTexts.f (k : Nat) (l0 : List ByteArray) (l1 : List ByteArray) : Option (Bool) := if (l0.length : Int) = (l1.length : Int) then (spec_l12SameTexts.l0 k l0 l1 0) else (some false)
theorem spec_l12SameTexts.mono_l : ∀ k, (∀ y0 y1 y2, LeO (spec_l12SameTexts.l0 k y0 y1 y2) (spec_l12SameTexts.l0 (k + 1) y0 y1 y2))
 | 0 => fun _ _ _ r h => by simp [spec_l12SameTexts.l0] at h
 | k + 1 => by
  have ih0 := spec_l12SameTexts.mono_l k
  ·intro y0 y1 y2
   unfold spec_l12SameTexts.l0
   exact zM
theorem spec_l12SameTexts.mono : ∀ a0 a1 k, LeO (spec_l12SameTexts.f k a0 a1) (spec_l12SameTexts.f (k + 1) a0 a1) := by
 intro a0 a1 k
 have ih0 := spec_l12SameTexts.mono_l k
 unfold spec_l12SameTexts.f
 exact zM
theorem spec_l12SameTexts.calls (k : Nat) (A0 : Option Addr) (c0 : Nat) (l0 : List ByteArray) (A1 : Option Addr) (c1 : Nat) (l1 : List ByteArray) (r : Bool) (w : World) (hr0 : Kd.C Kd.string w A0 l0.length l0) (hc0 : l0.length ≤ c0) (hr1 : Kd.C Kd.string w A1 l1.length l1) (hc1 : l1.length ≤ c1) (h : spec_l12SameTexts.f k l0 l1 = some r) :
 Calls Tryz.prog 117 #[.slice A0 l0.length c0, .slice A1 l1.length c1] w fun e w' => e = .returned (.bool r) ∧ Drawn0 w w' := by
 have HR0 := zz hr0
 have HC0 := zz hc0
 clear hr0 hc0
 have HR1 := zz hr1
 have HC1 := zz hc1
 clear hr1 hc1
 unfold spec_l12SameTexts.f at h
 have H := h
 clear h
 by_cases c3 : (l0.length : Int) = (l1.length : Int)
 case neg =>
  rw [if_neg c3] at H
  obtain ⟨c3b0, c3b1⟩ := zw c3
  have c3b2 : (l0.length == l1.length) = false := by first | simpa using c3 | (simp at c3 ⊢; omega)
  obtain rfl := zi H
  go_enter Tryz.func117, Tryz.ntmps117
  go_wp2
  repeat (go_quiet (fail); try go_wp2)
  go_ret
  exact ⟨zr, by repeat (first | exact Drawn0.refl _ | apply Drawn0.step)⟩
 rw [if_pos c3] at H
 obtain ⟨c3b0, c3b1⟩ := zq c3
 have c3b2 : (l0.length == l1.length) = true := by first | simpa using c3 | (simp at c3 ⊢; omega)
 clear c3
 have H' := zz H
 clear H
 go_enter Tryz.func117, Tryz.ntmps117
 go_wp2
 repeat (go_quiet (fail); try go_wp2)
 go_loopg [5] k (fun kq v5 w' => ∃ (x5_1 : Int), v5 = .int .i64 x5_1 ∧ Aside0 (spec_l12SameTexts.l0 kq l0 l1 x5_1 = some r) ∧ Aside0 (kq ≤ k) ∧ Drawn0 w w')
 case atStart => exact ⟨(0), zr, H', ⟨Nat.le_refl _⟩, by repeat (first | exact Drawn0.refl _ | apply Drawn0.step)⟩
 case round =>
  clear H'
  try clear c1
  try clear p2
  try clear c3
  try clear c3b0
  try clear c3b1
  try clear c3b2
  obtain ⟨x5_1, rfl, HA, HK1, ⟨m1, rfl⟩⟩ := hrel
  cases gk with
  | zero => exact absurd HA.out (by simp [spec_l12SameTexts.l0])
  | succ k1 =>
   have H := HA.out
   clear HA
   simp only [spec_l12SameTexts.l0] at H
   by_cases c4 : x5_1 < (l0.length : Int)
   case neg =>
    rw [if_neg c4] at H
    have c4b0 := z0 c4
    clear c4
    obtain rfl := zi H
    go_wp2
    repeat (go_quiet (fail); try go_wp2)
    go_ret
    exact ⟨zr, by repeat (first | exact Drawn0.refl _ | apply Drawn0.step)⟩
   rw [if_pos c4] at H
   have c4b0 := z1 c4
   clear c4
   by_cases c5 : 0 ≤ x5_1
   case neg => exact zno H c5
   rw [if_pos c5] at H
   have c5b0 := z1 c5
   clear c5
   by_cases c6 : x5_1 < (l1.length : Int)
   case neg => exact zno H c6
   rw [if_pos c6] at H
   have c6b0 := z1 c6
   clear c6
   by_cases c7 : (rdOf ByteArray.empty l0 x5_1).toList = (rdOf ByteArray.empty l1 x5_1).toList
   case neg =>
    rw [if_neg c7] at H
    obtain ⟨c7b0, c7b1⟩ := zw c7
    obtain rfl := zi H
    have p222 : 0 ≤ (x5_1 : Int) := z2
    have q222 : x5_1 < (l0.length : Int) := z2
    obtain ⟨ad222, e222, hx222_0⟩ := Kd.at_string HR0.out x5_1 p222 q222
    cases e222
    replace p222 := eq_true p222
    replace q222 := eq_true q222
    have p223 : 0 ≤ (x5_1 : Int) := z2
    have q223 : x5_1 < (l1.length : Int) := z2
    obtain ⟨ad223, e223, hx223_0⟩ := Kd.at_string HR1.out x5_1 p223 q223
    cases e223
    replace p223 := eq_true p223
    replace q223 := eq_true q223
    go_wp2
    repeat (go_quiet (fail); try go_wp2)
    go_ret
    exact ⟨zr, by repeat (first | exact Drawn0.refl _ | apply Drawn0.step)⟩
   rw [if_pos c7] at H
   obtain ⟨c7b0, c7b1⟩ := zq c7
   clear c7
   have H' := zz H
   clear H
   have p222 : 0 ≤ (x5_1 : Int) := z2
   have q222 : x5_1 < (l0.length : Int) := z2
   obtain ⟨ad222, e222, hx222_0⟩ := Kd.at_string HR0.out x5_1 p222 q222
   cases e222
   replace p222 := eq_true p222
   replace q222 := eq_true q222
   have p223 : 0 ≤ (x5_1 : Int) := z2
   have q223 : x5_1 < (l1.length : Int) := z2
   obtain ⟨ad223, e223, hx223_0⟩ := Kd.at_string HR1.out x5_1 p223 q223
   cases e223
   replace p223 := eq_true p223
   replace q223 := eq_true q223
   go_wp2
   repeat (go_quiet (fail); try go_wp2)
   go_roundg k1
   case measure => have := HK1.out; omega
   case rel => exact ⟨(wrap64 (x5_1 + 1)), zr, H', ⟨by have := HK1.out; omega⟩, by repeat (first | exact Drawn0.refl _ | apply Drawn0.step)⟩
def spec_l12ItemOk.f (k : Nat) (a0_0 : ByteArray) (a0_1 : ByteArray) (l0_2 : List ByteArray) (a0_3 : ByteArray) (l0_4 : List (S96)) (l1 : List ByteArray) : Option (Bool) := (spec_AddressOk.f k a0_0).bind fun t279 => (if t279 = true then ((spec_TreeOk.f k l0_4).bind fun t280 => (if t280 = true then ((spec_TreeSum.f k l0_4).bind fun t281 => (if a0_1.toList = t281.toList then (if a0_3.toList = ([] : List UInt8) then ((spec_l10Refs.f k l0_4 l1).bind fun t282 => ((spec_l12SameTexts.f k l0_2 t282).bind fun t285 => (some t285))) else ((spec_AddressOk.f k a0_3).bind fun t286 => (if t286 = true then ((spec_l10Refs.f k l0_4 l1).bind fun t287 => ((spec_l12SameTexts.f k l0_2 t287).bind fun t290 => (some t290))) else (some false)))) else (some false))) else (some false))) else (some false))
theorem spec_l12ItemOk.mono : ∀ a0 a1 a2 a3 a4 a5 k, LeO (spec_l12ItemOk.f k a0 a1 a2 a3 a4 a5) (spec_l12ItemOk.f (k + 1) a0 a1 a2 a3 a4 a5) := by
 intro a0 a1 a2 a3 a4 a5 k
 unfold spec_l12ItemOk.f
 have m0 := @spec_AddressOk.mono
 have m1 := @spec_TreeOk.mono
 have m2 := @spec_TreeSum.mono
 have m3 := @spec_l10Refs.mono
 have m4 := @spec_l12SameTexts.mono
 exact zM
def spec_l12ItemOk.T1 : Bool × List (List Nat × List Nat) := (true, [([], []), ([0], [0]), ([1], [1]), ([2, 2], [2]), ([3], [3]), ([4, 3], [3, 4]), ([5, 3, 3], [3, 5]), ([3, 6], [3, 6]), ([7, 6], [7]), ([8], [8]), ([9, 8], [8, 9]), ([8], [8]), ([11, 8], [8, 11]), ([12, 8, 8], [8, 12]), ([10, 13, 8], [8, 10, 13]), ([8, 14], [8, 14]), ([15, 13], [15]), ([16], [16]), ([17, 16], [16, 17]), ([18, 16], [16, 18]), ([19, 16, 16], [16, 19]), ([20], [20]), ([21, 20], [20, 21]), ([22, 20, 20], [20, 22]), ([20, 23, 16], [16, 20, 23]), ([16, 24], [16, 24]), ([25, 23], [25]), ([26], [26]), ([27, 26], [26, 27]), ([26], [26]), ([29, 26], [26, 29]), ([26], [26]), ([30, 31, 26, 26], [26, 30, 31]), ([28, 32, 32, 26], [26, 28, 32]), ([26, 33], [26, 33]), ([34, 33, 0, 1, 2, 3, 4, 5, 6, 7, 8, 9, 10, 11, 12, 13, 14, 15, 16, 17, 18, 19, 20, 21, 22, 23, 24, 25, 26, 27, 28, 29, 30, 31, 32, 33, 34], [34])])
def spec_l12ItemOk.B1 : List Nat := [0, 1, 3, 7, 15, 31, 63, 127, 255, 511, 1023, 511, 2559, 6655, 16383, 32767, 65535, 131071, 262143, 524287, 1048575, 2097151, 4194303, 8388607, 16777215, 33554431, 67108863, 134217727, 268435455, 134217727, 671088639, 134217727, 3892314111, 8589934591, 17179869183, 34359738367]
theorem spec_l12ItemOk.tab1 : rtab .any (opsOf Tryz.f79 1) = spec_l12ItemOk.T1 := by kernel_rfl
theorem spec_l12ItemOk.bits1 : waitsOk spec_l12ItemOk.T1.2 spec_l12ItemOk.B1 = true := by kernel_rfl
theorem spec_l12ItemOk.calls (k : Nat) (a0_0 : ByteArray) (a0_1 : ByteArray) (A0_2 : Option Addr) (c0_2 : Nat) (l0_2 : List ByteArray) (a0_3 : ByteArray) (A0_4 : Option Addr) (c0_4 : Nat) (l0_4 : List (S96)) (A1 : Option Addr) (c1 : Nat) (l1 : List ByteArray) (r : Bool) (w : World) (hr0_2 : Kd.C Kd.string w A0_2 l0_2.length l0_2) (hc0_2 : l0_2.length ≤ c0_2) (hr0_4 : Kd.C k96 w A0_4 l0_4.length l0_4) (hc0_4 : l0_4.length ≤ c0_4) (hr1 : Kd.C Kd.string w A1 l1.length l1) (hc1 : l1.length ≤ c1) (h : spec_l12ItemOk.f k a0_0 a0_1 l0_2 a0_3 l0_4 l1 = some r) :
 Calls Tryz.prog 79 #[.agg #[.string a0_0, .string a0_1, .slice A0_2 l0_2.length c0_2, .string a0_3, .slice A0_4 l0_4.length c0_4], .slice A1 l1.length c1] w fun e w' => e = .returned (.bool r) ∧ Below w.heap.size w w' := by
 have hu94 := Tryz.underlying94
 have HR0_2 := zz hr0_2
 have HC0_2 := zz hc0_2
 clear hr0_2 hc0_2
 have HR0_4 := zz hr0_4
 have HC0_4 := zz hc0_4
 clear hr0_4 hc0_4
 have HR1 := zz hr1
 have HC1 := zz hc1
 clear hr1 hc1
 have HB := zz (Below.refl w.heap.size w)
 unfold spec_l12ItemOk.f at h
 have H := h
 clear h
 replace H := zf H
 obtain ⟨t279, A30, H⟩ := H
 try dsimp only at H
 have A3 := zz A30
 clear A30
 go_enter Tryz.func79, Tryz.ntmps79
 try go_wp2_with (first | (refine zX 2 94 #[.string a0_0, .string a0_1, .slice A0_2 l0_2.length c0_2, .string a0_3, .slice A0_4 l0_4.length c0_4] ?_; intro gb278 hg w12 hbox hb; have BK278 := zz (hbox); have GW278 := zz ((zg : w.heap.size ≤ gb278)); have GE278 := zz ((zg : w.heap.size ≤ gb278)); replace HB := zz (zv zb hb); clear hb hbox hg))
 replace BK278 := zz (blk_drew BK278.out)
 replace HB := zz (below_drew1 HB.out)
 refine start_ (n := 36) (S := fun w' => w'.cell? ⟨gb278, 0, none⟩ = some (.string a0_0) ∧ w'.cell? ⟨gb278, 1, none⟩ = some (.string a0_1) ∧ w'.cell? ⟨gb278, 2, none⟩ = some (.slice A0_2 l0_2.length c0_2) ∧ w'.cell? ⟨gb278, 3, none⟩ = some (.string a0_3) ∧ w'.cell? ⟨gb278, 4, none⟩ = some (.slice A0_4 l0_4.length c0_4)) (ds := []) (bp 0 36) zk rfl rfl (zy5 BK278.out) (fun hHeld => ?_); refine with_tabW spec_l12ItemOk.tab1 spec_l12ItemOk.bits1 (fun HT_ HW_ => ?_)
 generalize w12.drew = w13 at BK278 HB hHeld ⊢
 refine zp 0 5 (bp 1 35) ?_
 refine zt 1 6 (bp 2 34) ?_
 refine zo 2 7 (bp 3 33) fun K hK => ?_
 refine zh Tryz.func36 #[.string a0_0] ?_
 with_reducible refine (spec_AddressOk.calls k a0_0 _ _ A3.out).mono ?_
 rintro e w' ⟨rfl, ⟨nd, rfl⟩⟩
 refine ⟨_, rfl, ?_⟩
 refine hK.out _ _ (zy5 BK278.out) (fun hHeld => ?_)
 clear hK K
 refine zn 7 ?_
 by_cases c4 : t279 = true
 case neg =>
  replace c4 := Bool.eq_false_iff.mpr c4
  subst c4
  rw [if_neg (show ¬ (false = true) by decide)] at H
  obtain rfl := zi H
  refine zp 3 8 (bp 4 32) ?_
  refine zu 4 9 (bp 5 31) ?_
  refine zu 5 10 (bp 6 30) ?_
  refine zu 6 11 (bp 7 29) ?_
  refine zp 7 12 (bp 8 28) ?_
  refine zp 8 13 (bp 9 27) ?_
  refine zu 9 14 (bp 10 26) ?_
  refine zu 10 15 (bp 11 25) ?_
  refine zu 11 16 (bp 12 24) ?_
  refine zu 12 17 (bp 13 23) ?_
  refine zu 13 18 (bp 14 22) ?_
  refine zu 14 19 (bp 15 21) ?_
  refine zp 15 20 (bp 16 20) ?_
  refine zp 16 21 (bp 17 19) ?_
  refine zu 17 22 (bp 18 18) ?_
  refine zu 18 23 (bp 19 17) ?_
  refine zu 19 24 (bp 20 16) ?_
  refine zu 20 25 (bp 21 15) ?_
  refine zu 21 26 (bp 22 14) ?_
  refine zu 22 27 (bp 23 13) ?_
  refine zu 23 28 (bp 24 12) ?_
  refine zu 24 29 (bp 25 11) ?_
  refine zp 25 30 (bp 26 10) ?_
  refine zp 26 31 (bp 27 9) ?_
  refine zu 27 32 (bp 28 8) ?_
  refine zu 28 33 (bp 29 7) ?_
  refine zu 29 34 (bp 30 6) ?_
  refine zu 30 35 (bp 31 5) ?_
  refine zu 31 36 (bp 32 4) ?_
  refine zu 32 37 (bp 33 3) ?_
  refine zu 33 38 (bp 34 2) ?_
  refine zp 34 39 (bp 35 1) ?_
  refine zp 35 4 (bp 36 0) ?_
  refine done_ (done_of HT_.out zk) ?_
  try go_wp2
  go_ret
  exact ⟨ze, zb⟩
 subst c4
 rw [if_pos rfl] at H
 replace H := zf H
 obtain ⟨t280, A50, H⟩ := H
 try dsimp only at H
 have A5 := zz A50
 clear A50
 refine zp 3 8 (bp 4 32) ?_
 refine zp 4 9 (bp 5 31) ?_
 refine zt 5 10 (bp 6 30) ?_
 refine zo 6 11 (bp 7 29) fun K hK => ?_
 refine zh Tryz.func81 #[.slice A0_4 l0_4.length c0_4] ?_
 with_reducible refine (spec_TreeOk.calls k _ _ l0_4 _ _ ?s1 ?s2 A5.out).mono ?_
 (case s1 => exact zC HR0_4.out)
 (case s2 => exact HC0_4.out)
 rintro e w14 ⟨rfl, hb⟩
 refine ⟨_, rfl, ?_⟩
 replace BK278 := zz (zJ BK278 hb)
 replace HB := zz (zv zb hb)
 (try clear hb)
 (try clear hb2)
 (try clear hk)
 (try clear hi)
 refine hK.out _ _ (zy5 BK278.out) (fun hHeld => ?_)
 clear hK K
 refine zn 11 ?_
 by_cases c6 : t280 = true
 case neg =>
  replace c6 := Bool.eq_false_iff.mpr c6
  subst c6
  rw [if_neg (show ¬ (false = true) by decide)] at H
  obtain rfl := zi H
  refine zp 7 12 (bp 8 28) ?_
  refine zp 8 13 (bp 9 27) ?_
  refine zu 9 14 (bp 10 26) ?_
  refine zu 10 15 (bp 11 25) ?_
  refine zu 11 16 (bp 12 24) ?_
  refine zu 12 17 (bp 13 23) ?_
  refine zu 13 18 (bp 14 22) ?_
  refine zu 14 19 (bp 15 21) ?_
  refine zp 15 20 (bp 16 20) ?_
  refine zp 16 21 (bp 17 19) ?_
  refine zu 17 22 (bp 18 18) ?_
  refine zu 18 23 (bp 19 17) ?_
  refine zu 19 24 (bp 20 16) ?_
  refine zu 20 25 (bp 21 15) ?_
  refine zu 21 26 (bp 22 14) ?_
  refine zu 22 27 (bp 23 13) ?_
  refine zu 23 28 (bp 24 12) ?_
  refine zu 24 29 (bp 25 11) ?_
  refine zp 25 30 (bp 26 10) ?_
  refine zp 26 31 (bp 27 9) ?_
  refine zu 27 32 (bp 28 8) ?_
  refine zu 28 33 (bp 29 7) ?_
  refine zu 29 34 (bp 30 6) ?_
  refine zu 30 35 (bp 31 5) ?_
  refine zu 31 36 (bp 32 4) ?_
  refine zu 32 37 (bp 33 3) ?_
  refine zu 33 38 (bp 34 2) ?_
  refine zp 34 39 (bp 35 1) ?_
  refine zp 35 4 (bp 36 0) ?_
  refine done_ (done_of HT_.out zk) ?_
  try go_wp2
  go_ret
  exact ⟨ze, zb⟩
 subst c6
 rw [if_pos rfl] at H
 replace H := zf H
 obtain ⟨t281, A70, H⟩ := H
 try dsimp only at H
 have A7 := zz A70
 clear A70
 refine zp 7 12 (bp 8 28) ?_
 refine zp 8 13 (bp 9 27) ?_
 refine zp 9 14 (bp 10 26) ?_
 refine zp 11 16 (bm 36 3071) ?_
 refine zt 10 15 (bp 12 24) ?_
 refine zt 12 17 (bp 13 23) ?_
 refine zo 13 18 (bp 14 22) fun K hK => ?_
 refine zh Tryz.func116 #[.slice A0_4 l0_4.length c0_4] ?_
 with_reducible refine (spec_TreeSum.calls k _ _ l0_4 t281 _ ?s1 ?s2 A7.out).mono ?_
 (case s1 => exact zc HR0_4.out)
 (case s2 => exact HC0_4.out)
 rintro e w15 ⟨rfl, hb⟩
 refine ⟨_, rfl, ?_⟩
 replace BK278 := zz (zJ BK278 hb)
 replace HB := zz (zv zb hb)
 (try clear hb)
 (try clear hb2)
 (try clear hk)
 (try clear hi)
 refine hK.out _ _ (zy5 BK278.out) (fun hHeld => ?_)
 clear hK K
 refine zn 18 ?_
 by_cases c8 : a0_1.toList = t281.toList
 case neg =>
  rw [if_neg c8] at H
  obtain ⟨c8b0, c8b1⟩ := zw c8
  obtain rfl := zi H
  refine zp 14 19 (bp 15 21) ?_
  refine zp 15 20 (bp 16 20) ?_
  refine zp 16 21 (bp 17 19) ?_
  refine zu 17 22 (bp 18 18) ?_
  refine zu 18 23 (bp 19 17) ?_
  refine zu 19 24 (bp 20 16) ?_
  refine zu 20 25 (bp 21 15) ?_
  refine zu 21 26 (bp 22 14) ?_
  refine zu 22 27 (bp 23 13) ?_
  refine zu 23 28 (bp 24 12) ?_
  refine zu 24 29 (bp 25 11) ?_
  refine zp 25 30 (bp 26 10) ?_
  refine zp 26 31 (bp 27 9) ?_
  refine zu 27 32 (bp 28 8) ?_
  refine zu 28 33 (bp 29 7) ?_
  refine zu 29 34 (bp 30 6) ?_
  refine zu 30 35 (bp 31 5) ?_
  refine zu 31 36 (bp 32 4) ?_
  refine zu 32 37 (bp 33 3) ?_
  refine zu 33 38 (bp 34 2) ?_
  refine zp 34 39 (bp 35 1) ?_
  refine zp 35 4 (bp 36 0) ?_
  refine done_ (done_of HT_.out zk) ?_
  try go_wp2
  go_ret
  exact ⟨ze, zb⟩
 rw [if_pos c8] at H
 obtain ⟨c8b0, c8b1⟩ := zq c8
 clear c8
 by_cases c9 : a0_3.toList = ([] : List UInt8)
 ·rw [if_pos c9] at H
  obtain ⟨c9b0, c9b1⟩ := zq c9
  clear c9
  replace H := zf H
  obtain ⟨t282, A100, H⟩ := H
  try dsimp only at H
  have A10 := zz A100
  clear A100
  replace H := zf H
  obtain ⟨t285, A110, H⟩ := H
  try dsimp only at H
  have A11 := zz A110
  clear A110
  obtain rfl := zi H
  refine zp 14 19 (bp 15 21) ?_
  refine zp 15 20 (bp 16 20) ?_
  refine zp 16 21 (bp 17 19) ?_
  refine zp 17 22 (bp 18 18) ?_
  refine zt 18 23 (bp 19 17) ?_
  refine zp 19 24 (bp 20 16) ?_
  refine zp 20 25 (bp 21 15) ?_
  refine zu 21 26 (bp 22 14) ?_
  refine zu 22 27 (bp 23 13) ?_
  refine zu 23 28 (bp 24 12) ?_
  refine zp 24 29 (bp 25 11) ?_
  refine zp 25 30 (bp 26 10) ?_
  refine zp 26 31 (bp 27 9) ?_
  refine zp 27 32 (bp 28 8) ?_
  refine zp 29 34 (bm 36 805306367) ?_
  refine zp 31 36 (bm 36 2952790015) ?_
  refine zt 28 33 (bm 36 3221225471) ?_
  refine zt 30 35 (bp 32 4) ?_
  refine zo 32 37 (bp 33 3) fun K hK => ?_
  refine zh Tryz.func118 #[.slice A0_4 l0_4.length c0_4, .slice A1 l1.length c1] ?_
  with_reducible refine (spec_l10Refs.calls k _ _ l0_4 _ _ l1 t282 _ ?s1 ?s2 ?s3 ?s4 A10.out).mono ?_
  (case s1 => exact zc HR0_4.out)
  (case s2 => exact HC0_4.out)
  (case s3 => exact zc HR1.out)
  (case s4 => exact HC1.out)
  rintro e w16 ⟨v283, rfl, ho0, hb⟩
  refine ⟨_, rfl, ?_⟩
  have HO284 := zz (Kd.R_lower ho0 (below_size zb))
  replace BK278 := zz (zJ BK278 hb)
  replace HB := zz (zv zb hb)
  (try clear hb)
  (try clear hb2)
  (try clear hk)
  (try clear hi)
  (try clear ho0)
  obtain ⟨Ao17, co17, eo17⟩ := Kd.R_slice HO284.out
  (first | subst eo17 | (injection eo17 with f1_ f2_ f3_; have f4_ := f1_.symm; have f5_ := f3_.symm; clear f1_ f2_ f3_; subst f4_; subst f5_))
  refine hK.out _ _ (zy5 BK278.out) (fun hHeld => ?_)
  clear hK K
  refine zn 37 ?_
  refine zo 33 38 (bp 34 2) fun K hK => ?_
  refine zh Tryz.func117 #[.slice A0_2 l0_2.length c0_2, .slice Ao17 t282.length co17] ?_
  with_reducible refine (spec_l12SameTexts.calls k _ _ l0_2 _ _ t282 t285 _ ?s1 ?s2 ?s3 ?s4 A11.out).mono ?_
  (case s1 => exact zc HR0_2.out)
  (case s2 => exact HC0_2.out)
  (case s3 => repeat (first | exact (Kd.R_reads' HO284.out).2.2 | (with_reducible refine Kd.C_alloc ?_ _) | (with_reducible refine Kd.C_drewN ?_ _) | (with_reducible refine Kd.C_drew ?_)))
  (case s4 => exact (Kd.R_reads' HO284.out).2.1)
  rintro e w' ⟨rfl, ⟨nd, rfl⟩⟩
  refine ⟨_, rfl, ?_⟩
  refine hK.out _ _ (zy5 BK278.out) (fun hHeld => ?_)
  clear hK K
  refine zn 38 ?_
  refine zp 34 39 (bp 35 1) ?_
  refine zp 35 4 (bp 36 0) ?_
  refine done_ (done_of HT_.out zk) ?_
  try go_wp2
  go_ret
  exact ⟨ze, zb⟩
 rw [if_neg c9] at H
 obtain ⟨c9b0, c9b1⟩ := zw c9
 replace H := zf H
 obtain ⟨t286, A180, H⟩ := H
 try dsimp only at H
 have A18 := zz A180
 clear A180
 refine zp 14 19 (bp 15 21) ?_
 refine zp 15 20 (bp 16 20) ?_
 refine zp 16 21 (bp 17 19) ?_
 refine zp 17 22 (bp 18 18) ?_
 refine zt 18 23 (bp 19 17) ?_
 refine zp 19 24 (bp 20 16) ?_
 refine zp 20 25 (bp 21 15) ?_
 refine zp 21 26 (bp 22 14) ?_
 refine zt 22 27 (bp 23 13) ?_
 refine zo 23 28 (bp 24 12) fun K hK => ?_
 refine zh Tryz.func36 #[.string a0_3] ?_
 with_reducible refine (spec_AddressOk.calls k a0_3 _ _ A18.out).mono ?_
 rintro e w' ⟨rfl, ⟨nd, rfl⟩⟩
 refine ⟨_, rfl, ?_⟩
 refine hK.out _ _ (zy5 BK278.out) (fun hHeld => ?_)
 clear hK K
 refine zn 28 ?_
 by_cases c19 : t286 = true
 case neg =>
  replace c19 := Bool.eq_false_iff.mpr c19
  subst c19
  rw [if_neg (show ¬ (false = true) by decide)] at H
  obtain rfl := zi H
  refine zp 24 29 (bp 25 11) ?_
  refine zp 25 30 (bp 26 10) ?_
  refine zp 26 31 (bp 27 9) ?_
  refine zu 27 32 (bp 28 8) ?_
  refine zu 28 33 (bp 29 7) ?_
  refine zu 29 34 (bp 30 6) ?_
  refine zu 30 35 (bp 31 5) ?_
  refine zu 31 36 (bp 32 4) ?_
  refine zu 32 37 (bp 33 3) ?_
  refine zu 33 38 (bp 34 2) ?_
  refine zp 34 39 (bp 35 1) ?_
  refine zp 35 4 (bp 36 0) ?_
  refine done_ (done_of HT_.out zk) ?_
  try go_wp2
  go_ret
  exact ⟨ze, zb⟩
 subst c19
 rw [if_pos rfl] at H
 replace H := zf H
 obtain ⟨t287, A200, H⟩ := H
 try dsimp only at H
 have A20 := zz A200
 clear A200
 replace H := zf H
 obtain ⟨t290, A210, H⟩ := H
 try dsimp only at H
 have A21 := zz A210
 clear A210
 obtain rfl := zi H
 refine zp 24 29 (bp 25 11) ?_
 refine zp 25 30 (bp 26 10) ?_
 refine zp 26 31 (bp 27 9) ?_
 refine zp 27 32 (bp 28 8) ?_
 refine zp 29 34 (bm 36 805306367) ?_
 refine zp 31 36 (bm 36 2952790015) ?_
 refine zt 28 33 (bm 36 3221225471) ?_
 refine zt 30 35 (bp 32 4) ?_
 refine zo 32 37 (bp 33 3) fun K hK => ?_
 refine zh Tryz.func118 #[.slice A0_4 l0_4.length c0_4, .slice A1 l1.length c1] ?_
 with_reducible refine (spec_l10Refs.calls k _ _ l0_4 _ _ l1 t287 _ ?s1 ?s2 ?s3 ?s4 A20.out).mono ?_
 (case s1 => exact zC HR0_4.out)
 (case s2 => exact HC0_4.out)
 (case s3 => exact zC HR1.out)
 (case s4 => exact HC1.out)
 rintro e w26 ⟨v288, rfl, ho0, hb⟩
 refine ⟨_, rfl, ?_⟩
 have HO289 := zz (Kd.R_lower ho0 (below_size zb))
 replace BK278 := zz (zJ BK278 hb)
 replace HB := zz (zv zb hb)
 (try clear hb)
 (try clear hb2)
 (try clear hk)
 (try clear hi)
 (try clear ho0)
 obtain ⟨Ao27, co27, eo27⟩ := Kd.R_slice HO289.out
 (first | subst eo27 | (injection eo27 with f1_ f2_ f3_; have f4_ := f1_.symm; have f5_ := f3_.symm; clear f1_ f2_ f3_; subst f4_; subst f5_))
 refine hK.out _ _ (zy5 BK278.out) (fun hHeld => ?_)
 clear hK K
 refine zn 37 ?_
 refine zo 33 38 (bp 34 2) fun K hK => ?_
 refine zh Tryz.func117 #[.slice A0_2 l0_2.length c0_2, .slice Ao27 t287.length co27] ?_
 with_reducible refine (spec_l12SameTexts.calls k _ _ l0_2 _ _ t287 t290 _ ?s1 ?s2 ?s3 ?s4 A21.out).mono ?_
 (case s1 => exact zc HR0_2.out)
 (case s2 => exact HC0_2.out)
 (case s3 => repeat (first | exact (Kd.R_reads' HO289.out).2.2 | (with_reducible refine Kd.C_alloc ?_ _) | (with_reducible refine Kd.C_drewN ?_ _) | (with_reducible refine Kd.C_drew ?_)))
 (case s4 => exact (Kd.R_reads' HO289.out).2.1)
 rintro e w' ⟨rfl, ⟨nd, rfl⟩⟩
 refine ⟨_, rfl, ?_⟩
 refine hK.out _ _ (zy5 BK278.out) (fun hHeld => ?_)
 clear hK K
 refine zn 38 ?_
 refine zp 34 39 (bp 35 1) ?_
 refine zp 35 4 (bp 36 0) ?_
 refine done_ (done_of HT_.out zk) ?_
 try go_wp2
 go_ret
 exact ⟨ze, zb⟩
end Go.Proofs.YtcekmnclmldmmaaGreatDoor.Q
