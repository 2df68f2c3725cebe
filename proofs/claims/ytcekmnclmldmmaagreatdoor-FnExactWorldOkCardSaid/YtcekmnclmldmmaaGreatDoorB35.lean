import Derived.Test.YtcekmnclmldmmaaGreatDoorB27
import Derived.Test.YtcekmnclmldmmaaGreatDoorB31
import Derived.Test.YtcekmnclmldmmaaGreatDoorB34
set_option linter.unusedVariables false
set_option linter.unusedSimpArgs false
namespace Go.Proofs.YtcekmnclmldmmaaGreatDoor.Q
open Go.RowKit W1 W2 W3
attribute [local go_sem] max2_int min2_int max_two min_two max_three min_three max_four min_four
attribute [local go_sem high] bl_leq bl_gtr bl_geq
set_option maxHeartbeats 8000000
set_option maxRecDepth 100000
mutual
def spec_WorldOk.l0 : Nat → Int → List (S94) → List (S67) → List (S61) → List (S64) → Option (Bool)
 | 0, _, _, _, _, _ => none
 | k + 1, x3, x318000, x318001, x318002, x318003 => if x3 < (x318002.length : Int) then (if 0 ≤ x3 then ((spec_l19Item.f k ((rd_T61 x318002 x3).f0) ((rd_T61 x318002 x3).f1) ((rd_T61 x318002 x3).f2)).bind fun t323 => (if t323 = true then (spec_WorldOk.l0 k (wrap64 (x3 + 1)) x318000 x318001 x318002 x318003) else (some false))) else (none)) else (spec_WorldOk.l1 k 0 x318000 x318001 x318002 x318003)
def spec_WorldOk.l1 : Nat → Int → List (S94) → List (S67) → List (S61) → List (S64) → Option (Bool)
 | 0, _, _, _, _, _ => none
 | k + 1, x4, x318000, x318001, x318002, x318003 => if x4 < (x318003.length : Int) then (if 0 ≤ x4 then ((spec_NameOk.f k ((rd_T64 x318003 x4).f0)).bind fun t325 => (if t325 = true then ((spec_AddressOk.f k ((rd_T64 x318003 x4).f1)).bind fun t327 => (if t327 = true then (spec_WorldOk.l1 k (wrap64 (x4 + 1)) x318000 x318001 x318002 x318003) else (some false))) else (some false))) else (none)) else (spec_WorldOk.l2 k 0 x318000 x318001 x318002 x318003)
def spec_WorldOk.l2 : Nat → Int → List (S94) → List (S67) → List (S61) → List (S64) → Option (Bool)
 | 0, _, _, _, _, _ => none
 | k + 1, x5, x318000, x318001, x318002, x318003 => if x5 < (x318001.length : Int) then (spec_WorldOk.l3 k x5 0 x318000 x318001 x318002 x318003) else (some true)
def spec_WorldOk.l3 : Nat → Int → Int → List (S94) → List (S67) → List (S61) → List (S64) → Option (Bool)
 | 0, _, _, _, _, _, _ => none
 | k + 1, x5, x6, x318000, x318001, x318002, x318003 => if 0 ≤ x5 then (if x5 < (x318001.length : Int) then (if x6 < (((rd_T67 x318001 x5).f2).length : Int) then (if 0 ≤ x6 then ((spec_l12Find.f k x318000 ((rd_T70 ((rd_T67 x318001 x5).f2) x6).f1)).bind fun t331 => (if t331 < 0 then (some false) else (spec_WorldOk.l3 k x5 (wrap64 (x6 + 1)) x318000 x318001 x318002 x318003))) else (none)) else (spec_WorldOk.l2 k (wrap64 (x5 + 1)) x318000 x318001 x318002 x318003)) else (none)) else (none)
end
def spec_WorldOk.f (k : Nat) (l0_0 : List (S94)) (l0_1 : List (S67)) (l0_2 : List (S61)) (l0_3 : List (S64)) : Option (Bool) := (spec_StoreOk.f k l0_0).bind fun t318 => (if t318 = true then ((spec_ProfilesOk.f k l0_1).bind fun t319 => (if t319 = true then (if (l0_2.length : Int) > 20 then (some false) else (if (l0_3.length : Int) > 20 then (some false) else (spec_WorldOk.l0 k 0 l0_0 l0_1 l0_2 l0_3))) else (some false))) else (some false))
theorem spec_WorldOk.mono_l : ∀ k, (∀ y0 y1 y2 y3 y4, LeO (spec_WorldOk.l0 k y0 y1 y2 y3 y4) (spec_WorldOk.l0 (k + 1) y0 y1 y2 y3 y4)) ∧ (∀ y0 y1 y2 y3 y4, LeO (spec_WorldOk.l1 k y0 y1 y2 y3 y4) (spec_WorldOk.l1 (k + 1) y0 y1 y2 y3 y4)) ∧ (∀ y0 y1 y2 y3 y4, LeO (spec_WorldOk.l2 k y0 y1 y2 y3 y4) (spec_WorldOk.l2 (k + 1) y0 y1 y2 y3 y4)) ∧ (∀ y0 y1 y2 y3 y4 y5, LeO (spec_WorldOk.l3 k y0 y1 y2 y3 y4 y5) (spec_WorldOk.l3 (k + 1) y0 y1 y2 y3 y4 y5))
 | 0 => ⟨fun _ _ _ _ _ r h => by simp [spec_WorldOk.l0] at h, fun _ _ _ _ _ r h => by simp [spec_WorldOk.l1] at h, fun _ _ _ _ _ r h => by simp [spec_WorldOk.l2] at h, fun _ _ _ _ _ _ r h => by simp [spec_WorldOk.l3] at h⟩
 | k + 1 => by
  obtain ⟨ih0, ih1, ih2, ih3⟩ := spec_WorldOk.mono_l k
  refine ⟨?_, ?_, ?_, ?_⟩
  ·intro y0 y1 y2 y3 y4
   unfold spec_WorldOk.l0
   have m0 := @spec_AddressOk.mono
   have m1 := @spec_NameOk.mono
   have m2 := @spec_ProfilesOk.mono
   have m3 := @spec_StoreOk.mono
   have m4 := @spec_l12Find.mono
   have m5 := @spec_l19Item.mono
   exact zM
  ·intro y0 y1 y2 y3 y4
   unfold spec_WorldOk.l1
   have m0 := @spec_AddressOk.mono
   have m1 := @spec_NameOk.mono
   have m2 := @spec_ProfilesOk.mono
   have m3 := @spec_StoreOk.mono
   have m4 := @spec_l12Find.mono
   have m5 := @spec_l19Item.mono
   exact zM
  ·intro y0 y1 y2 y3 y4
   unfold spec_WorldOk.l2
   have m0 := @spec_AddressOk.mono
   have m1 := @spec_NameOk.mono
   have m2 := @spec_ProfilesOk.mono
   have m3 := @spec_StoreOk.mono
   have m4 := @spec_l12Find.mono
   have m5 := @spec_l19Item.mono
   exact zM
  ·intro y0 y1 y2 y3 y4 y5
   unfold spec_WorldOk.l3
   have m0 := @spec_AddressOk.mono
   have m1 := @spec_NameOk.mono
   have m2 := @spec_ProfilesOk.mono
   have m3 := @spec_StoreOk.mono
   have m4 := @spec_l12Find.mono
   have m5 := @spec_l19Item.mono
   exact zM
theorem spec_WorldOk.mono : ∀ a0 a1 a2 a3 k, LeO (spec_WorldOk.f k a0 a1 a2 a3) (spec_WorldOk.f (k + 1) a0 a1 a2 a3) := by
 intro a0 a1 a2 a3 k
 obtain ⟨ih0, ih1, ih2, ih3⟩ := spec_WorldOk.mono_l k
 unfold spec_WorldOk.f
 have m0 := @spec_AddressOk.mono
 have m1 := @spec_NameOk.mono
 have m2 := @spec_ProfilesOk.mono
 have m3 := @spec_StoreOk.mono
 have m4 := @spec_l12Find.mono
 have m5 := @spec_l19Item.mono
 exact zM
theorem spec_WorldOk.calls (k : Nat) (A0_0 : Option Addr) (c0_0 : Nat) (l0_0 : List (S94)) (A0_1 : Option Addr) (c0_1 : Nat) (l0_1 : List (S67)) (A0_2 : Option Addr) (c0_2 : Nat) (l0_2 : List (S61)) (A0_3 : Option Addr) (c0_3 : Nat) (l0_3 : List (S64)) (r : Bool) (w : World) (hr0_0 : Kd.C k94 w A0_0 l0_0.length l0_0) (hc0_0 : l0_0.length ≤ c0_0) (hr0_1 : Kd.C k67 w A0_1 l0_1.length l0_1) (hc0_1 : l0_1.length ≤ c0_1) (hr0_2 : Kd.C k61 w A0_2 l0_2.length l0_2) (hc0_2 : l0_2.length ≤ c0_2) (hr0_3 : Kd.C k64 w A0_3 l0_3.length l0_3) (hc0_3 : l0_3.length ≤ c0_3) (h : spec_WorldOk.f k l0_0 l0_1 l0_2 l0_3 = some r) :
 Calls Tryz.prog 8 #[.agg #[.slice A0_0 l0_0.length c0_0, .slice A0_1 l0_1.length c0_1, .slice A0_2 l0_2.length c0_2, .slice A0_3 l0_3.length c0_3]] w fun e w' => e = .returned (.bool r) ∧ Below w.heap.size w w' := by
 have hu35 := Tryz.underlying35
 have HR0_0 := zz hr0_0
 have HC0_0 := zz hc0_0
 clear hr0_0 hc0_0
 have HR0_1 := zz hr0_1
 have HC0_1 := zz hc0_1
 clear hr0_1 hc0_1
 have HR0_2 := zz hr0_2
 have HC0_2 := zz hc0_2
 clear hr0_2 hc0_2
 have HR0_3 := zz hr0_3
 have HC0_3 := zz hc0_3
 clear hr0_3 hc0_3
 have HB := zz (Below.refl w.heap.size w)
 unfold spec_WorldOk.f at h
 have H := h
 clear h
 replace HB := HB.out
 have HW := zz (Below.refl w.heap.size w)
 go_enter Tryz.func8, Tryz.ntmps8
 replace H := zf H
 obtain ⟨t318, A2, H⟩ := H
 try dsimp only at H
 replace A2 := zz A2
 go_wp2_with (first | (refine zN 1 ?_; (try (refine z4 ?_; dsimp only)); refine zX 1 35 #[.slice A0_0 l0_0.length c0_0, .slice A0_1 l0_1.length c0_1, .slice A0_2 l0_2.length c0_2, .slice A0_3 l0_3.length c0_3] ?_; intro gb317 hg w5 hbox hb; have hst := zv HB hb; clear hg hb HB; replace HW := zz (zv HW.out hst); replace HR0_0 := zz (Kd.C_below HR0_0.out hst); replace HR0_1 := zz (Kd.C_below HR0_1.out hst); replace HR0_2 := zz (Kd.C_below HR0_2.out hst); replace HR0_3 := zz (Kd.C_below HR0_3.out hst); obtain ⟨hbx317_0, hbx317_1, hbx317_2, hbx317_3⟩ := zx4 hbox; have HB := Below.refl w5.heap.size w5; clear hbox hst))
 refine (spec_StoreOk.calls k _ _ _ _ _ (Kd.C_below HR0_0.out HB) HC0_0.out A2.out).mono ?_
 rintro e w6 ⟨rfl, hb⟩
 replace HB := zv HB hb
 clear hb
 by_cases c3 : t318 = true
 case neg =>
  replace c3 := Bool.eq_false_iff.mpr c3
  subst c3
  rw [if_neg (by decide)] at H
  obtain rfl := zi H
  go_wp2_with (fail)
  go_ret
  exact ⟨ze, zv HW.out HB⟩
 subst c3
 rw [if_pos rfl] at H
 replace H := zf H
 obtain ⟨t319, A7, H⟩ := H
 try dsimp only at H
 replace A7 := zz A7
 by_cases c8 : t319 = true
 case neg =>
  replace c8 := Bool.eq_false_iff.mpr c8
  subst c8
  rw [if_neg (by decide)] at H
  go_wp2_with (fail)
  refine (spec_ProfilesOk.calls k _ _ _ _ _ (Kd.C_below HR0_1.out HB) HC0_1.out A7.out).mono ?_
  rintro e w47 ⟨rfl, hb⟩
  replace HB := zv HB hb
  clear hb
  obtain rfl := zi H
  go_wp2_with (fail)
  go_ret
  exact ⟨ze, zv HW.out HB⟩
 subst c8
 rw [if_pos rfl] at H
 by_cases c9 : (l0_2.length : Int) > 20
 ·rw [if_pos c9] at H
  have c9b0 := zgt c9
  have c9b1 : decide (20 < l0_2.length) = true := z1 (by omega)
  clear c9
  go_wp2_with (fail)
  refine (spec_ProfilesOk.calls k _ _ _ _ _ (Kd.C_below HR0_1.out HB) HC0_1.out A7.out).mono ?_
  rintro e w11 ⟨rfl, hb⟩
  replace HB := zv HB hb
  clear hb
  obtain rfl := zi H
  go_wp2_with (fail)
  go_ret
  exact ⟨ze, zv HW.out HB⟩
 rw [if_neg c9] at H
 have c9b0 := zgtn c9
 have c9b1 : decide (20 < l0_2.length) = false := z0 (by omega)
 clear c9
 by_cases c12 : (l0_3.length : Int) > 20
 ·rw [if_pos c12] at H
  have c12b0 := zgt c12
  have c12b1 : decide (20 < l0_3.length) = true := z1 (by omega)
  clear c12
  go_wp2_with (fail)
  refine (spec_ProfilesOk.calls k _ _ _ _ _ (Kd.C_below HR0_1.out HB) HC0_1.out A7.out).mono ?_
  rintro e w14 ⟨rfl, hb⟩
  replace HB := zv HB hb
  clear hb
  obtain rfl := zi H
  go_wp2_with (fail)
  go_ret
  exact ⟨ze, zv HW.out HB⟩
 rw [if_neg c12] at H
 have c12b0 := zgtn c12
 have c12b1 : decide (20 < l0_3.length) = false := z0 (by omega)
 clear c12
 go_wp2_with (fail)
 refine (spec_ProfilesOk.calls k _ _ _ _ _ (Kd.C_below HR0_1.out HB) HC0_1.out A7.out).mono ?_
 rintro e w16 ⟨rfl, hb⟩
 replace HB := zv HB hb
 clear hb
 go_wp2_with (fail)
 go_loopg [3] k (fun kq v3 w' => ∃ (x3_kl17 : Int), v3 = .int .i64 x3_kl17 ∧ Aside0 (spec_WorldOk.l0 kq x3_kl17 l0_0 l0_1 l0_2 l0_3 = some r) ∧ Aside0 (kq ≤ k) ∧ Aside0 (Below w5.heap.size w5 w'))
 case atStart => exact ⟨(0), zr, ⟨H⟩, ⟨Nat.le_refl _⟩, ⟨HB⟩⟩
 case round =>
  clear H HB
  obtain ⟨x3_kl17, rfl, H, HKkl17, HB⟩ := hrel
  replace HB := HB.out
  replace H := H.out
  have HLkl17 := zz (Below.refl w5.heap.size w5)
  cases gk with
  | zero => exact absurd H (by simp [spec_WorldOk.l0])
  | succ kl17 =>
   simp only [spec_WorldOk.l0] at H
   by_cases c18 : x3_kl17 < (l0_2.length : Int)
   ·rw [if_pos c18] at H
    have c18b0 := z1 c18
    clear c18
    go_wp2_with (fail)
    try simp only [Act.put, List.setIfInBounds_toArray, List.set_cons_zero, List.set_cons_succ]
    refine wp_region_inv_lit (C := fun W_ => Below w5.heap.size w5 W_) zk zk (below_drew1 HB) ?_
    by_cases c19 : 0 ≤ x3_kl17
    case neg => exact zno H c19
    rw [if_pos c19] at H
    have c19b0 := z1 c19
    clear c19
    have p320 : 0 ≤ (x3_kl17 : Int) := z2
    have q320 : (x3_kl17 : Int) < (l0_2.length : Int) := z2
    obtain ⟨ad320, A320_1, c320_1, e320, hx320_0, hx320_1, hx320_2, hl320_1, hC320_1⟩ := at_T61 HR0_2.out x3_kl17 p320 q320
    cases e320
    replace hx320_0 := cellB hx320_0
    replace hx320_1 := cellB hx320_1
    replace hx320_2 := cellB hx320_2
    have HR320_1 := zz hC320_1
    have HC320_1 := zz hl320_1
    clear hC320_1 hl320_1
    replace p320 := eq_true p320
    replace q320 := eq_true q320
    replace H := zf H
    obtain ⟨t323, A20, H⟩ := H
    try dsimp only at H
    replace A20 := zz A20
    by_cases c21 : t323 = true
    ·subst c21
     rw [if_pos rfl] at H
     repeat (first | go_big_quiet_skip | (go_big_quiet_want; go_big_quiet_op; first | go_big_quiet_on | (with_reducible apply Exists.intro; refine ⟨fun W hW => ?_, ?_⟩; (first | with_reducible rfl | (go_at_call 34; exact callB (spec_l19Item.calls kl17 _ _ _ _ _ _ _ (Kd.C_below HR320_1.out hW) HC320_1.out A20.out) hW) | (go_simp; with_reducible rfl)); go_big_quiet_on)))
     clear HB
     refine zW fun w22 (HB : Below w5.heap.size w5 w22) => ?_
     go_wp2_with (fail)
     go_roundg kl17
     case measure => have := HKkl17.out; omega
     case rel => exact ⟨(wrap64 (x3_kl17 + 1)), zr, ⟨H⟩, ⟨by have := HKkl17.out; omega⟩, ⟨zv HLkl17.out HB⟩⟩
    replace c21 := Bool.eq_false_iff.mpr c21
    subst c21
    rw [if_neg (by decide)] at H
    obtain rfl := zi H
    repeat (first | go_big_quiet_skip | (go_big_quiet_want; go_big_quiet_op; first | go_big_quiet_on | (with_reducible apply Exists.intro; refine ⟨fun W hW => ?_, ?_⟩; (first | with_reducible rfl | (go_at_call 34; exact callB (spec_l19Item.calls kl17 _ _ _ _ _ _ _ (Kd.C_below HR320_1.out hW) HC320_1.out A20.out) hW) | (go_simp; with_reducible rfl)); go_big_quiet_on)))
    clear HB
    refine zW fun w23 (HB : Below w5.heap.size w5 w23) => ?_
    go_wp2_with (fail)
    go_ret
    exact ⟨ze, zv HW.out HB⟩
   rw [if_neg c18] at H
   have c18b0 := z0 c18
   clear c18
   go_wp2_with (fail)
   go_loopg [4] kl17 (fun kq v4 w' => ∃ (x4_kl24 : Int), v4 = .int .i64 x4_kl24 ∧ Aside0 (spec_WorldOk.l1 kq x4_kl24 l0_0 l0_1 l0_2 l0_3 = some r) ∧ Aside0 (kq ≤ kl17) ∧ Aside0 (Below w5.heap.size w5 w'))
   case atStart => exact ⟨(0), zr, ⟨H⟩, ⟨Nat.le_refl _⟩, ⟨HB⟩⟩
   case round =>
    clear H HB
    obtain ⟨x4_kl24, rfl, H, HKkl24, HB⟩ := hrel
    replace HB := HB.out
    replace H := H.out
    have HLkl24 := zz (Below.refl w5.heap.size w5)
    cases gk with
    | zero => exact absurd H (by simp [spec_WorldOk.l1])
    | succ kl24 =>
     simp only [spec_WorldOk.l1] at H
     by_cases c25 : x4_kl24 < (l0_3.length : Int)
     ·rw [if_pos c25] at H
      have c25b0 := z1 c25
      clear c25
      by_cases c26 : 0 ≤ x4_kl24
      case neg => exact zno H c26
      rw [if_pos c26] at H
      have c26b0 := z1 c26
      clear c26
      have p324 : 0 ≤ (x4_kl24 : Int) := z2
      have q324 : (x4_kl24 : Int) < (l0_3.length : Int) := z2
      obtain ⟨ad324, e324, hx324_0, hx324_1⟩ := at_T64 HR0_3.out x4_kl24 p324 q324
      cases e324
      replace hx324_0 := cellB hx324_0
      replace hx324_1 := cellB hx324_1
      replace p324 := eq_true p324
      replace q324 := eq_true q324
      replace H := zf H
      obtain ⟨t325, A27, H⟩ := H
      try dsimp only at H
      replace A27 := zz A27
      by_cases c28 : t325 = true
      case neg =>
       replace c28 := Bool.eq_false_iff.mpr c28
       subst c28
       rw [if_neg (by decide)] at H
       go_wp2_with (fail)
       refine (spec_NameOk.calls kl24 _ _ _  A27.out).mono ?_
       rintro e w34 ⟨rfl, hd⟩
       replace HB := zv HB hd.below
       clear hd
       obtain rfl := zi H
       go_wp2_with (fail)
       go_ret
       exact ⟨ze, zv HW.out HB⟩
      subst c28
      rw [if_pos rfl] at H
      go_wp2_with (fail)
      refine (spec_NameOk.calls kl24 _ _ _  A27.out).mono ?_
      rintro e w29 ⟨rfl, hd⟩
      replace HB := zv HB hd.below
      clear hd
      replace H := zf H
      obtain ⟨t327, A30, H⟩ := H
      try dsimp only at H
      replace A30 := zz A30
      by_cases c31 : t327 = true
      ·subst c31
       rw [if_pos rfl] at H
       go_wp2_with (fail)
       refine (spec_AddressOk.calls kl24 _ _ _  A30.out).mono ?_
       rintro e w32 ⟨rfl, hd⟩
       replace HB := zv HB hd.below
       clear hd
       go_wp2_with (fail)
       go_roundg kl24
       case measure => have := HKkl17.out; have := HKkl24.out; omega
       case rel => exact ⟨(wrap64 (x4_kl24 + 1)), zr, ⟨H⟩, ⟨by have := HKkl17.out; have := HKkl24.out; omega⟩, ⟨zv HLkl24.out HB⟩⟩
      replace c31 := Bool.eq_false_iff.mpr c31
      subst c31
      rw [if_neg (by decide)] at H
      go_wp2_with (fail)
      refine (spec_AddressOk.calls kl24 _ _ _  A30.out).mono ?_
      rintro e w33 ⟨rfl, hd⟩
      replace HB := zv HB hd.below
      clear hd
      obtain rfl := zi H
      go_wp2_with (fail)
      go_ret
      exact ⟨ze, zv HW.out HB⟩
     rw [if_neg c25] at H
     have c25b0 := z0 c25
     clear c25
     go_wp2_with (fail)
     go_loopg [5] kl24 (fun kq v5 w' => ∃ (x5_kl35 : Int), v5 = .int .i64 x5_kl35 ∧ Aside0 (spec_WorldOk.l2 kq x5_kl35 l0_0 l0_1 l0_2 l0_3 = some r) ∧ Aside0 (kq ≤ kl24) ∧ Aside0 (Below w5.heap.size w5 w'))
     case atStart => exact ⟨(0), zr, ⟨H⟩, ⟨Nat.le_refl _⟩, ⟨HB⟩⟩
     case round =>
      clear H HB
      obtain ⟨x5_kl35, rfl, H, HKkl35, HB⟩ := hrel
      replace HB := HB.out
      replace H := H.out
      have HLkl35 := zz (Below.refl w5.heap.size w5)
      cases gk with
      | zero => exact absurd H (by simp [spec_WorldOk.l2])
      | succ kl35 =>
       simp only [spec_WorldOk.l2] at H
       by_cases c36 : x5_kl35 < (l0_1.length : Int)
       case neg =>
        rw [if_neg c36] at H
        have c36b0 := z0 c36
        clear c36
        obtain rfl := zi H
        go_wp2_with (fail)
        go_ret
        exact ⟨ze, zv HW.out HB⟩
       rw [if_pos c36] at H
       have c36b0 := z1 c36
       clear c36
       go_wp2_with (fail)
       go_loopg [6] kl35 (fun kq v6 w' => ∃ (x6_kl37 : Int), v6 = .int .i64 x6_kl37 ∧ Aside0 (spec_WorldOk.l3 kq x5_kl35 x6_kl37 l0_0 l0_1 l0_2 l0_3 = some r) ∧ Aside0 (kq ≤ kl35) ∧ Aside0 (Below w5.heap.size w5 w'))
       case atStart => exact ⟨(0), zr, ⟨H⟩, ⟨Nat.le_refl _⟩, ⟨HB⟩⟩
       case round =>
        clear H HB
        obtain ⟨x6_kl37, rfl, H, HKkl37, HB⟩ := hrel
        replace HB := HB.out
        replace H := H.out
        have HLkl37 := zz (Below.refl w5.heap.size w5)
        cases gk with
        | zero => exact absurd H (by simp [spec_WorldOk.l3])
        | succ kl37 =>
         simp only [spec_WorldOk.l3] at H
         by_cases c38 : 0 ≤ x5_kl35
         case neg => exact zno H c38
         rw [if_pos c38] at H
         have c38b0 := z1 c38
         clear c38
         by_cases c39 : x5_kl35 < (l0_1.length : Int)
         case neg => exact zno H c39
         rw [if_pos c39] at H
         have c39b0 := z1 c39
         clear c39
         have p328 : 0 ≤ (x5_kl35 : Int) := z2
         have q328 : (x5_kl35 : Int) < (l0_1.length : Int) := z2
         obtain ⟨ad328, A328_2, c328_2, e328, hx328_0, hx328_1, hx328_2, hl328_2, hC328_2⟩ := at_T67 HR0_1.out x5_kl35 p328 q328
         cases e328
         replace hx328_0 := cellB hx328_0
         replace hx328_1 := cellB hx328_1
         replace hx328_2 := cellB hx328_2
         have HR328_2 := zz hC328_2
         have HC328_2 := zz hl328_2
         clear hC328_2 hl328_2
         replace p328 := eq_true p328
         replace q328 := eq_true q328
         by_cases c40 : x6_kl37 < (((rd_T67 l0_1 x5_kl35).f2).length : Int)
         case neg =>
          rw [if_neg c40] at H
          have c40b0 := z0 c40
          clear c40
          go_wp2_with (fail)
          go_roundg kl37
          case measure => have := HKkl17.out; have := HKkl24.out; have := HKkl35.out; have := HKkl37.out; omega
          case rel => exact ⟨(wrap64 (x5_kl35 + 1)), zr, ⟨H⟩, ⟨by have := HKkl17.out; have := HKkl24.out; have := HKkl35.out; have := HKkl37.out; omega⟩, ⟨zv HLkl35.out HB⟩⟩
         rw [if_pos c40] at H
         have c40b0 := z1 c40
         clear c40
         go_wp2_with (fail)
         try simp only [Act.put, List.setIfInBounds_toArray, List.set_cons_zero, List.set_cons_succ]
         refine wp_region_inv_lit (C := fun W_ => Below w5.heap.size w5 W_) zk zk (below_drew1 HB) ?_
         by_cases c41 : 0 ≤ x6_kl37
         case neg => exact zno H c41
         rw [if_pos c41] at H
         have c41b0 := z1 c41
         clear c41
         have p330 : 0 ≤ (x6_kl37 : Int) := z2
         have q330 : (x6_kl37 : Int) < (((rd_T67 l0_1 x5_kl35).f2).length : Int) := z2
         obtain ⟨ad330, e330, hx330_0, hx330_1⟩ := at_T70 HR328_2.out x6_kl37 p330 q330
         cases e330
         replace hx330_0 := cellB hx330_0
         replace hx330_1 := cellB hx330_1
         replace p330 := eq_true p330
         replace q330 := eq_true q330
         replace H := zf H
         obtain ⟨t331, A42, H⟩ := H
         try dsimp only at H
         replace A42 := zz A42
         by_cases c43 : t331 < 0
         ·rw [if_pos c43] at H
          have c43b0 := z1 c43
          clear c43
          obtain rfl := zi H
          repeat (first | go_big_quiet_skip | (go_big_quiet_want; go_big_quiet_op; first | go_big_quiet_on | (with_reducible apply Exists.intro; refine ⟨fun W hW => ?_, ?_⟩; (first | with_reducible rfl | (go_at_call 37; exact callD (spec_l12Find.calls kl37 _ _ _ _ _ _ (Kd.C_below HR0_0.out hW) HC0_0.out A42.out) hW) | (go_simp; with_reducible rfl)); go_big_quiet_on)))
          clear HB
          refine zW fun w44 (HB : Below w5.heap.size w5 w44) => ?_
          go_wp2_with (fail)
          go_ret
          exact ⟨ze, zv HW.out HB⟩
         rw [if_neg c43] at H
         have c43b0 := z0 c43
         clear c43
         repeat (first | go_big_quiet_skip | (go_big_quiet_want; go_big_quiet_op; first | go_big_quiet_on | (with_reducible apply Exists.intro; refine ⟨fun W hW => ?_, ?_⟩; (first | with_reducible rfl | (go_at_call 37; exact callD (spec_l12Find.calls kl37 _ _ _ _ _ _ (Kd.C_below HR0_0.out hW) HC0_0.out A42.out) hW) | (go_simp; with_reducible rfl)); go_big_quiet_on)))
         clear HB
         refine zW fun w45 (HB : Below w5.heap.size w5 w45) => ?_
         go_wp2_with (fail)
         go_roundg kl37
         case measure => have := HKkl17.out; have := HKkl24.out; have := HKkl35.out; have := HKkl37.out; omega
         case rel => exact ⟨(wrap64 (x6_kl37 + 1)), zr, ⟨H⟩, ⟨by have := HKkl17.out; have := HKkl24.out; have := HKkl35.out; have := HKkl37.out; omega⟩, ⟨zv HLkl37.out HB⟩⟩
end Go.Proofs.YtcekmnclmldmmaaGreatDoor.Q
