import Derived.Test.YtcekmnclmldmmaaGreatDoorB26
import Derived.Test.YtcekmnclmldmmaaGreatDoorB29
import Derived.Test.YtcekmnclmldmmaaGreatDoorB33
set_option linter.unusedVariables false
set_option linter.unusedSimpArgs false
namespace Go.Proofs.YtcekmnclmldmmaaGreatDoor.Q
open Go.RowKit W1 W2 W3
attribute [local go_sem] max2_int min2_int max_two min_two max_three min_three max_four min_four
attribute [local go_sem high] bl_leq bl_gtr bl_geq
set_option maxHeartbeats 8000000
set_option maxRecDepth 100000
mutual
def impl_WorldOk.l0 : Nat → List (S61) → Int → Int → List (S94) → List (S67) → List (S61) → List (S64) → Option (Bool)
 | 0, _, _, _, _, _, _, _ => none
 | k + 1, x34, x35, x36, x575000, x575001, x575002, x575003 => if x36 < x35 then (if 0 ≤ x36 then (if x36 < (x34.length : Int) then ((impl_pendingOk.f k ((rd_T61 x34 x36).f0) ((rd_T61 x34 x36).f1) ((rd_T61 x34 x36).f2)).bind fun t579 => (if t579 = true then (impl_WorldOk.l0 k x34 x35 (wrap64 (x36 + 1)) x575000 x575001 x575002 x575003) else (some false))) else (none)) else (none)) else (impl_WorldOk.l1 k x575003 (x575003.length : Int) 0 x575000 x575001 x575002 x575003)
def impl_WorldOk.l1 : Nat → List (S64) → Int → Int → List (S94) → List (S67) → List (S61) → List (S64) → Option (Bool)
 | 0, _, _, _, _, _, _, _ => none
 | k + 1, x45, x46, x47, x575000, x575001, x575002, x575003 => if x47 < x46 then (if 0 ≤ x47 then (if x47 < (x45.length : Int) then ((impl_NameOk.f k ((rd_T64 x45 x47).f0)).bind fun t582 => (if t582 = true then ((impl_AddressOk.f k ((rd_T64 x45 x47).f1)).bind fun t583 => (if t583 = true then (impl_WorldOk.l1 k x45 x46 (wrap64 (x47 + 1)) x575000 x575001 x575002 x575003) else (some false))) else (some false))) else (none)) else (none)) else (impl_WorldOk.l2 k x575001 (x575001.length : Int) 0 x575000 x575001 x575002 x575003)
def impl_WorldOk.l2 : Nat → List (S67) → Int → Int → List (S94) → List (S67) → List (S61) → List (S64) → Option (Bool)
 | 0, _, _, _, _, _, _, _ => none
 | k + 1, x63, x64, x65, x575000, x575001, x575002, x575003 => if x65 < x64 then (if 0 ≤ x65 then (if x65 < (x63.length : Int) then (impl_WorldOk.l3 k x63 x64 x65 ((rd_T67 x63 x65).f2) (((rd_T67 x63 x65).f2).length : Int) 0 x575000 x575001 x575002 x575003) else (none)) else (none)) else (some true)
def impl_WorldOk.l3 : Nat → List (S67) → Int → Int → List (S70) → Int → Int → List (S94) → List (S67) → List (S61) → List (S64) → Option (Bool)
 | 0, _, _, _, _, _, _, _, _, _, _ => none
 | k + 1, x63, x64, x65, x70, x71, x72, x575000, x575001, x575002, x575003 => if x72 < x71 then (if 0 ≤ x72 then (if x72 < (x70.length : Int) then ((impl_itemOf.f k x575000 ((rd_T70 x70 x72).f1)).bind fun t588 => (if t588 < 0 then (some false) else (impl_WorldOk.l3 k x63 x64 x65 x70 x71 (wrap64 (x72 + 1)) x575000 x575001 x575002 x575003))) else (none)) else (none)) else (impl_WorldOk.l2 k x63 x64 (wrap64 (x65 + 1)) x575000 x575001 x575002 x575003)
end
def impl_WorldOk.f (k : Nat) (l0_0 : List (S94)) (l0_1 : List (S67)) (l0_2 : List (S61)) (l0_3 : List (S64)) : Option (Bool) := (impl_StoreOk.f k l0_0).bind fun t575 => (if t575 = true then ((impl_ProfilesOk.f k l0_1).bind fun t576 => (if t576 = true then (if (l0_2.length : Int) > 20 then (some false) else (if (l0_3.length : Int) > 20 then (some false) else (impl_WorldOk.l0 k l0_2 (l0_2.length : Int) 0 l0_0 l0_1 l0_2 l0_3))) else (some false))) else (some false))
theorem impl_WorldOk.mono_l : ∀ k, (∀ y0 y1 y2 y3 y4 y5 y6, LeO (impl_WorldOk.l0 k y0 y1 y2 y3 y4 y5 y6) (impl_WorldOk.l0 (k + 1) y0 y1 y2 y3 y4 y5 y6)) ∧ (∀ y0 y1 y2 y3 y4 y5 y6, LeO (impl_WorldOk.l1 k y0 y1 y2 y3 y4 y5 y6) (impl_WorldOk.l1 (k + 1) y0 y1 y2 y3 y4 y5 y6)) ∧ (∀ y0 y1 y2 y3 y4 y5 y6, LeO (impl_WorldOk.l2 k y0 y1 y2 y3 y4 y5 y6) (impl_WorldOk.l2 (k + 1) y0 y1 y2 y3 y4 y5 y6)) ∧ (∀ y0 y1 y2 y3 y4 y5 y6 y7 y8 y9, LeO (impl_WorldOk.l3 k y0 y1 y2 y3 y4 y5 y6 y7 y8 y9) (impl_WorldOk.l3 (k + 1) y0 y1 y2 y3 y4 y5 y6 y7 y8 y9))
 | 0 => ⟨fun _ _ _ _ _ _ _ r h => by simp [impl_WorldOk.l0] at h, fun _ _ _ _ _ _ _ r h => by simp [impl_WorldOk.l1] at h, fun _ _ _ _ _ _ _ r h => by simp [impl_WorldOk.l2] at h, fun _ _ _ _ _ _ _ _ _ _ r h => by simp [impl_WorldOk.l3] at h⟩
 | k + 1 => by
  obtain ⟨ih0, ih1, ih2, ih3⟩ := impl_WorldOk.mono_l k
  refine ⟨?_, ?_, ?_, ?_⟩
  ·intro y0 y1 y2 y3 y4 y5 y6
   unfold impl_WorldOk.l0
   have m0 := @impl_AddressOk.mono
   have m1 := @impl_NameOk.mono
   have m2 := @impl_ProfilesOk.mono
   have m3 := @impl_StoreOk.mono
   have m4 := @impl_itemOf.mono
   have m5 := @impl_pendingOk.mono
   exact zM
  ·intro y0 y1 y2 y3 y4 y5 y6
   unfold impl_WorldOk.l1
   have m0 := @impl_AddressOk.mono
   have m1 := @impl_NameOk.mono
   have m2 := @impl_ProfilesOk.mono
   have m3 := @impl_StoreOk.mono
   have m4 := @impl_itemOf.mono
   have m5 := @impl_pendingOk.mono
   exact zM
  ·intro y0 y1 y2 y3 y4 y5 y6
   unfold impl_WorldOk.l2
   have m0 := @impl_AddressOk.mono
   have m1 := @impl_NameOk.mono
   have m2 := @impl_ProfilesOk.mono
   have m3 := @impl_StoreOk.mono
   have m4 := @impl_itemOf.mono
   have m5 := @impl_pendingOk.mono
   exact zM
  ·intro y0 y1 y2 y3 y4 y5 y6 y7 y8 y9
   unfold impl_WorldOk.l3
   have m0 := @impl_AddressOk.mono
   have m1 := @impl_NameOk.mono
   have m2 := @impl_ProfilesOk.mono
   have m3 := @impl_StoreOk.mono
   have m4 := @impl_itemOf.mono
   have m5 := @impl_pendingOk.mono
   exact zM
theorem impl_WorldOk.mono : ∀ a0 a1 a2 a3 k, LeO (impl_WorldOk.f k a0 a1 a2 a3) (impl_WorldOk.f (k + 1) a0 a1 a2 a3) := by
 intro a0 a1 a2 a3 k
 obtain ⟨ih0, ih1, ih2, ih3⟩ := impl_WorldOk.mono_l k
 unfold impl_WorldOk.f
 have m0 := @impl_AddressOk.mono
 have m1 := @impl_NameOk.mono
 have m2 := @impl_ProfilesOk.mono
 have m3 := @impl_StoreOk.mono
 have m4 := @impl_itemOf.mono
 have m5 := @impl_pendingOk.mono
 exact zM
theorem impl_WorldOk.calls (k : Nat) (A0_0 : Option Addr) (c0_0 : Nat) (l0_0 : List (S94)) (A0_1 : Option Addr) (c0_1 : Nat) (l0_1 : List (S67)) (A0_2 : Option Addr) (c0_2 : Nat) (l0_2 : List (S61)) (A0_3 : Option Addr) (c0_3 : Nat) (l0_3 : List (S64)) (r : Bool) (w : World) (hr0_0 : Kd.C k94 w A0_0 l0_0.length l0_0) (hc0_0 : l0_0.length ≤ c0_0) (hr0_1 : Kd.C k67 w A0_1 l0_1.length l0_1) (hc0_1 : l0_1.length ≤ c0_1) (hr0_2 : Kd.C k61 w A0_2 l0_2.length l0_2) (hc0_2 : l0_2.length ≤ c0_2) (hr0_3 : Kd.C k64 w A0_3 l0_3.length l0_3) (hc0_3 : l0_3.length ≤ c0_3) (hG_ : GOK w) (h : impl_WorldOk.f k l0_0 l0_1 l0_2 l0_3 = some r) :
 Calls Tryz.prog 10 #[.agg #[.slice A0_0 l0_0.length c0_0, .slice A0_1 l0_1.length c0_1, .slice A0_2 l0_2.length c0_2, .slice A0_3 l0_3.length c0_3]] w fun e w' => e = .returned (.bool r) ∧ Below w.heap.size w w' := by
 have hu35 := Tryz.underlying35
 have hu61 := Tryz.underlying61
 have hu64 := Tryz.underlying64
 have hu67 := Tryz.underlying67
 have hu70 := Tryz.underlying70
 have HG := zz hG_
 clear hG_
 have HR0_0 := zz hr0_0
 have HC0_0 := zz hc0_0
 clear hr0_0 hc0_0
 have HR0_1 := zz hr0_1
 have HC0_1 := zz hc0_1
 clear hr0_1 hc0_1
 have HR0_2 := zz hr0_2
 have HC0_2 := zz hc0_2
 clear hr0_2 hc0_2
 have HR0_3 := zz hr0_3
 have HC0_3 := zz hc0_3
 clear hr0_3 hc0_3
 have HB := zz (Below.refl w.heap.size w)
 unfold impl_WorldOk.f at h
 have H := h
 clear h
 replace HB := HB.out
 have HW := zz (Below.refl w.heap.size w)
 go_enter Tryz.func10, Tryz.ntmps10
 replace H := zf H
 obtain ⟨t575, A2, H⟩ := H
 try dsimp only at H
 replace A2 := zz A2
 go_wp2_with (first | (refine zN 1 ?_; (try (refine z4 ?_; dsimp only)); refine zX 1 35 #[.slice A0_0 l0_0.length c0_0, .slice A0_1 l0_1.length c0_1, .slice A0_2 l0_2.length c0_2, .slice A0_3 l0_3.length c0_3] ?_; intro gb574 hg w5 hbox hb; have hst := zv HB hb; clear hg hb HB; replace HW := zz (zv HW.out hst); replace HR0_0 := zz (Kd.C_below HR0_0.out hst); replace HR0_1 := zz (Kd.C_below HR0_1.out hst); replace HR0_2 := zz (Kd.C_below HR0_2.out hst); replace HR0_3 := zz (Kd.C_below HR0_3.out hst); obtain ⟨hbx574_0, hbx574_1, hbx574_2, hbx574_3⟩ := zx4 hbox; have HB := Below.refl w5.heap.size w5; clear hbox hst))
 refine (impl_StoreOk.calls k _ _ _ _ _ (Kd.C_below HR0_0.out HB) HC0_0.out (GOK.below HG.out (zv HW.out HB)) A2.out).mono ?_
 rintro e w6 ⟨rfl, hb⟩
 replace HB := zv HB hb
 clear hb
 by_cases c3 : t575 = true
 case neg =>
  replace c3 := Bool.eq_false_iff.mpr c3
  subst c3
  rw [if_neg (by decide)] at H
  obtain rfl := zi H
  go_wp2_with (fail)
  go_ret
  exact ⟨ze, zv HW.out HB⟩
 subst c3
 rw [if_pos rfl] at H
 replace H := zf H
 obtain ⟨t576, A7, H⟩ := H
 try dsimp only at H
 replace A7 := zz A7
 by_cases c8 : t576 = true
 case neg =>
  replace c8 := Bool.eq_false_iff.mpr c8
  subst c8
  rw [if_neg (by decide)] at H
  go_wp2_with (fail)
  refine (impl_ProfilesOk.calls k _ _ _ _ _ (Kd.C_below HR0_1.out HB) HC0_1.out A7.out).mono ?_
  rintro e w68 ⟨rfl, hb⟩
  replace HB := zv HB hb
  clear hb
  obtain rfl := zi H
  go_wp2_with (fail)
  go_ret
  exact ⟨ze, zv HW.out HB⟩
 subst c8
 rw [if_pos rfl] at H
 by_cases c9 : (l0_2.length : Int) > 20
 ·rw [if_pos c9] at H
  have c9b0 := zgt c9
  have c9b1 : decide (20 < l0_2.length) = true := z1 (by omega)
  clear c9
  go_wp2_with (fail)
  refine (impl_ProfilesOk.calls k _ _ _ _ _ (Kd.C_below HR0_1.out HB) HC0_1.out A7.out).mono ?_
  rintro e w11 ⟨rfl, hb⟩
  replace HB := zv HB hb
  clear hb
  obtain rfl := zi H
  go_wp2_with (fail)
  go_ret
  exact ⟨ze, zv HW.out HB⟩
 rw [if_neg c9] at H
 have c9b0 := zgtn c9
 have c9b1 : decide (20 < l0_2.length) = false := z0 (by omega)
 clear c9
 by_cases c12 : (l0_3.length : Int) > 20
 ·rw [if_pos c12] at H
  have c12b0 := zgt c12
  have c12b1 : decide (20 < l0_3.length) = true := z1 (by omega)
  clear c12
  go_wp2_with (fail)
  refine (impl_ProfilesOk.calls k _ _ _ _ _ (Kd.C_below HR0_1.out HB) HC0_1.out A7.out).mono ?_
  rintro e w14 ⟨rfl, hb⟩
  replace HB := zv HB hb
  clear hb
  obtain rfl := zi H
  go_wp2_with (fail)
  go_ret
  exact ⟨ze, zv HW.out HB⟩
 rw [if_neg c12] at H
 have c12b0 := zgtn c12
 have c12b1 : decide (20 < l0_3.length) = false := z0 (by omega)
 clear c12
 go_wp2_with (fail)
 refine (impl_ProfilesOk.calls k _ _ _ _ _ (Kd.C_below HR0_1.out HB) HC0_1.out A7.out).mono ?_
 rintro e w16 ⟨rfl, hb⟩
 replace HB := zv HB hb
 clear hb
 go_wp2_with (fail)
 go_loopg [36] k (fun kq v36 w' => ∃ (x36_kl17 : Int), v36 = .int .i64 x36_kl17 ∧ Aside0 (impl_WorldOk.l0 kq l0_2 (l0_2.length : Int) x36_kl17 l0_0 l0_1 l0_2 l0_3 = some r) ∧ Aside0 (kq ≤ k) ∧ Aside0 (Below w5.heap.size w5 w'))
 case atStart => exact ⟨(0), zr, ⟨H⟩, ⟨Nat.le_refl _⟩, ⟨HB⟩⟩
 case round =>
  clear H HB
  obtain ⟨x36_kl17, rfl, H, HKkl17, HB⟩ := hrel
  replace HB := HB.out
  replace H := H.out
  have HLkl17 := zz (Below.refl w5.heap.size w5)
  cases gk with
  | zero => exact absurd H (by simp [impl_WorldOk.l0])
  | succ kl17 =>
   simp only [impl_WorldOk.l0] at H
   by_cases c18 : x36_kl17 < (l0_2.length : Int)
   ·rw [if_pos c18] at H
    have c18b0 := z1 c18
    clear c18
    by_cases c19 : 0 ≤ x36_kl17
    case neg => exact zno H c19
    rw [if_pos c19] at H
    have c19b0 := z1 c19
    clear c19
    by_cases c20 : x36_kl17 < (l0_2.length : Int)
    case neg => exact zno H c20
    rw [if_pos c20] at H
    have c20b0 := z1 c20
    clear c20
    have p577 : 0 ≤ (x36_kl17 : Int) := z2
    have q577 : (x36_kl17 : Int) < (l0_2.length : Int) := z2
    obtain ⟨ad577, A577_1, c577_1, e577, hx577_0, hx577_1, hx577_2, hl577_1, hC577_1⟩ := at_T61 HR0_2.out x36_kl17 p577 q577
    cases e577
    replace hx577_0 := cellB hx577_0
    replace hx577_1 := cellB hx577_1
    replace hx577_2 := cellB hx577_2
    have HR577_1 := zz hC577_1
    have HC577_1 := zz hl577_1
    clear hC577_1 hl577_1
    replace p577 := eq_true p577
    replace q577 := eq_true q577
    replace H := zf H
    obtain ⟨t579, A21, H⟩ := H
    try dsimp only at H
    replace A21 := zz A21
    go_wp2_with (first | (refine zN 4 ?_; (try (refine z4 ?_; dsimp only)); refine zX 4 61 #[.string (⟨#[]⟩ : ByteArray), .slice none 0 0, .string (⟨#[]⟩ : ByteArray)] ?_; intro gb578 hg w24 hbox hb; have hge : w5.heap.size ≤ gb578 := (by rw [hg]; exact below_size HB); clear hg; have hst : Below w5.heap.size w5 (((w24.setCell ⟨gb578, 0, none⟩ (.string ((rd_T61 l0_2 x36_kl17).f0))).setCell ⟨gb578, 1, none⟩ (.slice A577_1 ((rd_T61 l0_2 x36_kl17).f1).length c577_1)).setCell ⟨gb578, 2, none⟩ (.string ((rd_T61 l0_2 x36_kl17).f2))) := (below_set (below_set (below_set (zv HB hb) hge) hge) hge); have hbx : (((w24.setCell ⟨gb578, 0, none⟩ (.string ((rd_T61 l0_2 x36_kl17).f0))).setCell ⟨gb578, 1, none⟩ (.slice A577_1 ((rd_T61 l0_2 x36_kl17).f1).length c577_1)).setCell ⟨gb578, 2, none⟩ (.string ((rd_T61 l0_2 x36_kl17).f2))).heap[gb578]? = some (.cells #[.string ((rd_T61 l0_2 x36_kl17).f0), .slice A577_1 ((rd_T61 l0_2 x36_kl17).f1).length c577_1, .string ((rd_T61 l0_2 x36_kl17).f2)] 61 (0, 0)) := (blk_put (cs := #[.string ((rd_T61 l0_2 x36_kl17).f0), .slice A577_1 ((rd_T61 l0_2 x36_kl17).f1).length c577_1, .string (⟨#[]⟩ : ByteArray)]) (blk_put (cs := #[.string ((rd_T61 l0_2 x36_kl17).f0), .slice none 0 0, .string (⟨#[]⟩ : ByteArray)]) (blk_put (cs := #[.string (⟨#[]⟩ : ByteArray), .slice none 0 0, .string (⟨#[]⟩ : ByteArray)]) hbox 0 _ rfl) 1 _ rfl) 2 _ rfl); obtain ⟨hs578_0, hs578_1, hs578_2, hf578_0, hf578_1, hf578_2⟩ := zc3 hbox) | ((with_reducible refine gate_store (t := 61) (p := 4) rfl ?_); (try (refine z4 ?_; dsimp only)); refine store_event (t := 61) (p := 4) (v := ?vo_w25) (w1 := (((w24.setCell ⟨gb578, 0, none⟩ (.string ((rd_T61 l0_2 x36_kl17).f0))).setCell ⟨gb578, 1, none⟩ (.slice A577_1 ((rd_T61 l0_2 x36_kl17).f1).length c577_1)).setCell ⟨gb578, 2, none⟩ (.string ((rd_T61 l0_2 x36_kl17).f2)))) ?hg ?ho ?hn ?hr ?_; (case ho => rfl); (case hg => rfl); (case hn => rfl); (case hr => first | (go_simp; done) | (go_simp; rfl)); intro w25 hw; replace hst := hst; rw [← hw] at hst hbx; clear hw hb hbox hge HB hs578_0 hf578_0 hs578_1 hf578_1 hs578_2 hf578_2; replace HW := zz (zv HW.out hst); replace HLkl17 := zz (zv HLkl17.out hst); replace HR0_0 := zz (Kd.C_below HR0_0.out hst); replace HR0_1 := zz (Kd.C_below HR0_1.out hst); replace HR0_2 := zz (Kd.C_below HR0_2.out hst); replace HR0_3 := zz (Kd.C_below HR0_3.out hst); replace HR577_1 := zz (Kd.C_below HR577_1.out hst); replace hbx574_0 := rebase hbx574_0 hst; replace hbx574_1 := rebase hbx574_1 hst; replace hbx574_2 := rebase hbx574_2 hst; replace hbx574_3 := rebase hbx574_3 hst; replace hx577_0 := rebase hx577_0 hst; replace hx577_1 := rebase hx577_1 hst; replace hx577_2 := rebase hx577_2 hst; obtain ⟨hbx578_0, hbx578_1, hbx578_2⟩ := zx3 hbx; have HB := Below.refl w25.heap.size w25; clear hbx hst))
    refine (impl_pendingOk.calls kl17 _ _ _ _ _ _ _ (Kd.C_below HR577_1.out HB) HC577_1.out (GOK.below HG.out (zv HW.out HB)) A21.out).mono ?_
    rintro e w26 ⟨rfl, hb⟩
    replace HB := zv HB hb
    clear hb
    by_cases c22 : t579 = true
    ·subst c22
     rw [if_pos rfl] at H
     go_wp2_with (fail)
     go_roundg kl17
     case measure => have := HKkl17.out; omega
     case rel => exact ⟨(wrap64 (x36_kl17 + 1)), zr, ⟨H⟩, ⟨by have := HKkl17.out; omega⟩, ⟨zv HLkl17.out HB⟩⟩
    replace c22 := Bool.eq_false_iff.mpr c22
    subst c22
    rw [if_neg (by decide)] at H
    obtain rfl := zi H
    go_wp2_with (fail)
    go_ret
    exact ⟨ze, zv HW.out HB⟩
   rw [if_neg c18] at H
   have c18b0 := z0 c18
   clear c18
   go_wp2_with (fail)
   go_loopg [47] kl17 (fun kq v47 w' => ∃ (x47_kl31 : Int), v47 = .int .i64 x47_kl31 ∧ Aside0 (impl_WorldOk.l1 kq l0_3 (l0_3.length : Int) x47_kl31 l0_0 l0_1 l0_2 l0_3 = some r) ∧ Aside0 (kq ≤ kl17) ∧ Aside0 (Below w5.heap.size w5 w'))
   case atStart => exact ⟨(0), zr, ⟨H⟩, ⟨Nat.le_refl _⟩, ⟨HB⟩⟩
   case round =>
    clear H HB
    obtain ⟨x47_kl31, rfl, H, HKkl31, HB⟩ := hrel
    replace HB := HB.out
    replace H := H.out
    have HLkl31 := zz (Below.refl w5.heap.size w5)
    cases gk with
    | zero => exact absurd H (by simp [impl_WorldOk.l1])
    | succ kl31 =>
     simp only [impl_WorldOk.l1] at H
     by_cases c32 : x47_kl31 < (l0_3.length : Int)
     ·rw [if_pos c32] at H
      have c32b0 := z1 c32
      clear c32
      by_cases c33 : 0 ≤ x47_kl31
      case neg => exact zno H c33
      rw [if_pos c33] at H
      have c33b0 := z1 c33
      clear c33
      by_cases c34 : x47_kl31 < (l0_3.length : Int)
      case neg => exact zno H c34
      rw [if_pos c34] at H
      have c34b0 := z1 c34
      clear c34
      have p580 : 0 ≤ (x47_kl31 : Int) := z2
      have q580 : (x47_kl31 : Int) < (l0_3.length : Int) := z2
      obtain ⟨ad580, e580, hx580_0, hx580_1⟩ := at_T64 HR0_3.out x47_kl31 p580 q580
      cases e580
      replace hx580_0 := cellB hx580_0
      replace hx580_1 := cellB hx580_1
      replace p580 := eq_true p580
      replace q580 := eq_true q580
      replace H := zf H
      obtain ⟨t582, A35, H⟩ := H
      try dsimp only at H
      replace A35 := zz A35
      go_wp2_with (first | (refine zN 6 ?_; (try (refine z4 ?_; dsimp only)); refine zX 6 64 #[.string (⟨#[]⟩ : ByteArray), .string (⟨#[]⟩ : ByteArray)] ?_; intro gb581 hg w37 hbox hb; have hge : w5.heap.size ≤ gb581 := (by rw [hg]; exact below_size HB); clear hg; have hst : Below w5.heap.size w5 ((w37.setCell ⟨gb581, 0, none⟩ (.string ((rd_T64 l0_3 x47_kl31).f0))).setCell ⟨gb581, 1, none⟩ (.string ((rd_T64 l0_3 x47_kl31).f1))) := (below_set (below_set (zv HB hb) hge) hge); have hbx : ((w37.setCell ⟨gb581, 0, none⟩ (.string ((rd_T64 l0_3 x47_kl31).f0))).setCell ⟨gb581, 1, none⟩ (.string ((rd_T64 l0_3 x47_kl31).f1))).heap[gb581]? = some (.cells #[.string ((rd_T64 l0_3 x47_kl31).f0), .string ((rd_T64 l0_3 x47_kl31).f1)] 64 (0, 0)) := (blk_put (cs := #[.string ((rd_T64 l0_3 x47_kl31).f0), .string (⟨#[]⟩ : ByteArray)]) (blk_put (cs := #[.string (⟨#[]⟩ : ByteArray), .string (⟨#[]⟩ : ByteArray)]) hbox 0 _ rfl) 1 _ rfl); obtain ⟨hs581_0, hs581_1, hf581_0, hf581_1⟩ := zc2 hbox) | ((with_reducible refine gate_store (t := 64) (p := 6) rfl ?_); (try (refine z4 ?_; dsimp only)); refine store_event (t := 64) (p := 6) (v := ?vo_w38) (w1 := ((w37.setCell ⟨gb581, 0, none⟩ (.string ((rd_T64 l0_3 x47_kl31).f0))).setCell ⟨gb581, 1, none⟩ (.string ((rd_T64 l0_3 x47_kl31).f1)))) ?hg ?ho ?hn ?hr ?_; (case ho => rfl); (case hg => rfl); (case hn => rfl); (case hr => first | (go_simp; done) | (go_simp; rfl)); intro w38 hw; replace hst := hst; rw [← hw] at hst hbx; clear hw hb hbox hge HB hs581_0 hf581_0 hs581_1 hf581_1; replace HW := zz (zv HW.out hst); replace HLkl17 := zz (zv HLkl17.out hst); replace HLkl31 := zz (zv HLkl31.out hst); replace HR0_0 := zz (Kd.C_below HR0_0.out hst); replace HR0_1 := zz (Kd.C_below HR0_1.out hst); replace HR0_2 := zz (Kd.C_below HR0_2.out hst); replace HR0_3 := zz (Kd.C_below HR0_3.out hst); replace hbx574_0 := rebase hbx574_0 hst; replace hbx574_1 := rebase hbx574_1 hst; replace hbx574_2 := rebase hbx574_2 hst; replace hbx574_3 := rebase hbx574_3 hst; replace hx580_0 := rebase hx580_0 hst; replace hx580_1 := rebase hx580_1 hst; obtain ⟨hbx581_0, hbx581_1⟩ := zx2 hbx; have HB := Below.refl w38.heap.size w38; clear hbx hst))
      refine (impl_NameOk.calls kl31 _ _ _  A35.out).mono ?_
      rintro e w39 ⟨rfl, hd⟩
      replace HB := zv HB hd.below
      clear hd
      by_cases c36 : t582 = true
      case neg =>
       replace c36 := Bool.eq_false_iff.mpr c36
       subst c36
       rw [if_neg (by decide)] at H
       obtain rfl := zi H
       go_wp2_with (fail)
       go_ret
       exact ⟨ze, zv HW.out HB⟩
      subst c36
      rw [if_pos rfl] at H
      replace H := zf H
      obtain ⟨t583, A40, H⟩ := H
      try dsimp only at H
      replace A40 := zz A40
      by_cases c41 : t583 = true
      ·subst c41
       rw [if_pos rfl] at H
       go_wp2_with (fail)
       refine (impl_AddressOk.calls kl31 _ _ _  A40.out).mono ?_
       rintro e w42 ⟨rfl, hd⟩
       replace HB := zv HB hd.below
       clear hd
       go_wp2_with (fail)
       go_roundg kl31
       case measure => have := HKkl17.out; have := HKkl31.out; omega
       case rel => exact ⟨(wrap64 (x47_kl31 + 1)), zr, ⟨H⟩, ⟨by have := HKkl17.out; have := HKkl31.out; omega⟩, ⟨zv HLkl31.out HB⟩⟩
      replace c41 := Bool.eq_false_iff.mpr c41
      subst c41
      rw [if_neg (by decide)] at H
      go_wp2_with (fail)
      refine (impl_AddressOk.calls kl31 _ _ _  A40.out).mono ?_
      rintro e w43 ⟨rfl, hd⟩
      replace HB := zv HB hd.below
      clear hd
      obtain rfl := zi H
      go_wp2_with (fail)
      go_ret
      exact ⟨ze, zv HW.out HB⟩
     rw [if_neg c32] at H
     have c32b0 := z0 c32
     clear c32
     go_wp2_with (fail)
     go_loopg [65] kl31 (fun kq v65 w' => ∃ (x65_kl47 : Int), v65 = .int .i64 x65_kl47 ∧ Aside0 (impl_WorldOk.l2 kq l0_1 (l0_1.length : Int) x65_kl47 l0_0 l0_1 l0_2 l0_3 = some r) ∧ Aside0 (kq ≤ kl31) ∧ Aside0 (Below w5.heap.size w5 w'))
     case atStart => exact ⟨(0), zr, ⟨H⟩, ⟨Nat.le_refl _⟩, ⟨HB⟩⟩
     case round =>
      clear H HB
      obtain ⟨x65_kl47, rfl, H, HKkl47, HB⟩ := hrel
      replace HB := HB.out
      replace H := H.out
      have HLkl47 := zz (Below.refl w5.heap.size w5)
      cases gk with
      | zero => exact absurd H (by simp [impl_WorldOk.l2])
      | succ kl47 =>
       simp only [impl_WorldOk.l2] at H
       by_cases c48 : x65_kl47 < (l0_1.length : Int)
       case neg =>
        rw [if_neg c48] at H
        have c48b0 := z0 c48
        clear c48
        obtain rfl := zi H
        go_wp2_with (fail)
        go_ret
        exact ⟨ze, zv HW.out HB⟩
       rw [if_pos c48] at H
       have c48b0 := z1 c48
       clear c48
       by_cases c49 : 0 ≤ x65_kl47
       case neg => exact zno H c49
       rw [if_pos c49] at H
       have c49b0 := z1 c49
       clear c49
       by_cases c50 : x65_kl47 < (l0_1.length : Int)
       case neg => exact zno H c50
       rw [if_pos c50] at H
       have c50b0 := z1 c50
       clear c50
       have p584 : 0 ≤ (x65_kl47 : Int) := z2
       have q584 : (x65_kl47 : Int) < (l0_1.length : Int) := z2
       obtain ⟨ad584, A584_2, c584_2, e584, hx584_0, hx584_1, hx584_2, hl584_2, hC584_2⟩ := at_T67 HR0_1.out x65_kl47 p584 q584
       cases e584
       replace hx584_0 := cellB hx584_0
       replace hx584_1 := cellB hx584_1
       replace hx584_2 := cellB hx584_2
       have HR584_2 := zz hC584_2
       have HC584_2 := zz hl584_2
       clear hC584_2 hl584_2
       replace p584 := eq_true p584
       replace q584 := eq_true q584
       go_wp2_with (first | (refine zN 8 ?_; (try (refine z4 ?_; dsimp only)); refine zX 8 67 #[.string (⟨#[]⟩ : ByteArray), .int .i64 0, .slice none 0 0] ?_; intro gb585 hg w52 hbox hb; have hge : w5.heap.size ≤ gb585 := (by rw [hg]; exact below_size HB); clear hg; have hst : Below w5.heap.size w5 (((w52.setCell ⟨gb585, 0, none⟩ (.string ((rd_T67 l0_1 x65_kl47).f0))).setCell ⟨gb585, 1, none⟩ (.int .i64 ((rd_T67 l0_1 x65_kl47).f1))).setCell ⟨gb585, 2, none⟩ (.slice A584_2 ((rd_T67 l0_1 x65_kl47).f2).length c584_2)) := (below_set (below_set (below_set (zv HB hb) hge) hge) hge); have hbx : (((w52.setCell ⟨gb585, 0, none⟩ (.string ((rd_T67 l0_1 x65_kl47).f0))).setCell ⟨gb585, 1, none⟩ (.int .i64 ((rd_T67 l0_1 x65_kl47).f1))).setCell ⟨gb585, 2, none⟩ (.slice A584_2 ((rd_T67 l0_1 x65_kl47).f2).length c584_2)).heap[gb585]? = some (.cells #[.string ((rd_T67 l0_1 x65_kl47).f0), .int .i64 ((rd_T67 l0_1 x65_kl47).f1), .slice A584_2 ((rd_T67 l0_1 x65_kl47).f2).length c584_2] 67 (0, 0)) := (blk_put (cs := #[.string ((rd_T67 l0_1 x65_kl47).f0), .int .i64 ((rd_T67 l0_1 x65_kl47).f1), .slice none 0 0]) (blk_put (cs := #[.string ((rd_T67 l0_1 x65_kl47).f0), .int .i64 0, .slice none 0 0]) (blk_put (cs := #[.string (⟨#[]⟩ : ByteArray), .int .i64 0, .slice none 0 0]) hbox 0 _ rfl) 1 _ rfl) 2 _ rfl); obtain ⟨hs585_0, hs585_1, hs585_2, hf585_0, hf585_1, hf585_2⟩ := zc3 hbox) | ((with_reducible refine gate_store (t := 67) (p := 8) rfl ?_); (try (refine z4 ?_; dsimp only)); refine store_event (t := 67) (p := 8) (v := ?vo_w53) (w1 := (((w52.setCell ⟨gb585, 0, none⟩ (.string ((rd_T67 l0_1 x65_kl47).f0))).setCell ⟨gb585, 1, none⟩ (.int .i64 ((rd_T67 l0_1 x65_kl47).f1))).setCell ⟨gb585, 2, none⟩ (.slice A584_2 ((rd_T67 l0_1 x65_kl47).f2).length c584_2))) ?hg ?ho ?hn ?hr ?_; (case ho => rfl); (case hg => rfl); (case hn => rfl); (case hr => first | (go_simp; done) | (go_simp; rfl)); intro w53 hw; replace hst := hst; rw [← hw] at hst hbx; clear hw hb hbox hge HB hs585_0 hf585_0 hs585_1 hf585_1 hs585_2 hf585_2; replace HW := zz (zv HW.out hst); replace HLkl17 := zz (zv HLkl17.out hst); replace HLkl31 := zz (zv HLkl31.out hst); replace HLkl47 := zz (zv HLkl47.out hst); replace HR0_0 := zz (Kd.C_below HR0_0.out hst); replace HR0_1 := zz (Kd.C_below HR0_1.out hst); replace HR0_2 := zz (Kd.C_below HR0_2.out hst); replace HR0_3 := zz (Kd.C_below HR0_3.out hst); replace HR584_2 := zz (Kd.C_below HR584_2.out hst); replace hbx574_0 := rebase hbx574_0 hst; replace hbx574_1 := rebase hbx574_1 hst; replace hbx574_2 := rebase hbx574_2 hst; replace hbx574_3 := rebase hbx574_3 hst; replace hx584_0 := rebase hx584_0 hst; replace hx584_1 := rebase hx584_1 hst; replace hx584_2 := rebase hx584_2 hst; obtain ⟨hbx585_0, hbx585_1, hbx585_2⟩ := zx3 hbx; have HB := Below.refl w53.heap.size w53; clear hbx hst))
       go_loopg [72] kl47 (fun kq v72 w' => ∃ (x72_kl51 : Int), v72 = .int .i64 x72_kl51 ∧ Aside0 (impl_WorldOk.l3 kq l0_1 (l0_1.length : Int) x65_kl47 ((rd_T67 l0_1 x65_kl47).f2) (((rd_T67 l0_1 x65_kl47).f2).length : Int) x72_kl51 l0_0 l0_1 l0_2 l0_3 = some r) ∧ Aside0 (kq ≤ kl47) ∧ Aside0 (Below w53.heap.size w53 w'))
       case atStart => exact ⟨(0), zr, ⟨H⟩, ⟨Nat.le_refl _⟩, ⟨HB⟩⟩
       case round =>
        clear H HB
        obtain ⟨x72_kl51, rfl, H, HKkl51, HB⟩ := hrel
        replace HB := HB.out
        replace H := H.out
        have HLkl51 := zz (Below.refl w53.heap.size w53)
        cases gk with
        | zero => exact absurd H (by simp [impl_WorldOk.l3])
        | succ kl51 =>
         simp only [impl_WorldOk.l3] at H
         by_cases c54 : x72_kl51 < (((rd_T67 l0_1 x65_kl47).f2).length : Int)
         case neg =>
          rw [if_neg c54] at H
          have c54b0 := z0 c54
          clear c54
          go_wp2_with (fail)
          go_roundg kl51
          case measure => have := HKkl17.out; have := HKkl31.out; have := HKkl47.out; have := HKkl51.out; omega
          case rel => exact ⟨(wrap64 (x65_kl47 + 1)), zr, ⟨H⟩, ⟨by have := HKkl17.out; have := HKkl31.out; have := HKkl47.out; have := HKkl51.out; omega⟩, ⟨zv HLkl47.out HB⟩⟩
         rw [if_pos c54] at H
         have c54b0 := z1 c54
         clear c54
         by_cases c55 : 0 ≤ x72_kl51
         case neg => exact zno H c55
         rw [if_pos c55] at H
         have c55b0 := z1 c55
         clear c55
         by_cases c56 : x72_kl51 < (((rd_T67 l0_1 x65_kl47).f2).length : Int)
         case neg => exact zno H c56
         rw [if_pos c56] at H
         have c56b0 := z1 c56
         clear c56
         have p586 : 0 ≤ (x72_kl51 : Int) := z2
         have q586 : (x72_kl51 : Int) < (((rd_T67 l0_1 x65_kl47).f2).length : Int) := z2
         obtain ⟨ad586, e586, hx586_0, hx586_1⟩ := at_T70 HR584_2.out x72_kl51 p586 q586
         cases e586
         replace hx586_0 := cellB hx586_0
         replace hx586_1 := cellB hx586_1
         replace p586 := eq_true p586
         replace q586 := eq_true q586
         replace H := zf H
         obtain ⟨t588, A57, H⟩ := H
         try dsimp only at H
         replace A57 := zz A57
         go_wp2_with (first | (refine zN 10 ?_; (try (refine z4 ?_; dsimp only)); refine zX 10 70 #[.int .i64 0, .string (⟨#[]⟩ : ByteArray)] ?_; intro gb587 hg w60 hbox hb; have hge : w53.heap.size ≤ gb587 := (by rw [hg]; exact below_size HB); clear hg; have hst : Below w53.heap.size w53 ((w60.setCell ⟨gb587, 0, none⟩ (.int .i64 ((rd_T70 ((rd_T67 l0_1 x65_kl47).f2) x72_kl51).f0))).setCell ⟨gb587, 1, none⟩ (.string ((rd_T70 ((rd_T67 l0_1 x65_kl47).f2) x72_kl51).f1))) := (below_set (below_set (zv HB hb) hge) hge); have hbx : ((w60.setCell ⟨gb587, 0, none⟩ (.int .i64 ((rd_T70 ((rd_T67 l0_1 x65_kl47).f2) x72_kl51).f0))).setCell ⟨gb587, 1, none⟩ (.string ((rd_T70 ((rd_T67 l0_1 x65_kl47).f2) x72_kl51).f1))).heap[gb587]? = some (.cells #[.int .i64 ((rd_T70 ((rd_T67 l0_1 x65_kl47).f2) x72_kl51).f0), .string ((rd_T70 ((rd_T67 l0_1 x65_kl47).f2) x72_kl51).f1)] 70 (0, 0)) := (blk_put (cs := #[.int .i64 ((rd_T70 ((rd_T67 l0_1 x65_kl47).f2) x72_kl51).f0), .string (⟨#[]⟩ : ByteArray)]) (blk_put (cs := #[.int .i64 0, .string (⟨#[]⟩ : ByteArray)]) hbox 0 _ rfl) 1 _ rfl); obtain ⟨hs587_0, hs587_1, hf587_0, hf587_1⟩ := zc2 hbox) | ((with_reducible refine gate_store (t := 70) (p := 10) rfl ?_); (try (refine z4 ?_; dsimp only)); refine store_event (t := 70) (p := 10) (v := ?vo_w61) (w1 := ((w60.setCell ⟨gb587, 0, none⟩ (.int .i64 ((rd_T70 ((rd_T67 l0_1 x65_kl47).f2) x72_kl51).f0))).setCell ⟨gb587, 1, none⟩ (.string ((rd_T70 ((rd_T67 l0_1 x65_kl47).f2) x72_kl51).f1)))) ?hg ?ho ?hn ?hr ?_; (case ho => rfl); (case hg => rfl); (case hn => rfl); (case hr => first | (go_simp; done) | (go_simp; rfl)); intro w61 hw; replace hst := hst; rw [← hw] at hst hbx; clear hw hb hbox hge HB hs587_0 hf587_0 hs587_1 hf587_1; replace HW := zz (zv HW.out hst); replace HLkl17 := zz (zv HLkl17.out hst); replace HLkl31 := zz (zv HLkl31.out hst); replace HLkl47 := zz (zv HLkl47.out hst); replace HLkl51 := zz (zv HLkl51.out hst); replace HR0_0 := zz (Kd.C_below HR0_0.out hst); replace HR0_1 := zz (Kd.C_below HR0_1.out hst); replace HR0_2 := zz (Kd.C_below HR0_2.out hst); replace HR0_3 := zz (Kd.C_below HR0_3.out hst); replace HR584_2 := zz (Kd.C_below HR584_2.out hst); replace hbx574_0 := rebase hbx574_0 hst; replace hbx574_1 := rebase hbx574_1 hst; replace hbx574_2 := rebase hbx574_2 hst; replace hbx574_3 := rebase hbx574_3 hst; replace hx584_0 := rebase hx584_0 hst; replace hx584_1 := rebase hx584_1 hst; replace hx584_2 := rebase hx584_2 hst; replace hbx585_0 := rebase hbx585_0 hst; replace hbx585_1 := rebase hbx585_1 hst; replace hbx585_2 := rebase hbx585_2 hst; replace hx586_0 := rebase hx586_0 hst; replace hx586_1 := rebase hx586_1 hst; obtain ⟨hbx587_0, hbx587_1⟩ := zx2 hbx; have HB := Below.refl w61.heap.size w61; clear hbx hst))
         refine (impl_itemOf.calls kl51 _ _ _ _ _ _ (Kd.C_below HR0_0.out HB) HC0_0.out A57.out).mono ?_
         rintro e w62 ⟨rfl, hb⟩
         replace HB := zv HB hb
         clear hb
         by_cases c58 : t588 < 0
         ·rw [if_pos c58] at H
          have c58b0 := z1 c58
          clear c58
          obtain rfl := zi H
          go_wp2_with (fail)
          go_ret
          exact ⟨ze, zv HW.out HB⟩
         rw [if_neg c58] at H
         have c58b0 := z0 c58
         clear c58
         go_wp2_with (fail)
         go_roundg kl51
         case measure => have := HKkl17.out; have := HKkl31.out; have := HKkl47.out; have := HKkl51.out; omega
         case rel => exact ⟨(wrap64 (x72_kl51 + 1)), zr, ⟨H⟩, ⟨by have := HKkl17.out; have := HKkl31.out; have := HKkl47.out; have := HKkl51.out; omega⟩, ⟨zv HLkl51.out HB⟩⟩
def spec_l19Item.f (k : Nat) (a0 : ByteArray) (l1 : List (S96)) (a2 : ByteArray) : Option (Bool) := (spec_AddressOk.f k a0).bind fun t313 => (if t313 = true then ((spec_TreeOk.f k l1).bind fun t314 => (if t314 = true then (if a2.toList = ([] : List UInt8) then (some true) else ((spec_AddressOk.f k a2).bind fun t315 => (some t315))) else (some false))) else (some false))
theorem spec_l19Item.mono : ∀ a0 a1 a2 k, LeO (spec_l19Item.f k a0 a1 a2) (spec_l19Item.f (k + 1) a0 a1 a2) := by
 intro a0 a1 a2 k
 unfold spec_l19Item.f
 have m0 := @spec_AddressOk.mono
 have m1 := @spec_TreeOk.mono
 exact zM
theorem spec_l19Item.calls (k : Nat) (a0 : ByteArray) (A1 : Option Addr) (c1 : Nat) (l1 : List (S96)) (a2 : ByteArray) (r : Bool) (w : World) (hr1 : Kd.C k96 w A1 l1.length l1) (hc1 : l1.length ≤ c1) (h : spec_l19Item.f k a0 l1 a2 = some r) :
 Calls Tryz.prog 34 #[.string a0, .slice A1 l1.length c1, .string a2] w fun e w' => e = .returned (.bool r) ∧ Below w.heap.size w w' := by
 have HR1 := zz hr1
 have HC1 := zz hc1
 clear hr1 hc1
 have HB := zz (Below.refl w.heap.size w)
 unfold spec_l19Item.f at h
 have H := h
 clear h
 replace HB := HB.out
 have HW := zz (Below.refl w.heap.size w)
 go_enter Tryz.func34, Tryz.ntmps34
 replace H := zf H
 obtain ⟨t313, A4, H⟩ := H
 try dsimp only at H
 replace A4 := zz A4
 by_cases c5 : t313 = true
 case neg =>
  replace c5 := Bool.eq_false_iff.mpr c5
  subst c5
  rw [if_neg (by decide)] at H
  go_wp2_with (fail)
  refine (spec_AddressOk.calls k _ _ _  A4.out).mono ?_
  rintro e w18 ⟨rfl, hd⟩
  replace HB := zv HB hd.below
  clear hd
  obtain rfl := zi H
  go_wp2_with (fail)
  go_ret
  exact ⟨ze, zv HW.out HB⟩
 subst c5
 rw [if_pos rfl] at H
 go_wp2_with (fail)
 refine (spec_AddressOk.calls k _ _ _  A4.out).mono ?_
 rintro e w6 ⟨rfl, hd⟩
 replace HB := zv HB hd.below
 clear hd
 replace H := zf H
 obtain ⟨t314, A7, H⟩ := H
 try dsimp only at H
 replace A7 := zz A7
 by_cases c8 : t314 = true
 case neg =>
  replace c8 := Bool.eq_false_iff.mpr c8
  subst c8
  rw [if_neg (by decide)] at H
  go_wp2_with (fail)
  refine (spec_TreeOk.calls k _ _ _ _ _ (Kd.C_below HR1.out HB) HC1.out A7.out).mono ?_
  rintro e w17 ⟨rfl, hb⟩
  replace HB := zv HB hb
  clear hb
  obtain rfl := zi H
  go_wp2_with (fail)
  go_ret
  exact ⟨ze, zv HW.out HB⟩
 subst c8
 rw [if_pos rfl] at H
 by_cases c9 : a2.toList = ([] : List UInt8)
 ·rw [if_pos c9] at H
  obtain ⟨c9b0, c9b1⟩ := zq c9
  clear c9
  go_wp2_with (fail)
  refine (spec_TreeOk.calls k _ _ _ _ _ (Kd.C_below HR1.out HB) HC1.out A7.out).mono ?_
  rintro e w11 ⟨rfl, hb⟩
  replace HB := zv HB hb
  clear hb
  obtain rfl := zi H
  go_wp2_with (fail)
  go_ret
  exact ⟨ze, zv HW.out HB⟩
 rw [if_neg c9] at H
 obtain ⟨c9b0, c9b1⟩ := zw c9
 go_wp2_with (fail)
 refine (spec_TreeOk.calls k _ _ _ _ _ (Kd.C_below HR1.out HB) HC1.out A7.out).mono ?_
 rintro e w13 ⟨rfl, hb⟩
 replace HB := zv HB hb
 clear hb
 replace H := zf H
 obtain ⟨t315, A14, H⟩ := H
 try dsimp only at H
 replace A14 := zz A14
 go_wp2_with (fail)
 refine (spec_AddressOk.calls k _ _ _  A14.out).mono ?_
 rintro e w15 ⟨rfl, hd⟩
 replace HB := zv HB hd.below
 clear hd
 obtain rfl := zi H
 go_wp2_with (fail)
 go_ret
 exact ⟨ze, zv HW.out HB⟩
def spec_l12Find.l0 : Nat → List (S94) → ByteArray → Int → Option (Int)
 | 0, _, _, _ => none
 | k + 1, x0, x1, x5 => if x5 < (x0.length : Int) then (if 0 ≤ x5 then (if ((rd_T94 x0 x5).f0).toList = x1.toList then (some x5) else (spec_l12Find.l0 k x0 x1 (wrap64 (x5 + 1)))) else (none)) else (some (-1))
def spec_l12Find.f (k : Nat) (l0 : List (S94)) (a1 : ByteArray) : Option (Int) := spec_l12Find.l0 k l0 a1 0
theorem spec_l12Find.mono_l : ∀ k, (∀ y0 y1 y2, LeO (spec_l12Find.l0 k y0 y1 y2) (spec_l12Find.l0 (k + 1) y0 y1 y2))
 | 0 => fun _ _ _ r h => by simp [spec_l12Find.l0] at h
 | k + 1 => by
  have ih0 := spec_l12Find.mono_l k
  ·intro y0 y1 y2
   unfold spec_l12Find.l0
   exact zM
theorem spec_l12Find.mono : ∀ a0 a1 k, LeO (spec_l12Find.f k a0 a1) (spec_l12Find.f (k + 1) a0 a1) := by
 intro a0 a1 k
 have ih0 := spec_l12Find.mono_l k
 unfold spec_l12Find.f
 exact zM
theorem spec_l12Find.calls (k : Nat) (A0 : Option Addr) (c0 : Nat) (l0 : List (S94)) (a1 : ByteArray) (r : Int) (w : World) (hr0 : Kd.C k94 w A0 l0.length l0) (hc0 : l0.length ≤ c0) (h : spec_l12Find.f k l0 a1 = some r) :
 Calls Tryz.prog 37 #[.slice A0 l0.length c0, .string a1] w fun e w' => e = .returned (.int .i64 r) ∧ Drawn0 w w' := by
 have HR0 := zz hr0
 have HC0 := zz hc0
 clear hr0 hc0
 unfold spec_l12Find.f at h
 have H := h
 clear h
 have H' := zz H
 clear H
 go_enter Tryz.func37, Tryz.ntmps37
 go_wp2
 go_loopg [5] k (fun kq v5 w' => ∃ (x5_1 : Int), v5 = .int .i64 x5_1 ∧ Aside0 (spec_l12Find.l0 kq l0 a1 x5_1 = some r) ∧ Aside0 (kq ≤ k) ∧ Drawn0 w w')
 case atStart => exact ⟨(0), zr, H', ⟨Nat.le_refl _⟩, by repeat (first | exact Drawn0.refl _ | apply Drawn0.step)⟩
 case round =>
  clear H'
  try clear p2
  obtain ⟨x5_1, rfl, HA, HK1, ⟨m1, rfl⟩⟩ := hrel
  cases gk with
  | zero => exact absurd HA.out (by simp [spec_l12Find.l0])
  | succ k1 =>
   have H := HA.out
   clear HA
   simp only [spec_l12Find.l0] at H
   by_cases c3 : x5_1 < (l0.length : Int)
   case neg =>
    rw [if_neg c3] at H
    have c3b0 := z0 c3
    clear c3
    obtain rfl := zi H
    go_wp2
    go_ret
    exact ⟨zr, by repeat (first | exact Drawn0.refl _ | apply Drawn0.step)⟩
   rw [if_pos c3] at H
   have c3b0 := z1 c3
   clear c3
   by_cases c4 : 0 ≤ x5_1
   case neg => exact zno H c4
   rw [if_pos c4] at H
   have c4b0 := z1 c4
   clear c4
   by_cases c5 : ((rd_T94 l0 x5_1).f0).toList = a1.toList
   ·rw [if_pos c5] at H
    obtain ⟨c5b0, c5b1⟩ := zq c5
    clear c5
    obtain rfl := zi H
    have p316 : 0 ≤ (x5_1 : Int) := z2
    have q316 : x5_1 < (l0.length : Int) := z2
    obtain ⟨ad316, A316_2, c316_2, A316_4, c316_4, e316, hx316_0, hx316_1, hx316_2, hx316_3, hx316_4, hl316_2, hi316_2, hl316_4, hi316_4⟩ := at_T94 HR0.out x5_1 p316 q316
    cases e316
    have HR316_2 := zz hi316_2
    have HC316_2 := zz hl316_2
    clear hi316_2 hl316_2
    have HR316_4 := zz hi316_4
    have HC316_4 := zz hl316_4
    clear hi316_4 hl316_4
    replace p316 := eq_true p316
    replace q316 := eq_true q316
    go_wp2
    go_ret
    exact ⟨zr, by repeat (first | exact Drawn0.refl _ | apply Drawn0.step)⟩
   rw [if_neg c5] at H
   obtain ⟨c5b0, c5b1⟩ := zw c5
   have H' := zz H
   clear H
   have p316 : 0 ≤ (x5_1 : Int) := z2
   have q316 : x5_1 < (l0.length : Int) := z2
   obtain ⟨ad316, A316_2, c316_2, A316_4, c316_4, e316, hx316_0, hx316_1, hx316_2, hx316_3, hx316_4, hl316_2, hi316_2, hl316_4, hi316_4⟩ := at_T94 HR0.out x5_1 p316 q316
   cases e316
   have HR316_2 := zz hi316_2
   have HC316_2 := zz hl316_2
   clear hi316_2 hl316_2
   have HR316_4 := zz hi316_4
   have HC316_4 := zz hl316_4
   clear hi316_4 hl316_4
   replace p316 := eq_true p316
   replace q316 := eq_true q316
   go_wp2
   go_roundg k1
   case measure => have := HK1.out; omega
   case rel => exact ⟨(wrap64 (x5_1 + 1)), zr, H', ⟨by have := HK1.out; omega⟩, by repeat (first | exact Drawn0.refl _ | apply Drawn0.step)⟩
end Go.Proofs.YtcekmnclmldmmaaGreatDoor.Q
