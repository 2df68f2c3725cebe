import Derived.Test.YtcekmnclmldmmaaGreatDoorB42
set_option linter.unusedVariables false
set_option linter.unusedSimpArgs false
namespace Go.Proofs.YtcekmnclmldmmaaGreatDoor.Q
open Go.RowKit W1 W2 W3
attribute [local go_sem] max2_int min2_int max_two min_two max_three min_three max_four min_four
attribute [local go_sem high] bl_leq bl_gtr bl_geq
set_option maxHeartbeats 8000000
set_option maxRecDepth 100000
def laws_eqItem.f (k : Nat) (a0_0 : ByteArray) (a0_1 : ByteArray) (l0_2 : List ByteArray) (a0_3 : ByteArray) (l0_4 : List (S96)) (a1_0 : ByteArray) (a1_1 : ByteArray) (l1_2 : List ByteArray) (a1_3 : ByteArray) (l1_4 : List (S96)) : Option (Bool) := if a0_0.toList = a1_0.toList then (if a0_1.toList = a1_1.toList then ((laws_eqStringS.f k l0_2 l1_2).bind fun t598 => (if t598 = true then (if a0_3.toList = a1_3.toList then ((laws_eqEntryS.f k l0_4 l1_4).bind fun t599 => (if t599 = true then (some true) else (some false))) else (some false)) else (some false))) else (some false)) else (some false)
theorem laws_eqItem.mono : ∀ a0 a1 a2 a3 a4 a5 a6 a7 a8 a9 k, LeO (laws_eqItem.f k a0 a1 a2 a3 a4 a5 a6 a7 a8 a9) (laws_eqItem.f (k + 1) a0 a1 a2 a3 a4 a5 a6 a7 a8 a9) := by
 intro a0 a1 a2 a3 a4 a5 a6 a7 a8 a9 k
 unfold laws_eqItem.f
 have m0 := @laws_eqEntryS.mono
 have m1 := @laws_eqStringS.mono
 exact zM
theorem laws_eqItem.calls (k : Nat) (a0_0 : ByteArray) (a0_1 : ByteArray) (A0_2 : Option Addr) (c0_2 : Nat) (l0_2 : List ByteArray) (a0_3 : ByteArray) (A0_4 : Option Addr) (c0_4 : Nat) (l0_4 : List (S96)) (a1_0 : ByteArray) (a1_1 : ByteArray) (A1_2 : Option Addr) (c1_2 : Nat) (l1_2 : List ByteArray) (a1_3 : ByteArray) (A1_4 : Option Addr) (c1_4 : Nat) (l1_4 : List (S96)) (r : Bool) (w : World) (hr0_2 : Kd.C Kd.string w A0_2 l0_2.length l0_2) (hc0_2 : l0_2.length ≤ c0_2) (hr0_4 : Kd.C k96 w A0_4 l0_4.length l0_4) (hc0_4 : l0_4.length ≤ c0_4) (hr1_2 : Kd.C Kd.string w A1_2 l1_2.length l1_2) (hc1_2 : l1_2.length ≤ c1_2) (hr1_4 : Kd.C k96 w A1_4 l1_4.length l1_4) (hc1_4 : l1_4.length ≤ c1_4) (h : laws_eqItem.f k a0_0 a0_1 l0_2 a0_3 l0_4 a1_0 a1_1 l1_2 a1_3 l1_4 = some r) :
 Calls Tryz.prog 96 #[.agg #[.string a0_0, .string a0_1, .slice A0_2 l0_2.length c0_2, .string a0_3, .slice A0_4 l0_4.length c0_4], .agg #[.string a1_0, .string a1_1, .slice A1_2 l1_2.length c1_2, .string a1_3, .slice A1_4 l1_4.length c1_4]] w fun e w' => e = .returned (.bool r) ∧ Below w.heap.size w w' := by
 have hu94 := Tryz.underlying94
 have HR0_2 := zz hr0_2
 have HC0_2 := zz hc0_2
 clear hr0_2 hc0_2
 have HR0_4 := zz hr0_4
 have HC0_4 := zz hc0_4
 clear hr0_4 hc0_4
 have HR1_2 := zz hr1_2
 have HC1_2 := zz hc1_2
 clear hr1_2 hc1_2
 have HR1_4 := zz hr1_4
 have HC1_4 := zz hc1_4
 clear hr1_4 hc1_4
 have HB := zz (Below.refl w.heap.size w)
 unfold laws_eqItem.f at h
 have H := h
 clear h
 replace HB := HB.out
 have HW := zz (Below.refl w.heap.size w)
 go_enter Tryz.func96, Tryz.ntmps96
 by_cases c3 : a0_0.toList = a1_0.toList
 case neg =>
  rw [if_neg c3] at H
  obtain ⟨c3b0, c3b1⟩ := zw c3
  obtain rfl := zi H
  go_wp2_with (first | (refine zN 2 ?_; (try (refine z4 ?_; dsimp only)); refine zX 2 94 #[.string a0_0, .string a0_1, .slice A0_2 l0_2.length c0_2, .string a0_3, .slice A0_4 l0_4.length c0_4] ?_; intro gb596 hg w28 hbox hb; have hst := zv HB hb; clear hg hb HB; replace HW := zz (zv HW.out hst); replace HR0_2 := zz (Kd.C_below HR0_2.out hst); replace HR0_4 := zz (Kd.C_below HR0_4.out hst); replace HR1_2 := zz (Kd.C_below HR1_2.out hst); replace HR1_4 := zz (Kd.C_below HR1_4.out hst); obtain ⟨hbx596_0, hbx596_1, hbx596_2, hbx596_3, hbx596_4⟩ := zx5 hbox; have HB := Below.refl w28.heap.size w28; clear hbox hst) | (refine zN 3 ?_; (try (refine z4 ?_; dsimp only)); refine zX 3 94 #[.string a1_0, .string a1_1, .slice A1_2 l1_2.length c1_2, .string a1_3, .slice A1_4 l1_4.length c1_4] ?_; intro gb597 hg w29 hbox hb; have hst := zv HB hb; clear hg hb HB; replace HW := zz (zv HW.out hst); replace HR0_2 := zz (Kd.C_below HR0_2.out hst); replace HR0_4 := zz (Kd.C_below HR0_4.out hst); replace HR1_2 := zz (Kd.C_below HR1_2.out hst); replace HR1_4 := zz (Kd.C_below HR1_4.out hst); replace hbx596_0 := rebase hbx596_0 hst; replace hbx596_1 := rebase hbx596_1 hst; replace hbx596_2 := rebase hbx596_2 hst; replace hbx596_3 := rebase hbx596_3 hst; replace hbx596_4 := rebase hbx596_4 hst; obtain ⟨hbx597_0, hbx597_1, hbx597_2, hbx597_3, hbx597_4⟩ := zx5 hbox; have HB := Below.refl w29.heap.size w29; clear hbox hst))
  go_ret
  exact ⟨ze, zv HW.out HB⟩
 rw [if_pos c3] at H
 obtain ⟨c3b0, c3b1⟩ := zq c3
 clear c3
 by_cases c4 : a0_1.toList = a1_1.toList
 case neg =>
  rw [if_neg c4] at H
  obtain ⟨c4b0, c4b1⟩ := zw c4
  obtain rfl := zi H
  go_wp2_with (first | (refine zN 2 ?_; (try (refine z4 ?_; dsimp only)); refine zX 2 94 #[.string a0_0, .string a0_1, .slice A0_2 l0_2.length c0_2, .string a0_3, .slice A0_4 l0_4.length c0_4] ?_; intro gb596 hg w26 hbox hb; have hst := zv HB hb; clear hg hb HB; replace HW := zz (zv HW.out hst); replace HR0_2 := zz (Kd.C_below HR0_2.out hst); replace HR0_4 := zz (Kd.C_below HR0_4.out hst); replace HR1_2 := zz (Kd.C_below HR1_2.out hst); replace HR1_4 := zz (Kd.C_below HR1_4.out hst); obtain ⟨hbx596_0, hbx596_1, hbx596_2, hbx596_3, hbx596_4⟩ := zx5 hbox; have HB := Below.refl w26.heap.size w26; clear hbox hst) | (refine zN 3 ?_; (try (refine z4 ?_; dsimp only)); refine zX 3 94 #[.string a1_0, .string a1_1, .slice A1_2 l1_2.length c1_2, .string a1_3, .slice A1_4 l1_4.length c1_4] ?_; intro gb597 hg w27 hbox hb; have hst := zv HB hb; clear hg hb HB; replace HW := zz (zv HW.out hst); replace HR0_2 := zz (Kd.C_below HR0_2.out hst); replace HR0_4 := zz (Kd.C_below HR0_4.out hst); replace HR1_2 := zz (Kd.C_below HR1_2.out hst); replace HR1_4 := zz (Kd.C_below HR1_4.out hst); replace hbx596_0 := rebase hbx596_0 hst; replace hbx596_1 := rebase hbx596_1 hst; replace hbx596_2 := rebase hbx596_2 hst; replace hbx596_3 := rebase hbx596_3 hst; replace hbx596_4 := rebase hbx596_4 hst; obtain ⟨hbx597_0, hbx597_1, hbx597_2, hbx597_3, hbx597_4⟩ := zx5 hbox; have HB := Below.refl w27.heap.size w27; clear hbox hst))
  go_ret
  exact ⟨ze, zv HW.out HB⟩
 rw [if_pos c4] at H
 obtain ⟨c4b0, c4b1⟩ := zq c4
 clear c4
 replace H := zf H
 obtain ⟨t598, A5, H⟩ := H
 try dsimp only at H
 replace A5 := zz A5
 go_wp2_with (first | (refine zN 2 ?_; (try (refine z4 ?_; dsimp only)); refine zX 2 94 #[.string a0_0, .string a0_1, .slice A0_2 l0_2.length c0_2, .string a0_3, .slice A0_4 l0_4.length c0_4] ?_; intro gb596 hg w9 hbox hb; have hst := zv HB hb; clear hg hb HB; replace HW := zz (zv HW.out hst); replace HR0_2 := zz (Kd.C_below HR0_2.out hst); replace HR0_4 := zz (Kd.C_below HR0_4.out hst); replace HR1_2 := zz (Kd.C_below HR1_2.out hst); replace HR1_4 := zz (Kd.C_below HR1_4.out hst); obtain ⟨hbx596_0, hbx596_1, hbx596_2, hbx596_3, hbx596_4⟩ := zx5 hbox; have HB := Below.refl w9.heap.size w9; clear hbox hst) | (refine zN 3 ?_; (try (refine z4 ?_; dsimp only)); refine zX 3 94 #[.string a1_0, .string a1_1, .slice A1_2 l1_2.length c1_2, .string a1_3, .slice A1_4 l1_4.length c1_4] ?_; intro gb597 hg w10 hbox hb; have hst := zv HB hb; clear hg hb HB; replace HW := zz (zv HW.out hst); replace HR0_2 := zz (Kd.C_below HR0_2.out hst); replace HR0_4 := zz (Kd.C_below HR0_4.out hst); replace HR1_2 := zz (Kd.C_below HR1_2.out hst); replace HR1_4 := zz (Kd.C_below HR1_4.out hst); replace hbx596_0 := rebase hbx596_0 hst; replace hbx596_1 := rebase hbx596_1 hst; replace hbx596_2 := rebase hbx596_2 hst; replace hbx596_3 := rebase hbx596_3 hst; replace hbx596_4 := rebase hbx596_4 hst; obtain ⟨hbx597_0, hbx597_1, hbx597_2, hbx597_3, hbx597_4⟩ := zx5 hbox; have HB := Below.refl w10.heap.size w10; clear hbox hst))
 refine (laws_eqStringS.calls k _ _ _ _ _ _ _ _ (Kd.C_below HR0_2.out HB) HC0_2.out (Kd.C_below HR1_2.out HB) HC1_2.out A5.out).mono ?_
 rintro e w11 ⟨rfl, hb⟩
 replace HB := zv HB hb
 clear hb
 by_cases c6 : t598 = true
 case neg =>
  replace c6 := Bool.eq_false_iff.mpr c6
  subst c6
  rw [if_neg (by decide)] at H
  obtain rfl := zi H
  go_wp2_with (fail)
  go_ret
  exact ⟨ze, zv HW.out HB⟩
 subst c6
 rw [if_pos rfl] at H
 by_cases c7 : a0_3.toList = a1_3.toList
 case neg =>
  rw [if_neg c7] at H
  obtain ⟨c7b0, c7b1⟩ := zw c7
  obtain rfl := zi H
  go_wp2_with (fail)
  go_ret
  exact ⟨ze, zv HW.out HB⟩
 rw [if_pos c7] at H
 obtain ⟨c7b0, c7b1⟩ := zq c7
 clear c7
 replace H := zf H
 obtain ⟨t599, A12, H⟩ := H
 try dsimp only at H
 replace A12 := zz A12
 by_cases c13 : t599 = true
 ·subst c13
  rw [if_pos rfl] at H
  go_wp2_with (fail)
  refine (laws_eqEntryS.calls k _ _ _ _ _ _ _ _ (Kd.C_below HR0_4.out HB) HC0_4.out (Kd.C_below HR1_4.out HB) HC1_4.out A12.out).mono ?_
  rintro e w15 ⟨rfl, hb⟩
  replace HB := zv HB hb
  clear hb
  obtain rfl := zi H
  go_wp2_with (fail)
  go_ret
  exact ⟨ze, zv HW.out HB⟩
 replace c13 := Bool.eq_false_iff.mpr c13
 subst c13
 rw [if_neg (by decide)] at H
 go_wp2_with (fail)
 refine (laws_eqEntryS.calls k _ _ _ _ _ _ _ _ (Kd.C_below HR0_4.out HB) HC0_4.out (Kd.C_below HR1_4.out HB) HC1_4.out A12.out).mono ?_
 rintro e w17 ⟨rfl, hb⟩
 replace HB := zv HB hb
 clear hb
 obtain rfl := zi H
 go_wp2_with (fail)
 go_ret
 exact ⟨ze, zv HW.out HB⟩
def laws_eqItemS.l0 : Nat → List (S94) → List (S94) → Int → Option (Bool)
 | 0, _, _, _ => none
 | k + 1, x0, x1, x5 => if x5 < (x0.length : Int) then (if 0 ≤ x5 then (if x5 < (x1.length : Int) then ((laws_eqItem.f k ((rd_T94 x0 x5).f0) ((rd_T94 x0 x5).f1) ((rd_T94 x0 x5).f2) ((rd_T94 x0 x5).f3) ((rd_T94 x0 x5).f4) ((rd_T94 x1 x5).f0) ((rd_T94 x1 x5).f1) ((rd_T94 x1 x5).f2) ((rd_T94 x1 x5).f3) ((rd_T94 x1 x5).f4)).bind fun t602 => (if t602 = true then (laws_eqItemS.l0 k x0 x1 (wrap64 (x5 + 1))) else (some false))) else (none)) else (none)) else (some true)
def laws_eqItemS.f (k : Nat) (l0 : List (S94)) (l1 : List (S94)) : Option (Bool) := if (l0.length : Int) = (l1.length : Int) then (laws_eqItemS.l0 k l0 l1 0) else (some false)
theorem laws_eqItemS.mono_l : ∀ k, (∀ y0 y1 y2, LeO (laws_eqItemS.l0 k y0 y1 y2) (laws_eqItemS.l0 (k + 1) y0 y1 y2))
 | 0 => fun _ _ _ r h => by simp [laws_eqItemS.l0] at h
 | k + 1 => by
  have ih0 := laws_eqItemS.mono_l k
  ·intro y0 y1 y2
   unfold laws_eqItemS.l0
   have m0 := @laws_eqItem.mono
   exact zM
theorem laws_eqItemS.mono : ∀ a0 a1 k, LeO (laws_eqItemS.f k a0 a1) (laws_eqItemS.f (k + 1) a0 a1) := by
 intro a0 a1 k
 have ih0 := laws_eqItemS.mono_l k
 unfold laws_eqItemS.f
 have m0 := @laws_eqItem.mono
 exact zM
theorem laws_eqItemS.calls (k : Nat) (A0 : Option Addr) (c0 : Nat) (l0 : List (S94)) (A1 : Option Addr) (c1 : Nat) (l1 : List (S94)) (r : Bool) (w : World) (hr0 : Kd.C k94 w A0 l0.length l0) (hc0 : l0.length ≤ c0) (hr1 : Kd.C k94 w A1 l1.length l1) (hc1 : l1.length ≤ c1) (h : laws_eqItemS.f k l0 l1 = some r) :
 Calls Tryz.prog 48 #[.slice A0 l0.length c0, .slice A1 l1.length c1] w fun e w' => e = .returned (.bool r) ∧ Below w.heap.size w w' := by
 have hu94 := Tryz.underlying94
 have HR0 := zz hr0
 have HC0 := zz hc0
 clear hr0 hc0
 have HR1 := zz hr1
 have HC1 := zz hc1
 clear hr1 hc1
 have HB := zz (Below.refl w.heap.size w)
 unfold laws_eqItemS.f at h
 have H := h
 clear h
 replace HB := HB.out
 have HW := zz (Below.refl w.heap.size w)
 go_enter Tryz.func48, Tryz.ntmps48
 by_cases c3 : (l0.length : Int) = (l1.length : Int)
 case neg =>
  rw [if_neg c3] at H
  obtain ⟨c3b0, c3b1⟩ := zw c3
  have c3b2 : (l0.length == l1.length) = false := by first | simpa using c3 | (simp at c3 ⊢; omega)
  obtain rfl := zi H
  go_wp2_with (fail)
  go_ret
  exact ⟨ze, zv HW.out HB⟩
 rw [if_pos c3] at H
 obtain ⟨c3b0, c3b1⟩ := zq c3
 have c3b2 : (l0.length == l1.length) = true := by first | simpa using c3 | (simp at c3 ⊢; omega)
 clear c3
 go_wp2_with (fail)
 go_loopg [5] k (fun kq v5 w' => ∃ (x5_kl4 : Int), v5 = .int .i64 x5_kl4 ∧ Aside0 (laws_eqItemS.l0 kq l0 l1 x5_kl4 = some r) ∧ Aside0 (kq ≤ k) ∧ Aside0 (Below w.heap.size w w'))
 case atStart => exact ⟨(0), zr, ⟨H⟩, ⟨Nat.le_refl _⟩, ⟨HB⟩⟩
 case round =>
  clear H HB
  obtain ⟨x5_kl4, rfl, H, HKkl4, HB⟩ := hrel
  replace HB := HB.out
  replace H := H.out
  have HLkl4 := zz (Below.refl w.heap.size w)
  cases gk with
  | zero => exact absurd H (by simp [laws_eqItemS.l0])
  | succ kl4 =>
   simp only [laws_eqItemS.l0] at H
   by_cases c5 : x5_kl4 < (l0.length : Int)
   case neg =>
    rw [if_neg c5] at H
    have c5b0 := z0 c5
    clear c5
    obtain rfl := zi H
    go_wp2_with (fail)
    go_ret
    exact ⟨ze, zv HW.out HB⟩
   rw [if_pos c5] at H
   have c5b0 := z1 c5
   clear c5
   go_wp2_with (fail)
   try simp only [Act.put, List.setIfInBounds_toArray, List.set_cons_zero, List.set_cons_succ]
   refine wp_region_inv_lit (C := fun W_ => Below w.heap.size w W_) zk zk (below_drew1 HB) ?_
   by_cases c6 : 0 ≤ x5_kl4
   case neg => exact zno H c6
   rw [if_pos c6] at H
   have c6b0 := z1 c6
   clear c6
   have p600 : 0 ≤ (x5_kl4 : Int) := z2
   have q600 : (x5_kl4 : Int) < (l0.length : Int) := z2
   obtain ⟨ad600, A600_2, c600_2, A600_4, c600_4, e600, hx600_0, hx600_1, hx600_2, hx600_3, hx600_4, hl600_2, hC600_2, hl600_4, hC600_4⟩ := at_T94 HR0.out x5_kl4 p600 q600
   cases e600
   replace hx600_0 := cellB hx600_0
   replace hx600_1 := cellB hx600_1
   replace hx600_2 := cellB hx600_2
   replace hx600_3 := cellB hx600_3
   replace hx600_4 := cellB hx600_4
   have HR600_2 := zz hC600_2
   have HC600_2 := zz hl600_2
   clear hC600_2 hl600_2
   have HR600_4 := zz hC600_4
   have HC600_4 := zz hl600_4
   clear hC600_4 hl600_4
   replace p600 := eq_true p600
   replace q600 := eq_true q600
   by_cases c7 : x5_kl4 < (l1.length : Int)
   case neg => exact zno H c7
   rw [if_pos c7] at H
   have c7b0 := z1 c7
   clear c7
   have p601 : 0 ≤ (x5_kl4 : Int) := z2
   have q601 : (x5_kl4 : Int) < (l1.length : Int) := z2
   obtain ⟨ad601, A601_2, c601_2, A601_4, c601_4, e601, hx601_0, hx601_1, hx601_2, hx601_3, hx601_4, hl601_2, hC601_2, hl601_4, hC601_4⟩ := at_T94 HR1.out x5_kl4 p601 q601
   cases e601
   replace hx601_0 := cellB hx601_0
   replace hx601_1 := cellB hx601_1
   replace hx601_2 := cellB hx601_2
   replace hx601_3 := cellB hx601_3
   replace hx601_4 := cellB hx601_4
   have HR601_2 := zz hC601_2
   have HC601_2 := zz hl601_2
   clear hC601_2 hl601_2
   have HR601_4 := zz hC601_4
   have HC601_4 := zz hl601_4
   clear hC601_4 hl601_4
   replace p601 := eq_true p601
   replace q601 := eq_true q601
   replace H := zf H
   obtain ⟨t602, A8, H⟩ := H
   try dsimp only at H
   replace A8 := zz A8
   by_cases c9 : t602 = true
   ·subst c9
    rw [if_pos rfl] at H
    repeat (first | go_big_quiet_skip | (go_big_quiet_want; go_big_quiet_op; first | go_big_quiet_on | (with_reducible apply Exists.intro; refine ⟨fun W hW => ?_, ?_⟩; (first | with_reducible rfl | (go_at_call 96; exact callB (laws_eqItem.calls kl4 _ _ _ _ _ _ _ _ _ _ _ _ _ _ _ _ _ _ _ _ (Kd.C_below HR600_2.out hW) HC600_2.out (Kd.C_below HR600_4.out hW) HC600_4.out (Kd.C_below HR601_2.out hW) HC601_2.out (Kd.C_below HR601_4.out hW) HC601_4.out A8.out) hW) | (go_simp; with_reducible rfl)); go_big_quiet_on)))
    clear HB
    refine zW fun w10 (HB : Below w.heap.size w w10) => ?_
    go_wp2_with (fail)
    go_roundg kl4
    case measure => have := HKkl4.out; omega
    case rel => exact ⟨(wrap64 (x5_kl4 + 1)), zr, ⟨H⟩, ⟨by have := HKkl4.out; omega⟩, ⟨zv HLkl4.out HB⟩⟩
   replace c9 := Bool.eq_false_iff.mpr c9
   subst c9
   rw [if_neg (by decide)] at H
   obtain rfl := zi H
   repeat (first | go_big_quiet_skip | (go_big_quiet_want; go_big_quiet_op; first | go_big_quiet_on | (with_reducible apply Exists.intro; refine ⟨fun W hW => ?_, ?_⟩; (first | with_reducible rfl | (go_at_call 96; exact callB (laws_eqItem.calls kl4 _ _ _ _ _ _ _ _ _ _ _ _ _ _ _ _ _ _ _ _ (Kd.C_below HR600_2.out hW) HC600_2.out (Kd.C_below HR600_4.out hW) HC600_4.out (Kd.C_below HR601_2.out hW) HC601_2.out (Kd.C_below HR601_4.out hW) HC601_4.out A8.out) hW) | (go_simp; with_reducible rfl)); go_big_quiet_on)))
   clear HB
   refine zW fun w11 (HB : Below w.heap.size w w11) => ?_
   go_wp2_with (fail)
   go_ret
   exact ⟨ze, zv HW.out HB⟩
def laws_eqGen.f (a0_0 : Int) (a0_1 : ByteArray) (a1_0 : Int) (a1_1 : ByteArray) : Option (Bool) := if a0_0 = a1_0 then (if a0_1.toList = a1_1.toList then (some true) else (some false)) else (some false)
theorem laws_eqGen.calls (a0_0 : Int) (a0_1 : ByteArray) (a1_0 : Int) (a1_1 : ByteArray) (r : Bool) (w : World) (h : laws_eqGen.f a0_0 a0_1 a1_0 a1_1 = some r) :
 Calls Tryz.prog 154 #[.agg #[.int .i64 a0_0, .string a0_1], .agg #[.int .i64 a1_0, .string a1_1]] w fun e w' => e = .returned (.bool r) ∧ Below w.heap.size w w' := by
 have hu70 := Tryz.underlying70
 have HB := zz (Below.refl w.heap.size w)
 unfold laws_eqGen.f at h
 have H := h
 clear h
 replace HB := HB.out
 have HW := zz (Below.refl w.heap.size w)
 go_enter Tryz.func154, Tryz.ntmps154
 by_cases c3 : a0_0 = a1_0
 case neg =>
  rw [if_neg c3] at H
  obtain ⟨c3b0, c3b1⟩ := zw c3
  obtain rfl := zi H
  go_wp2_with (first | (refine zN 2 ?_; (try (refine z4 ?_; dsimp only)); refine zX 2 70 #[.int .i64 a0_0, .string a0_1] ?_; intro gb603 hg w9 hbox hb; have hst := zv HB hb; clear hg hb HB; replace HW := zz (zv HW.out hst); obtain ⟨hbx603_0, hbx603_1⟩ := zx2 hbox; have HB := Below.refl w9.heap.size w9; clear hbox hst) | (refine zN 3 ?_; (try (refine z4 ?_; dsimp only)); refine zX 3 70 #[.int .i64 a1_0, .string a1_1] ?_; intro gb604 hg w10 hbox hb; have hst := zv HB hb; clear hg hb HB; replace HW := zz (zv HW.out hst); replace hbx603_0 := rebase hbx603_0 hst; replace hbx603_1 := rebase hbx603_1 hst; obtain ⟨hbx604_0, hbx604_1⟩ := zx2 hbox; have HB := Below.refl w10.heap.size w10; clear hbox hst))
  go_ret
  exact ⟨ze, zv HW.out HB⟩
 rw [if_pos c3] at H
 obtain ⟨c3b0, c3b1⟩ := zq c3
 clear c3
 by_cases c4 : a0_1.toList = a1_1.toList
 case neg =>
  rw [if_neg c4] at H
  obtain ⟨c4b0, c4b1⟩ := zw c4
  obtain rfl := zi H
  go_wp2_with (first | (refine zN 2 ?_; (try (refine z4 ?_; dsimp only)); refine zX 2 70 #[.int .i64 a0_0, .string a0_1] ?_; intro gb603 hg w7 hbox hb; have hst := zv HB hb; clear hg hb HB; replace HW := zz (zv HW.out hst); obtain ⟨hbx603_0, hbx603_1⟩ := zx2 hbox; have HB := Below.refl w7.heap.size w7; clear hbox hst) | (refine zN 3 ?_; (try (refine z4 ?_; dsimp only)); refine zX 3 70 #[.int .i64 a1_0, .string a1_1] ?_; intro gb604 hg w8 hbox hb; have hst := zv HB hb; clear hg hb HB; replace HW := zz (zv HW.out hst); replace hbx603_0 := rebase hbx603_0 hst; replace hbx603_1 := rebase hbx603_1 hst; obtain ⟨hbx604_0, hbx604_1⟩ := zx2 hbox; have HB := Below.refl w8.heap.size w8; clear hbox hst))
  go_ret
  exact ⟨ze, zv HW.out HB⟩
 rw [if_pos c4] at H
 obtain ⟨c4b0, c4b1⟩ := zq c4
 clear c4
 obtain rfl := zi H
 go_wp2_with (first | (refine zN 2 ?_; (try (refine z4 ?_; dsimp only)); refine zX 2 70 #[.int .i64 a0_0, .string a0_1] ?_; intro gb603 hg w5 hbox hb; have hst := zv HB hb; clear hg hb HB; replace HW := zz (zv HW.out hst); obtain ⟨hbx603_0, hbx603_1⟩ := zx2 hbox; have HB := Below.refl w5.heap.size w5; clear hbox hst) | (refine zN 3 ?_; (try (refine z4 ?_; dsimp only)); refine zX 3 70 #[.int .i64 a1_0, .string a1_1] ?_; intro gb604 hg w6 hbox hb; have hst := zv HB hb; clear hg hb HB; replace HW := zz (zv HW.out hst); replace hbx603_0 := rebase hbx603_0 hst; replace hbx603_1 := rebase hbx603_1 hst; obtain ⟨hbx604_0, hbx604_1⟩ := zx2 hbox; have HB := Below.refl w6.heap.size w6; clear hbox hst))
 go_ret
 exact ⟨ze, zv HW.out HB⟩
def laws_eqGenS.l0 : Nat → List (S70) → List (S70) → Int → Option (Bool)
 | 0, _, _, _ => none
 | k + 1, x0, x1, x5 => if x5 < (x0.length : Int) then (if 0 ≤ x5 then (if x5 < (x1.length : Int) then ((laws_eqGen.f ((rd_T70 x0 x5).f0) ((rd_T70 x0 x5).f1) ((rd_T70 x1 x5).f0) ((rd_T70 x1 x5).f1)).bind fun t607 => (if t607 = true then (laws_eqGenS.l0 k x0 x1 (wrap64 (x5 + 1))) else (some false))) else (none)) else (none)) else (some true)
def laws_eqGenS.f (k : Nat) (l0 : List (S70)) (l1 : List (S70)) : Option (Bool) := if (l0.length : Int) = (l1.length : Int) then (laws_eqGenS.l0 k l0 l1 0) else (some false)
theorem laws_eqGenS.mono_l : ∀ k, (∀ y0 y1 y2, LeO (laws_eqGenS.l0 k y0 y1 y2) (laws_eqGenS.l0 (k + 1) y0 y1 y2))
 | 0 => fun _ _ _ r h => by simp [laws_eqGenS.l0] at h
 | k + 1 => by
  have ih0 := laws_eqGenS.mono_l k
  ·intro y0 y1 y2
   unfold laws_eqGenS.l0
   exact zM
theorem laws_eqGenS.mono : ∀ a0 a1 k, LeO (laws_eqGenS.f k a0 a1) (laws_eqGenS.f (k + 1) a0 a1) := by
 intro a0 a1 k
 have ih0 := laws_eqGenS.mono_l k
 unfold laws_eqGenS.f
 exact zM
theorem laws_eqGenS.calls (k : Nat) (A0 : Option Addr) (c0 : Nat) (l0 : List (S70)) (A1 : Option Addr) (c1 : Nat) (l1 : List (S70)) (r : Bool) (w : World) (hr0 : Kd.C k70 w A0 l0.length l0) (hc0 : l0.length ≤ c0) (hr1 : Kd.C k70 w A1 l1.length l1) (hc1 : l1.length ≤ c1) (h : laws_eqGenS.f k l0 l1 = some r) :
 Calls Tryz.prog 130 #[.slice A0 l0.length c0, .slice A1 l1.length c1] w fun e w' => e = .returned (.bool r) ∧ Below w.heap.size w w' := by
 have hu70 := Tryz.underlying70
 have HR0 := zz hr0
 have HC0 := zz hc0
 clear hr0 hc0
 have HR1 := zz hr1
 have HC1 := zz hc1
 clear hr1 hc1
 have HB := zz (Below.refl w.heap.size w)
 unfold laws_eqGenS.f at h
 have H := h
 clear h
 replace HB := HB.out
 have HW := zz (Below.refl w.heap.size w)
 go_enter Tryz.func130, Tryz.ntmps130
 by_cases c3 : (l0.length : Int) = (l1.length : Int)
 case neg =>
  rw [if_neg c3] at H
  obtain ⟨c3b0, c3b1⟩ := zw c3
  have c3b2 : (l0.length == l1.length) = false := by first | simpa using c3 | (simp at c3 ⊢; omega)
  obtain rfl := zi H
  go_wp2_with (fail)
  go_ret
  exact ⟨ze, zv HW.out HB⟩
 rw [if_pos c3] at H
 obtain ⟨c3b0, c3b1⟩ := zq c3
 have c3b2 : (l0.length == l1.length) = true := by first | simpa using c3 | (simp at c3 ⊢; omega)
 clear c3
 go_wp2_with (fail)
 go_loopg [5] k (fun kq v5 w' => ∃ (x5_kl4 : Int), v5 = .int .i64 x5_kl4 ∧ Aside0 (laws_eqGenS.l0 kq l0 l1 x5_kl4 = some r) ∧ Aside0 (kq ≤ k) ∧ Aside0 (Below w.heap.size w w'))
 case atStart => exact ⟨(0), zr, ⟨H⟩, ⟨Nat.le_refl _⟩, ⟨HB⟩⟩
 case round =>
  clear H HB
  obtain ⟨x5_kl4, rfl, H, HKkl4, HB⟩ := hrel
  replace HB := HB.out
  replace H := H.out
  have HLkl4 := zz (Below.refl w.heap.size w)
  cases gk with
  | zero => exact absurd H (by simp [laws_eqGenS.l0])
  | succ kl4 =>
   simp only [laws_eqGenS.l0] at H
   by_cases c5 : x5_kl4 < (l0.length : Int)
   case neg =>
    rw [if_neg c5] at H
    have c5b0 := z0 c5
    clear c5
    obtain rfl := zi H
    go_wp2_with (fail)
    go_ret
    exact ⟨ze, zv HW.out HB⟩
   rw [if_pos c5] at H
   have c5b0 := z1 c5
   clear c5
   go_wp2_with (fail)
   try simp only [Act.put, List.setIfInBounds_toArray, List.set_cons_zero, List.set_cons_succ]
   refine wp_region_inv_lit (C := fun W_ => Below w.heap.size w W_) zk zk (below_drew1 HB) ?_
   by_cases c6 : 0 ≤ x5_kl4
   case neg => exact zno H c6
   rw [if_pos c6] at H
   have c6b0 := z1 c6
   clear c6
   have p605 : 0 ≤ (x5_kl4 : Int) := z2
   have q605 : (x5_kl4 : Int) < (l0.length : Int) := z2
   obtain ⟨ad605, e605, hx605_0, hx605_1⟩ := at_T70 HR0.out x5_kl4 p605 q605
   cases e605
   replace hx605_0 := cellB hx605_0
   replace hx605_1 := cellB hx605_1
   replace p605 := eq_true p605
   replace q605 := eq_true q605
   by_cases c7 : x5_kl4 < (l1.length : Int)
   case neg => exact zno H c7
   rw [if_pos c7] at H
   have c7b0 := z1 c7
   clear c7
   have p606 : 0 ≤ (x5_kl4 : Int) := z2
   have q606 : (x5_kl4 : Int) < (l1.length : Int) := z2
   obtain ⟨ad606, e606, hx606_0, hx606_1⟩ := at_T70 HR1.out x5_kl4 p606 q606
   cases e606
   replace hx606_0 := cellB hx606_0
   replace hx606_1 := cellB hx606_1
   replace p606 := eq_true p606
   replace q606 := eq_true q606
   replace H := zf H
   obtain ⟨t607, A8, H⟩ := H
   try dsimp only at H
   replace A8 := zz A8
   by_cases c9 : t607 = true
   ·subst c9
    rw [if_pos rfl] at H
    repeat (first | go_big_quiet_skip | (go_big_quiet_want; go_big_quiet_op; first | go_big_quiet_on | (with_reducible apply Exists.intro; refine ⟨fun W hW => ?_, ?_⟩; (first | with_reducible rfl | (go_at_call 154; exact callB (laws_eqGen.calls _ _ _ _ _ _  A8.out) hW) | (go_simp; with_reducible rfl)); go_big_quiet_on)))
    clear HB
    refine zW fun w10 (HB : Below w.heap.size w w10) => ?_
    go_wp2_with (fail)
    go_roundg kl4
    case measure => have := HKkl4.out; omega
    case rel => exact ⟨(wrap64 (x5_kl4 + 1)), zr, ⟨H⟩, ⟨by have := HKkl4.out; omega⟩, ⟨zv HLkl4.out HB⟩⟩
   replace c9 := Bool.eq_false_iff.mpr c9
   subst c9
   rw [if_neg (by decide)] at H
   obtain rfl := zi H
   repeat (first | go_big_quiet_skip | (go_big_quiet_want; go_big_quiet_op; first | go_big_quiet_on | (with_reducible apply Exists.intro; refine ⟨fun W hW => ?_, ?_⟩; (first | with_reducible rfl | (go_at_call 154; exact callB (laws_eqGen.calls _ _ _ _ _ _  A8.out) hW) | (go_simp; with_reducible rfl)); go_big_quiet_on)))
   clear HB
   refine zW fun w11 (HB : Below w.heap.size w w11) => ?_
   go_wp2_with (fail)
   go_ret
   exact ⟨ze, zv HW.out HB⟩
def laws_eqProfile.f (k : Nat) (a0_0 : ByteArray) (a0_1 : Int) (l0_2 : List (S70)) (a1_0 : ByteArray) (a1_1 : Int) (l1_2 : List (S70)) : Option (Bool) := if a0_0.toList = a1_0.toList then (if a0_1 = a1_1 then ((laws_eqGenS.f k l0_2 l1_2).bind fun t610 => (if t610 = true then (some true) else (some false))) else (some false)) else (some false)
theorem laws_eqProfile.mono : ∀ a0 a1 a2 a3 a4 a5 k, LeO (laws_eqProfile.f k a0 a1 a2 a3 a4 a5) (laws_eqProfile.f (k + 1) a0 a1 a2 a3 a4 a5) := by
 intro a0 a1 a2 a3 a4 a5 k
 unfold laws_eqProfile.f
 have m0 := @laws_eqGenS.mono
 exact zM
theorem laws_eqProfile.calls (k : Nat) (a0_0 : ByteArray) (a0_1 : Int) (A0_2 : Option Addr) (c0_2 : Nat) (l0_2 : List (S70)) (a1_0 : ByteArray) (a1_1 : Int) (A1_2 : Option Addr) (c1_2 : Nat) (l1_2 : List (S70)) (r : Bool) (w : World) (hr0_2 : Kd.C k70 w A0_2 l0_2.length l0_2) (hc0_2 : l0_2.length ≤ c0_2) (hr1_2 : Kd.C k70 w A1_2 l1_2.length l1_2) (hc1_2 : l1_2.length ≤ c1_2) (h : laws_eqProfile.f k a0_0 a0_1 l0_2 a1_0 a1_1 l1_2 = some r) :
 Calls Tryz.prog 97 #[.agg #[.string a0_0, .int .i64 a0_1, .slice A0_2 l0_2.length c0_2], .agg #[.string a1_0, .int .i64 a1_1, .slice A1_2 l1_2.length c1_2]] w fun e w' => e = .returned (.bool r) ∧ Below w.heap.size w w' := by
 have hu67 := Tryz.underlying67
 have HR0_2 := zz hr0_2
 have HC0_2 := zz hc0_2
 clear hr0_2 hc0_2
 have HR1_2 := zz hr1_2
 have HC1_2 := zz hc1_2
 clear hr1_2 hc1_2
 have HB := zz (Below.refl w.heap.size w)
 unfold laws_eqProfile.f at h
 have H := h
 clear h
 replace HB := HB.out
 have HW := zz (Below.refl w.heap.size w)
 go_enter Tryz.func97, Tryz.ntmps97
 by_cases c3 : a0_0.toList = a1_0.toList
 case neg =>
  rw [if_neg c3] at H
  obtain ⟨c3b0, c3b1⟩ := zw c3
  obtain rfl := zi H
  go_wp2_with (first | (refine zN 2 ?_; (try (refine z4 ?_; dsimp only)); refine zX 2 67 #[.string a0_0, .int .i64 a0_1, .slice A0_2 l0_2.length c0_2] ?_; intro gb608 hg w17 hbox hb; have hst := zv HB hb; clear hg hb HB; replace HW := zz (zv HW.out hst); replace HR0_2 := zz (Kd.C_below HR0_2.out hst); replace HR1_2 := zz (Kd.C_below HR1_2.out hst); obtain ⟨hbx608_0, hbx608_1, hbx608_2⟩ := zx3 hbox; have HB := Below.refl w17.heap.size w17; clear hbox hst) | (refine zN 3 ?_; (try (refine z4 ?_; dsimp only)); refine zX 3 67 #[.string a1_0, .int .i64 a1_1, .slice A1_2 l1_2.length c1_2] ?_; intro gb609 hg w18 hbox hb; have hst := zv HB hb; clear hg hb HB; replace HW := zz (zv HW.out hst); replace HR0_2 := zz (Kd.C_below HR0_2.out hst); replace HR1_2 := zz (Kd.C_below HR1_2.out hst); replace hbx608_0 := rebase hbx608_0 hst; replace hbx608_1 := rebase hbx608_1 hst; replace hbx608_2 := rebase hbx608_2 hst; obtain ⟨hbx609_0, hbx609_1, hbx609_2⟩ := zx3 hbox; have HB := Below.refl w18.heap.size w18; clear hbox hst))
  go_ret
  exact ⟨ze, zv HW.out HB⟩
 rw [if_pos c3] at H
 obtain ⟨c3b0, c3b1⟩ := zq c3
 clear c3
 by_cases c4 : a0_1 = a1_1
 case neg =>
  rw [if_neg c4] at H
  obtain ⟨c4b0, c4b1⟩ := zw c4
  obtain rfl := zi H
  go_wp2_with (first | (refine zN 2 ?_; (try (refine z4 ?_; dsimp only)); refine zX 2 67 #[.string a0_0, .int .i64 a0_1, .slice A0_2 l0_2.length c0_2] ?_; intro gb608 hg w15 hbox hb; have hst := zv HB hb; clear hg hb HB; replace HW := zz (zv HW.out hst); replace HR0_2 := zz (Kd.C_below HR0_2.out hst); replace HR1_2 := zz (Kd.C_below HR1_2.out hst); obtain ⟨hbx608_0, hbx608_1, hbx608_2⟩ := zx3 hbox; have HB := Below.refl w15.heap.size w15; clear hbox hst) | (refine zN 3 ?_; (try (refine z4 ?_; dsimp only)); refine zX 3 67 #[.string a1_0, .int .i64 a1_1, .slice A1_2 l1_2.length c1_2] ?_; intro gb609 hg w16 hbox hb; have hst := zv HB hb; clear hg hb HB; replace HW := zz (zv HW.out hst); replace HR0_2 := zz (Kd.C_below HR0_2.out hst); replace HR1_2 := zz (Kd.C_below HR1_2.out hst); replace hbx608_0 := rebase hbx608_0 hst; replace hbx608_1 := rebase hbx608_1 hst; replace hbx608_2 := rebase hbx608_2 hst; obtain ⟨hbx609_0, hbx609_1, hbx609_2⟩ := zx3 hbox; have HB := Below.refl w16.heap.size w16; clear hbox hst))
  go_ret
  exact ⟨ze, zv HW.out HB⟩
 rw [if_pos c4] at H
 obtain ⟨c4b0, c4b1⟩ := zq c4
 clear c4
 replace H := zf H
 obtain ⟨t610, A5, H⟩ := H
 try dsimp only at H
 replace A5 := zz A5
 go_wp2_with (first | (refine zN 2 ?_; (try (refine z4 ?_; dsimp only)); refine zX 2 67 #[.string a0_0, .int .i64 a0_1, .slice A0_2 l0_2.length c0_2] ?_; intro gb608 hg w8 hbox hb; have hst := zv HB hb; clear hg hb HB; replace HW := zz (zv HW.out hst); replace HR0_2 := zz (Kd.C_below HR0_2.out hst); replace HR1_2 := zz (Kd.C_below HR1_2.out hst); obtain ⟨hbx608_0, hbx608_1, hbx608_2⟩ := zx3 hbox; have HB := Below.refl w8.heap.size w8; clear hbox hst) | (refine zN 3 ?_; (try (refine z4 ?_; dsimp only)); refine zX 3 67 #[.string a1_0, .int .i64 a1_1, .slice A1_2 l1_2.length c1_2] ?_; intro gb609 hg w9 hbox hb; have hst := zv HB hb; clear hg hb HB; replace HW := zz (zv HW.out hst); replace HR0_2 := zz (Kd.C_below HR0_2.out hst); replace HR1_2 := zz (Kd.C_below HR1_2.out hst); replace hbx608_0 := rebase hbx608_0 hst; replace hbx608_1 := rebase hbx608_1 hst; replace hbx608_2 := rebase hbx608_2 hst; obtain ⟨hbx609_0, hbx609_1, hbx609_2⟩ := zx3 hbox; have HB := Below.refl w9.heap.size w9; clear hbox hst))
 refine (laws_eqGenS.calls k _ _ _ _ _ _ _ _ (Kd.C_below HR0_2.out HB) HC0_2.out (Kd.C_below HR1_2.out HB) HC1_2.out A5.out).mono ?_
 rintro e w10 ⟨rfl, hb⟩
 replace HB := zv HB hb
 clear hb
 by_cases c6 : t610 = true
 ·subst c6
  rw [if_pos rfl] at H
  obtain rfl := zi H
  go_wp2_with (fail)
  go_ret
  exact ⟨ze, zv HW.out HB⟩
 replace c6 := Bool.eq_false_iff.mpr c6
 subst c6
 rw [if_neg (by decide)] at H
 obtain rfl := zi H
 go_wp2_with (fail)
 go_ret
 exact ⟨ze, zv HW.out HB⟩
def laws_eqProfileS.l0 : Nat → List (S67) → List (S67) → Int → Option (Bool)
 | 0, _, _, _ => none
 | k + 1, x0, x1, x5 => if x5 < (x0.length : Int) then (if 0 ≤ x5 then (if x5 < (x1.length : Int) then ((laws_eqProfile.f k ((rd_T67 x0 x5).f0) ((rd_T67 x0 x5).f1) ((rd_T67 x0 x5).f2) ((rd_T67 x1 x5).f0) ((rd_T67 x1 x5).f1) ((rd_T67 x1 x5).f2)).bind fun t613 => (if t613 = true then (laws_eqProfileS.l0 k x0 x1 (wrap64 (x5 + 1))) else (some false))) else (none)) else (none)) else (some true)
def laws_eqProfileS.f (k : Nat) (l0 : List (S67)) (l1 : List (S67)) : Option (Bool) := if (l0.length : Int) = (l1.length : Int) then (laws_eqProfileS.l0 k l0 l1 0) else (some false)
theorem laws_eqProfileS.mono_l : ∀ k, (∀ y0 y1 y2, LeO (laws_eqProfileS.l0 k y0 y1 y2) (laws_eqProfileS.l0 (k + 1) y0 y1 y2))
 | 0 => fun _ _ _ r h => by simp [laws_eqProfileS.l0] at h
 | k + 1 => by
  have ih0 := laws_eqProfileS.mono_l k
  ·intro y0 y1 y2
   unfold laws_eqProfileS.l0
   have m0 := @laws_eqProfile.mono
   exact zM
theorem laws_eqProfileS.mono : ∀ a0 a1 k, LeO (laws_eqProfileS.f k a0 a1) (laws_eqProfileS.f (k + 1) a0 a1) := by
 intro a0 a1 k
 have ih0 := laws_eqProfileS.mono_l k
 unfold laws_eqProfileS.f
 have m0 := @laws_eqProfile.mono
 exact zM
theorem laws_eqProfileS.calls (k : Nat) (A0 : Option Addr) (c0 : Nat) (l0 : List (S67)) (A1 : Option Addr) (c1 : Nat) (l1 : List (S67)) (r : Bool) (w : World) (hr0 : Kd.C k67 w A0 l0.length l0) (hc0 : l0.length ≤ c0) (hr1 : Kd.C k67 w A1 l1.length l1) (hc1 : l1.length ≤ c1) (h : laws_eqProfileS.f k l0 l1 = some r) :
 Calls Tryz.prog 49 #[.slice A0 l0.length c0, .slice A1 l1.length c1] w fun e w' => e = .returned (.bool r) ∧ Below w.heap.size w w' := by
 have hu67 := Tryz.underlying67
 have HR0 := zz hr0
 have HC0 := zz hc0
 clear hr0 hc0
 have HR1 := zz hr1
 have HC1 := zz hc1
 clear hr1 hc1
 have HB := zz (Below.refl w.heap.size w)
 unfold laws_eqProfileS.f at h
 have H := h
 clear h
 replace HB := HB.out
 have HW := zz (Below.refl w.heap.size w)
 go_enter Tryz.func49, Tryz.ntmps49
 by_cases c3 : (l0.length : Int) = (l1.length : Int)
 case neg =>
  rw [if_neg c3] at H
  obtain ⟨c3b0, c3b1⟩ := zw c3
  have c3b2 : (l0.length == l1.length) = false := by first | simpa using c3 | (simp at c3 ⊢; omega)
  obtain rfl := zi H
  go_wp2_with (fail)
  go_ret
  exact ⟨ze, zv HW.out HB⟩
 rw [if_pos c3] at H
 obtain ⟨c3b0, c3b1⟩ := zq c3
 have c3b2 : (l0.length == l1.length) = true := by first | simpa using c3 | (simp at c3 ⊢; omega)
 clear c3
 go_wp2_with (fail)
 go_loopg [5] k (fun kq v5 w' => ∃ (x5_kl4 : Int), v5 = .int .i64 x5_kl4 ∧ Aside0 (laws_eqProfileS.l0 kq l0 l1 x5_kl4 = some r) ∧ Aside0 (kq ≤ k) ∧ Aside0 (Below w.heap.size w w'))
 case atStart => exact ⟨(0), zr, ⟨H⟩, ⟨Nat.le_refl _⟩, ⟨HB⟩⟩
 case round =>
  clear H HB
  obtain ⟨x5_kl4, rfl, H, HKkl4, HB⟩ := hrel
  replace HB := HB.out
  replace H := H.out
  have HLkl4 := zz (Below.refl w.heap.size w)
  cases gk with
  | zero => exact absurd H (by simp [laws_eqProfileS.l0])
  | succ kl4 =>
   simp only [laws_eqProfileS.l0] at H
   by_cases c5 : x5_kl4 < (l0.length : Int)
   case neg =>
    rw [if_neg c5] at H
    have c5b0 := z0 c5
    clear c5
    obtain rfl := zi H
    go_wp2_with (fail)
    go_ret
    exact ⟨ze, zv HW.out HB⟩
   rw [if_pos c5] at H
   have c5b0 := z1 c5
   clear c5
   go_wp2_with (fail)
   try simp only [Act.put, List.setIfInBounds_toArray, List.set_cons_zero, List.set_cons_succ]
   refine wp_region_inv_lit (C := fun W_ => Below w.heap.size w W_) zk zk (below_drew1 HB) ?_
   by_cases c6 : 0 ≤ x5_kl4
   case neg => exact zno H c6
   rw [if_pos c6] at H
   have c6b0 := z1 c6
   clear c6
   have p611 : 0 ≤ (x5_kl4 : Int) := z2
   have q611 : (x5_kl4 : Int) < (l0.length : Int) := z2
   obtain ⟨ad611, A611_2, c611_2, e611, hx611_0, hx611_1, hx611_2, hl611_2, hC611_2⟩ := at_T67 HR0.out x5_kl4 p611 q611
   cases e611
   replace hx611_0 := cellB hx611_0
   replace hx611_1 := cellB hx611_1
   replace hx611_2 := cellB hx611_2
   have HR611_2 := zz hC611_2
   have HC611_2 := zz hl611_2
   clear hC611_2 hl611_2
   replace p611 := eq_true p611
   replace q611 := eq_true q611
   by_cases c7 : x5_kl4 < (l1.length : Int)
   case neg => exact zno H c7
   rw [if_pos c7] at H
   have c7b0 := z1 c7
   clear c7
   have p612 : 0 ≤ (x5_kl4 : Int) := z2
   have q612 : (x5_kl4 : Int) < (l1.length : Int) := z2
   obtain ⟨ad612, A612_2, c612_2, e612, hx612_0, hx612_1, hx612_2, hl612_2, hC612_2⟩ := at_T67 HR1.out x5_kl4 p612 q612
   cases e612
   replace hx612_0 := cellB hx612_0
   replace hx612_1 := cellB hx612_1
   replace hx612_2 := cellB hx612_2
   have HR612_2 := zz hC612_2
   have HC612_2 := zz hl612_2
   clear hC612_2 hl612_2
   replace p612 := eq_true p612
   replace q612 := eq_true q612
   replace H := zf H
   obtain ⟨t613, A8, H⟩ := H
   try dsimp only at H
   replace A8 := zz A8
   by_cases c9 : t613 = true
   ·subst c9
    rw [if_pos rfl] at H
    repeat (first | go_big_quiet_skip | (go_big_quiet_want; go_big_quiet_op; first | go_big_quiet_on | (with_reducible apply Exists.intro; refine ⟨fun W hW => ?_, ?_⟩; (first | with_reducible rfl | (go_at_call 97; exact callB (laws_eqProfile.calls kl4 _ _ _ _ _ _ _ _ _ _ _ _ (Kd.C_below HR611_2.out hW) HC611_2.out (Kd.C_below HR612_2.out hW) HC612_2.out A8.out) hW) | (go_simp; with_reducible rfl)); go_big_quiet_on)))
    clear HB
    refine zW fun w10 (HB : Below w.heap.size w w10) => ?_
    go_wp2_with (fail)
    go_roundg kl4
    case measure => have := HKkl4.out; omega
    case rel => exact ⟨(wrap64 (x5_kl4 + 1)), zr, ⟨H⟩, ⟨by have := HKkl4.out; omega⟩, ⟨zv HLkl4.out HB⟩⟩
   replace c9 := Bool.eq_false_iff.mpr c9
   subst c9
   rw [if_neg (by decide)] at H
   obtain rfl := zi H
   repeat (first | go_big_quiet_skip | (go_big_quiet_want; go_big_quiet_op; first | go_big_quiet_on | (with_reducible apply Exists.intro; refine ⟨fun W hW => ?_, ?_⟩; (first | with_reducible rfl | (go_at_call 97; exact callB (laws_eqProfile.calls kl4 _ _ _ _ _ _ _ _ _ _ _ _ (Kd.C_below HR611_2.out hW) HC611_2.out (Kd.C_below HR612_2.out hW) HC612_2.out A8.out) hW) | (go_simp; with_reducible rfl)); go_big_quiet_on)))
   clear HB
   refine zW fun w11 (HB : Below w.heap.size w w11) => ?_
   go_wp2_with (fail)
   go_ret
   exact ⟨ze, zv HW.out HB⟩
end Go.Proofs.YtcekmnclmldmmaaGreatDoor.Q
