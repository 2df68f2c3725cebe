import Derived.Test.YtcekmnclmldmmaaGreatDoorB43
set_option linter.unusedVariables false
set_option linter.unusedSimpArgs false
namespace Go.Proofs.YtcekmnclmldmmaaGreatDoor.Q
open Go.RowKit W1 W2 W3
attribute [local go_sem] max2_int min2_int max_two min_two max_three min_three max_four min_four
attribute [local go_sem high] bl_leq bl_gtr bl_geq
set_option maxHeartbeats 8000000
set_option maxRecDepth 100000
def laws_eqPending.f (k : Nat) (a0_0 : ByteArray) (l0_1 : List (S96)) (a0_2 : ByteArray) (a1_0 : ByteArray) (l1_1 : List (S96)) (a1_2 : ByteArray) : Option (Bool) := if a0_0.toList = a1_0.toList then ((laws_eqEntryS.f k l0_1 l1_1).bind fun t616 => (if t616 = true then (if a0_2.toList = a1_2.toList then (some true) else (some false)) else (some false))) else (some false)
theorem laws_eqPending.mono : ∀ a0 a1 a2 a3 a4 a5 k, LeO (laws_eqPending.f k a0 a1 a2 a3 a4 a5) (laws_eqPending.f (k + 1) a0 a1 a2 a3 a4 a5) := by
 intro a0 a1 a2 a3 a4 a5 k
 unfold laws_eqPending.f
 have m0 := @laws_eqEntryS.mono
 exact zM
theorem laws_eqPending.calls (k : Nat) (a0_0 : ByteArray) (A0_1 : Option Addr) (c0_1 : Nat) (l0_1 : List (S96)) (a0_2 : ByteArray) (a1_0 : ByteArray) (A1_1 : Option Addr) (c1_1 : Nat) (l1_1 : List (S96)) (a1_2 : ByteArray) (r : Bool) (w : World) (hr0_1 : Kd.C k96 w A0_1 l0_1.length l0_1) (hc0_1 : l0_1.length ≤ c0_1) (hr1_1 : Kd.C k96 w A1_1 l1_1.length l1_1) (hc1_1 : l1_1.length ≤ c1_1) (h : laws_eqPending.f k a0_0 l0_1 a0_2 a1_0 l1_1 a1_2 = some r) :
 Calls Tryz.prog 98 #[.agg #[.string a0_0, .slice A0_1 l0_1.length c0_1, .string a0_2], .agg #[.string a1_0, .slice A1_1 l1_1.length c1_1, .string a1_2]] w fun e w' => e = .returned (.bool r) ∧ Below w.heap.size w w' := by
 have hu61 := Tryz.underlying61
 have HR0_1 := zz hr0_1
 have HC0_1 := zz hc0_1
 clear hr0_1 hc0_1
 have HR1_1 := zz hr1_1
 have HC1_1 := zz hc1_1
 clear hr1_1 hc1_1
 have HB := zz (Below.refl w.heap.size w)
 unfold laws_eqPending.f at h
 have H := h
 clear h
 replace HB := HB.out
 have HW := zz (Below.refl w.heap.size w)
 go_enter Tryz.func98, Tryz.ntmps98
 by_cases c3 : a0_0.toList = a1_0.toList
 case neg =>
  rw [if_neg c3] at H
  obtain ⟨c3b0, c3b1⟩ := zw c3
  obtain rfl := zi H
  go_wp2_with (first | (refine zN 2 ?_; (try (refine z4 ?_; dsimp only)); refine zX 2 61 #[.string a0_0, .slice A0_1 l0_1.length c0_1, .string a0_2] ?_; intro gb614 hg w19 hbox hb; have hst := zv HB hb; clear hg hb HB; replace HW := zz (zv HW.out hst); replace HR0_1 := zz (Kd.C_below HR0_1.out hst); replace HR1_1 := zz (Kd.C_below HR1_1.out hst); obtain ⟨hbx614_0, hbx614_1, hbx614_2⟩ := zx3 hbox; have HB := Below.refl w19.heap.size w19; clear hbox hst) | (refine zN 3 ?_; (try (refine z4 ?_; dsimp only)); refine zX 3 61 #[.string a1_0, .slice A1_1 l1_1.length c1_1, .string a1_2] ?_; intro gb615 hg w20 hbox hb; have hst := zv HB hb; clear hg hb HB; replace HW := zz (zv HW.out hst); replace HR0_1 := zz (Kd.C_below HR0_1.out hst); replace HR1_1 := zz (Kd.C_below HR1_1.out hst); replace hbx614_0 := rebase hbx614_0 hst; replace hbx614_1 := rebase hbx614_1 hst; replace hbx614_2 := rebase hbx614_2 hst; obtain ⟨hbx615_0, hbx615_1, hbx615_2⟩ := zx3 hbox; have HB := Below.refl w20.heap.size w20; clear hbox hst))
  go_ret
  exact ⟨ze, zv HW.out HB⟩
 rw [if_pos c3] at H
 obtain ⟨c3b0, c3b1⟩ := zq c3
 clear c3
 replace H := zf H
 obtain ⟨t616, A4, H⟩ := H
 try dsimp only at H
 replace A4 := zz A4
 go_wp2_with (first | (refine zN 2 ?_; (try (refine z4 ?_; dsimp only)); refine zX 2 61 #[.string a0_0, .slice A0_1 l0_1.length c0_1, .string a0_2] ?_; intro gb614 hg w8 hbox hb; have hst := zv HB hb; clear hg hb HB; replace HW := zz (zv HW.out hst); replace HR0_1 := zz (Kd.C_below HR0_1.out hst); replace HR1_1 := zz (Kd.C_below HR1_1.out hst); obtain ⟨hbx614_0, hbx614_1, hbx614_2⟩ := zx3 hbox; have HB := Below.refl w8.heap.size w8; clear hbox hst) | (refine zN 3 ?_; (try (refine z4 ?_; dsimp only)); refine zX 3 61 #[.string a1_0, .slice A1_1 l1_1.length c1_1, .string a1_2] ?_; intro gb615 hg w9 hbox hb; have hst := zv HB hb; clear hg hb HB; replace HW := zz (zv HW.out hst); replace HR0_1 := zz (Kd.C_below HR0_1.out hst); replace HR1_1 := zz (Kd.C_below HR1_1.out hst); replace hbx614_0 := rebase hbx614_0 hst; replace hbx614_1 := rebase hbx614_1 hst; replace hbx614_2 := rebase hbx614_2 hst; obtain ⟨hbx615_0, hbx615_1, hbx615_2⟩ := zx3 hbox; have HB := Below.refl w9.heap.size w9; clear hbox hst))
 refine (laws_eqEntryS.calls k _ _ _ _ _ _ _ _ (Kd.C_below HR0_1.out HB) HC0_1.out (Kd.C_below HR1_1.out HB) HC1_1.out A4.out).mono ?_
 rintro e w10 ⟨rfl, hb⟩
 replace HB := zv HB hb
 clear hb
 by_cases c5 : t616 = true
 case neg =>
  replace c5 := Bool.eq_false_iff.mpr c5
  subst c5
  rw [if_neg (by decide)] at H
  obtain rfl := zi H
  go_wp2_with (fail)
  go_ret
  exact ⟨ze, zv HW.out HB⟩
 subst c5
 rw [if_pos rfl] at H
 by_cases c6 : a0_2.toList = a1_2.toList
 case neg =>
  rw [if_neg c6] at H
  obtain ⟨c6b0, c6b1⟩ := zw c6
  obtain rfl := zi H
  go_wp2_with (fail)
  go_ret
  exact ⟨ze, zv HW.out HB⟩
 rw [if_pos c6] at H
 obtain ⟨c6b0, c6b1⟩ := zq c6
 clear c6
 obtain rfl := zi H
 go_wp2_with (fail)
 go_ret
 exact ⟨ze, zv HW.out HB⟩
def laws_eqPendingS.l0 : Nat → List (S61) → List (S61) → Int → Option (Bool)
 | 0, _, _, _ => none
 | k + 1, x0, x1, x5 => if x5 < (x0.length : Int) then (if 0 ≤ x5 then (if x5 < (x1.length : Int) then ((laws_eqPending.f k ((rd_T61 x0 x5).f0) ((rd_T61 x0 x5).f1) ((rd_T61 x0 x5).f2) ((rd_T61 x1 x5).f0) ((rd_T61 x1 x5).f1) ((rd_T61 x1 x5).f2)).bind fun t619 => (if t619 = true then (laws_eqPendingS.l0 k x0 x1 (wrap64 (x5 + 1))) else (some false))) else (none)) else (none)) else (some true)
def laws_eqPendingS.f (k : Nat) (l0 : List (S61)) (l1 : List (S61)) : Option (Bool) := if (l0.length : Int) = (l1.length : Int) then (laws_eqPendingS.l0 k l0 l1 0) else (some false)
theorem laws_eqPendingS.mono_l : ∀ k, (∀ y0 y1 y2, LeO (laws_eqPendingS.l0 k y0 y1 y2) (laws_eqPendingS.l0 (k + 1) y0 y1 y2))
 | 0 => fun _ _ _ r h => by simp [laws_eqPendingS.l0] at h
 | k + 1 => by
  have ih0 := laws_eqPendingS.mono_l k
  ·intro y0 y1 y2
   unfold laws_eqPendingS.l0
   have m0 := @laws_eqPending.mono
   exact zM
theorem laws_eqPendingS.mono : ∀ a0 a1 k, LeO (laws_eqPendingS.f k a0 a1) (laws_eqPendingS.f (k + 1) a0 a1) := by
 intro a0 a1 k
 have ih0 := laws_eqPendingS.mono_l k
 unfold laws_eqPendingS.f
 have m0 := @laws_eqPending.mono
 exact zM
theorem laws_eqPendingS.calls (k : Nat) (A0 : Option Addr) (c0 : Nat) (l0 : List (S61)) (A1 : Option Addr) (c1 : Nat) (l1 : List (S61)) (r : Bool) (w : World) (hr0 : Kd.C k61 w A0 l0.length l0) (hc0 : l0.length ≤ c0) (hr1 : Kd.C k61 w A1 l1.length l1) (hc1 : l1.length ≤ c1) (h : laws_eqPendingS.f k l0 l1 = some r) :
 Calls Tryz.prog 50 #[.slice A0 l0.length c0, .slice A1 l1.length c1] w fun e w' => e = .returned (.bool r) ∧ Below w.heap.size w w' := by
 have hu61 := Tryz.underlying61
 have HR0 := zz hr0
 have HC0 := zz hc0
 clear hr0 hc0
 have HR1 := zz hr1
 have HC1 := zz hc1
 clear hr1 hc1
 have HB := zz (Below.refl w.heap.size w)
 unfold laws_eqPendingS.f at h
 have H := h
 clear h
 replace HB := HB.out
 have HW := zz (Below.refl w.heap.size w)
 go_enter Tryz.func50, Tryz.ntmps50
 by_cases c3 : (l0.length : Int) = (l1.length : Int)
 case neg =>
  rw [if_neg c3] at H
  obtain ⟨c3b0, c3b1⟩ := zw c3
  have c3b2 : (l0.length == l1.length) = false := by first | simpa using c3 | (simp at c3 ⊢; omega)
  obtain rfl := zi H
  go_wp2_with (fail)
  go_ret
  exact ⟨ze, zv HW.out HB⟩
 rw [if_pos c3] at H
 obtain ⟨c3b0, c3b1⟩ := zq c3
 have c3b2 : (l0.length == l1.length) = true := by first | simpa using c3 | (simp at c3 ⊢; omega)
 clear c3
 go_wp2_with (fail)
 go_loopg [5] k (fun kq v5 w' => ∃ (x5_kl4 : Int), v5 = .int .i64 x5_kl4 ∧ Aside0 (laws_eqPendingS.l0 kq l0 l1 x5_kl4 = some r) ∧ Aside0 (kq ≤ k) ∧ Aside0 (Below w.heap.size w w'))
 case atStart => exact ⟨(0), zr, ⟨H⟩, ⟨Nat.le_refl _⟩, ⟨HB⟩⟩
 case round =>
  clear H HB
  obtain ⟨x5_kl4, rfl, H, HKkl4, HB⟩ := hrel
  replace HB := HB.out
  replace H := H.out
  have HLkl4 := zz (Below.refl w.heap.size w)
  cases gk with
  | zero => exact absurd H (by simp [laws_eqPendingS.l0])
  | succ kl4 =>
   simp only [laws_eqPendingS.l0] at H
   by_cases c5 : x5_kl4 < (l0.length : Int)
   case neg =>
    rw [if_neg c5] at H
    have c5b0 := z0 c5
    clear c5
    obtain rfl := zi H
    go_wp2_with (fail)
    go_ret
    exact ⟨ze, zv HW.out HB⟩
   rw [if_pos c5] at H
   have c5b0 := z1 c5
   clear c5
   go_wp2_with (fail)
   try simp only [Act.put, List.setIfInBounds_toArray, List.set_cons_zero, List.set_cons_succ]
   refine wp_region_inv_lit (C := fun W_ => Below w.heap.size w W_) zk zk (below_drew1 HB) ?_
   by_cases c6 : 0 ≤ x5_kl4
   case neg => exact zno H c6
   rw [if_pos c6] at H
   have c6b0 := z1 c6
   clear c6
   have p617 : 0 ≤ (x5_kl4 : Int) := z2
   have q617 : (x5_kl4 : Int) < (l0.length : Int) := z2
   obtain ⟨ad617, A617_1, c617_1, e617, hx617_0, hx617_1, hx617_2, hl617_1, hC617_1⟩ := at_T61 HR0.out x5_kl4 p617 q617
   cases e617
   replace hx617_0 := cellB hx617_0
   replace hx617_1 := cellB hx617_1
   replace hx617_2 := cellB hx617_2
   have HR617_1 := zz hC617_1
   have HC617_1 := zz hl617_1
   clear hC617_1 hl617_1
   replace p617 := eq_true p617
   replace q617 := eq_true q617
   by_cases c7 : x5_kl4 < (l1.length : Int)
   case neg => exact zno H c7
   rw [if_pos c7] at H
   have c7b0 := z1 c7
   clear c7
   have p618 : 0 ≤ (x5_kl4 : Int) := z2
   have q618 : (x5_kl4 : Int) < (l1.length : Int) := z2
   obtain ⟨ad618, A618_1, c618_1, e618, hx618_0, hx618_1, hx618_2, hl618_1, hC618_1⟩ := at_T61 HR1.out x5_kl4 p618 q618
   cases e618
   replace hx618_0 := cellB hx618_0
   replace hx618_1 := cellB hx618_1
   replace hx618_2 := cellB hx618_2
   have HR618_1 := zz hC618_1
   have HC618_1 := zz hl618_1
   clear hC618_1 hl618_1
   replace p618 := eq_true p618
   replace q618 := eq_true q618
   replace H := zf H
   obtain ⟨t619, A8, H⟩ := H
   try dsimp only at H
   replace A8 := zz A8
   by_cases c9 : t619 = true
   ·subst c9
    rw [if_pos rfl] at H
    repeat (first | go_big_quiet_skip | (go_big_quiet_want; go_big_quiet_op; first | go_big_quiet_on | (with_reducible apply Exists.intro; refine ⟨fun W hW => ?_, ?_⟩; (first | with_reducible rfl | (go_at_call 98; exact callB (laws_eqPending.calls kl4 _ _ _ _ _ _ _ _ _ _ _ _ (Kd.C_below HR617_1.out hW) HC617_1.out (Kd.C_below HR618_1.out hW) HC618_1.out A8.out) hW) | (go_simp; with_reducible rfl)); go_big_quiet_on)))
    clear HB
    refine zW fun w10 (HB : Below w.heap.size w w10) => ?_
    go_wp2_with (fail)
    go_roundg kl4
    case measure => have := HKkl4.out; omega
    case rel => exact ⟨(wrap64 (x5_kl4 + 1)), zr, ⟨H⟩, ⟨by have := HKkl4.out; omega⟩, ⟨zv HLkl4.out HB⟩⟩
   replace c9 := Bool.eq_false_iff.mpr c9
   subst c9
   rw [if_neg (by decide)] at H
   obtain rfl := zi H
   repeat (first | go_big_quiet_skip | (go_big_quiet_want; go_big_quiet_op; first | go_big_quiet_on | (with_reducible apply Exists.intro; refine ⟨fun W hW => ?_, ?_⟩; (first | with_reducible rfl | (go_at_call 98; exact callB (laws_eqPending.calls kl4 _ _ _ _ _ _ _ _ _ _ _ _ (Kd.C_below HR617_1.out hW) HC617_1.out (Kd.C_below HR618_1.out hW) HC618_1.out A8.out) hW) | (go_simp; with_reducible rfl)); go_big_quiet_on)))
   clear HB
   refine zW fun w11 (HB : Below w.heap.size w w11) => ?_
   go_wp2_with (fail)
   go_ret
   exact ⟨ze, zv HW.out HB⟩
def laws_eqNext.f (a0_0 : ByteArray) (a0_1 : ByteArray) (a1_0 : ByteArray) (a1_1 : ByteArray) : Option (Bool) := if a0_0.toList = a1_0.toList then (if a0_1.toList = a1_1.toList then (some true) else (some false)) else (some false)
theorem laws_eqNext.calls (a0_0 : ByteArray) (a0_1 : ByteArray) (a1_0 : ByteArray) (a1_1 : ByteArray) (r : Bool) (w : World) (h : laws_eqNext.f a0_0 a0_1 a1_0 a1_1 = some r) :
 Calls Tryz.prog 99 #[.agg #[.string a0_0, .string a0_1], .agg #[.string a1_0, .string a1_1]] w fun e w' => e = .returned (.bool r) ∧ Below w.heap.size w w' := by
 have hu64 := Tryz.underlying64
 have HB := zz (Below.refl w.heap.size w)
 unfold laws_eqNext.f at h
 have H := h
 clear h
 replace HB := HB.out
 have HW := zz (Below.refl w.heap.size w)
 go_enter Tryz.func99, Tryz.ntmps99
 by_cases c3 : a0_0.toList = a1_0.toList
 case neg =>
  rw [if_neg c3] at H
  obtain ⟨c3b0, c3b1⟩ := zw c3
  obtain rfl := zi H
  go_wp2_with (first | (refine zN 2 ?_; (try (refine z4 ?_; dsimp only)); refine zX 2 64 #[.string a0_0, .string a0_1] ?_; intro gb620 hg w9 hbox hb; have hst := zv HB hb; clear hg hb HB; replace HW := zz (zv HW.out hst); obtain ⟨hbx620_0, hbx620_1⟩ := zx2 hbox; have HB := Below.refl w9.heap.size w9; clear hbox hst) | (refine zN 3 ?_; (try (refine z4 ?_; dsimp only)); refine zX 3 64 #[.string a1_0, .string a1_1] ?_; intro gb621 hg w10 hbox hb; have hst := zv HB hb; clear hg hb HB; replace HW := zz (zv HW.out hst); replace hbx620_0 := rebase hbx620_0 hst; replace hbx620_1 := rebase hbx620_1 hst; obtain ⟨hbx621_0, hbx621_1⟩ := zx2 hbox; have HB := Below.refl w10.heap.size w10; clear hbox hst))
  go_ret
  exact ⟨ze, zv HW.out HB⟩
 rw [if_pos c3] at H
 obtain ⟨c3b0, c3b1⟩ := zq c3
 clear c3
 by_cases c4 : a0_1.toList = a1_1.toList
 case neg =>
  rw [if_neg c4] at H
  obtain ⟨c4b0, c4b1⟩ := zw c4
  obtain rfl := zi H
  go_wp2_with (first | (refine zN 2 ?_; (try (refine z4 ?_; dsimp only)); refine zX 2 64 #[.string a0_0, .string a0_1] ?_; intro gb620 hg w7 hbox hb; have hst := zv HB hb; clear hg hb HB; replace HW := zz (zv HW.out hst); obtain ⟨hbx620_0, hbx620_1⟩ := zx2 hbox; have HB := Below.refl w7.heap.size w7; clear hbox hst) | (refine zN 3 ?_; (try (refine z4 ?_; dsimp only)); refine zX 3 64 #[.string a1_0, .string a1_1] ?_; intro gb621 hg w8 hbox hb; have hst := zv HB hb; clear hg hb HB; replace HW := zz (zv HW.out hst); replace hbx620_0 := rebase hbx620_0 hst; replace hbx620_1 := rebase hbx620_1 hst; obtain ⟨hbx621_0, hbx621_1⟩ := zx2 hbox; have HB := Below.refl w8.heap.size w8; clear hbox hst))
  go_ret
  exact ⟨ze, zv HW.out HB⟩
 rw [if_pos c4] at H
 obtain ⟨c4b0, c4b1⟩ := zq c4
 clear c4
 obtain rfl := zi H
 go_wp2_with (first | (refine zN 2 ?_; (try (refine z4 ?_; dsimp only)); refine zX 2 64 #[.string a0_0, .string a0_1] ?_; intro gb620 hg w5 hbox hb; have hst := zv HB hb; clear hg hb HB; replace HW := zz (zv HW.out hst); obtain ⟨hbx620_0, hbx620_1⟩ := zx2 hbox; have HB := Below.refl w5.heap.size w5; clear hbox hst) | (refine zN 3 ?_; (try (refine z4 ?_; dsimp only)); refine zX 3 64 #[.string a1_0, .string a1_1] ?_; intro gb621 hg w6 hbox hb; have hst := zv HB hb; clear hg hb HB; replace HW := zz (zv HW.out hst); replace hbx620_0 := rebase hbx620_0 hst; replace hbx620_1 := rebase hbx620_1 hst; obtain ⟨hbx621_0, hbx621_1⟩ := zx2 hbox; have HB := Below.refl w6.heap.size w6; clear hbox hst))
 go_ret
 exact ⟨ze, zv HW.out HB⟩
def laws_eqNextS.l0 : Nat → List (S64) → List (S64) → Int → Option (Bool)
 | 0, _, _, _ => none
 | k + 1, x0, x1, x5 => if x5 < (x0.length : Int) then (if 0 ≤ x5 then (if x5 < (x1.length : Int) then ((laws_eqNext.f ((rd_T64 x0 x5).f0) ((rd_T64 x0 x5).f1) ((rd_T64 x1 x5).f0) ((rd_T64 x1 x5).f1)).bind fun t624 => (if t624 = true then (laws_eqNextS.l0 k x0 x1 (wrap64 (x5 + 1))) else (some false))) else (none)) else (none)) else (some true)
def laws_eqNextS.f (k : Nat) (l0 : List (S64)) (l1 : List (S64)) : Option (Bool) := if (l0.length : Int) = (l1.length : Int) then (laws_eqNextS.l0 k l0 l1 0) else (some false)
theorem laws_eqNextS.mono_l : ∀ k, (∀ y0 y1 y2, LeO (laws_eqNextS.l0 k y0 y1 y2) (laws_eqNextS.l0 (k + 1) y0 y1 y2))
 | 0 => fun _ _ _ r h => by simp [laws_eqNextS.l0] at h
 | k + 1 => by
  have ih0 := laws_eqNextS.mono_l k
  ·intro y0 y1 y2
   unfold laws_eqNextS.l0
   exact zM
theorem laws_eqNextS.mono : ∀ a0 a1 k, LeO (laws_eqNextS.f k a0 a1) (laws_eqNextS.f (k + 1) a0 a1) := by
 intro a0 a1 k
 have ih0 := laws_eqNextS.mono_l k
 unfold laws_eqNextS.f
 exact zM
theorem laws_eqNextS.calls (k : Nat) (A0 : Option Addr) (c0 : Nat) (l0 : List (S64)) (A1 : Option Addr) (c1 : Nat) (l1 : List (S64)) (r : Bool) (w : World) (hr0 : Kd.C k64 w A0 l0.length l0) (hc0 : l0.length ≤ c0) (hr1 : Kd.C k64 w A1 l1.length l1) (hc1 : l1.length ≤ c1) (h : laws_eqNextS.f k l0 l1 = some r) :
 Calls Tryz.prog 51 #[.slice A0 l0.length c0, .slice A1 l1.length c1] w fun e w' => e = .returned (.bool r) ∧ Below w.heap.size w w' := by
 have hu64 := Tryz.underlying64
 have HR0 := zz hr0
 have HC0 := zz hc0
 clear hr0 hc0
 have HR1 := zz hr1
 have HC1 := zz hc1
 clear hr1 hc1
 have HB := zz (Below.refl w.heap.size w)
 unfold laws_eqNextS.f at h
 have H := h
 clear h
 replace HB := HB.out
 have HW := zz (Below.refl w.heap.size w)
 go_enter Tryz.func51, Tryz.ntmps51
 by_cases c3 : (l0.length : Int) = (l1.length : Int)
 case neg =>
  rw [if_neg c3] at H
  obtain ⟨c3b0, c3b1⟩ := zw c3
  have c3b2 : (l0.length == l1.length) = false := by first | simpa using c3 | (simp at c3 ⊢; omega)
  obtain rfl := zi H
  go_wp2_with (fail)
  go_ret
  exact ⟨ze, zv HW.out HB⟩
 rw [if_pos c3] at H
 obtain ⟨c3b0, c3b1⟩ := zq c3
 have c3b2 : (l0.length == l1.length) = true := by first | simpa using c3 | (simp at c3 ⊢; omega)
 clear c3
 go_wp2_with (fail)
 go_loopg [5] k (fun kq v5 w' => ∃ (x5_kl4 : Int), v5 = .int .i64 x5_kl4 ∧ Aside0 (laws_eqNextS.l0 kq l0 l1 x5_kl4 = some r) ∧ Aside0 (kq ≤ k) ∧ Aside0 (Below w.heap.size w w'))
 case atStart => exact ⟨(0), zr, ⟨H⟩, ⟨Nat.le_refl _⟩, ⟨HB⟩⟩
 case round =>
  clear H HB
  obtain ⟨x5_kl4, rfl, H, HKkl4, HB⟩ := hrel
  replace HB := HB.out
  replace H := H.out
  have HLkl4 := zz (Below.refl w.heap.size w)
  cases gk with
  | zero => exact absurd H (by simp [laws_eqNextS.l0])
  | succ kl4 =>
   simp only [laws_eqNextS.l0] at H
   by_cases c5 : x5_kl4 < (l0.length : Int)
   case neg =>
    rw [if_neg c5] at H
    have c5b0 := z0 c5
    clear c5
    obtain rfl := zi H
    go_wp2_with (fail)
    go_ret
    exact ⟨ze, zv HW.out HB⟩
   rw [if_pos c5] at H
   have c5b0 := z1 c5
   clear c5
   go_wp2_with (fail)
   try simp only [Act.put, List.setIfInBounds_toArray, List.set_cons_zero, List.set_cons_succ]
   refine wp_region_inv_lit (C := fun W_ => Below w.heap.size w W_) zk zk (below_drew1 HB) ?_
   by_cases c6 : 0 ≤ x5_kl4
   case neg => exact zno H c6
   rw [if_pos c6] at H
   have c6b0 := z1 c6
   clear c6
   have p622 : 0 ≤ (x5_kl4 : Int) := z2
   have q622 : (x5_kl4 : Int) < (l0.length : Int) := z2
   obtain ⟨ad622, e622, hx622_0, hx622_1⟩ := at_T64 HR0.out x5_kl4 p622 q622
   cases e622
   replace hx622_0 := cellB hx622_0
   replace hx622_1 := cellB hx622_1
   replace p622 := eq_true p622
   replace q622 := eq_true q622
   by_cases c7 : x5_kl4 < (l1.length : Int)
   case neg => exact zno H c7
   rw [if_pos c7] at H
   have c7b0 := z1 c7
   clear c7
   have p623 : 0 ≤ (x5_kl4 : Int) := z2
   have q623 : (x5_kl4 : Int) < (l1.length : Int) := z2
   obtain ⟨ad623, e623, hx623_0, hx623_1⟩ := at_T64 HR1.out x5_kl4 p623 q623
   cases e623
   replace hx623_0 := cellB hx623_0
   replace hx623_1 := cellB hx623_1
   replace p623 := eq_true p623
   replace q623 := eq_true q623
   replace H := zf H
   obtain ⟨t624, A8, H⟩ := H
   try dsimp only at H
   replace A8 := zz A8
   by_cases c9 : t624 = true
   ·subst c9
    rw [if_pos rfl] at H
    repeat (first | go_big_quiet_skip | (go_big_quiet_want; go_big_quiet_op; first | go_big_quiet_on | (with_reducible apply Exists.intro; refine ⟨fun W hW => ?_, ?_⟩; (first | with_reducible rfl | (go_at_call 99; exact callB (laws_eqNext.calls _ _ _ _ _ _  A8.out) hW) | (go_simp; with_reducible rfl)); go_big_quiet_on)))
    clear HB
    refine zW fun w10 (HB : Below w.heap.size w w10) => ?_
    go_wp2_with (fail)
    go_roundg kl4
    case measure => have := HKkl4.out; omega
    case rel => exact ⟨(wrap64 (x5_kl4 + 1)), zr, ⟨H⟩, ⟨by have := HKkl4.out; omega⟩, ⟨zv HLkl4.out HB⟩⟩
   replace c9 := Bool.eq_false_iff.mpr c9
   subst c9
   rw [if_neg (by decide)] at H
   obtain rfl := zi H
   repeat (first | go_big_quiet_skip | (go_big_quiet_want; go_big_quiet_op; first | go_big_quiet_on | (with_reducible apply Exists.intro; refine ⟨fun W hW => ?_, ?_⟩; (first | with_reducible rfl | (go_at_call 99; exact callB (laws_eqNext.calls _ _ _ _ _ _  A8.out) hW) | (go_simp; with_reducible rfl)); go_big_quiet_on)))
   clear HB
   refine zW fun w11 (HB : Below w.heap.size w w11) => ?_
   go_wp2_with (fail)
   go_ret
   exact ⟨ze, zv HW.out HB⟩
def laws_eqWorld.f (k : Nat) (l0_0 : List (S94)) (l0_1 : List (S67)) (l0_2 : List (S61)) (l0_3 : List (S64)) (l1_0 : List (S94)) (l1_1 : List (S67)) (l1_2 : List (S61)) (l1_3 : List (S64)) : Option (Bool) := (laws_eqItemS.f k l0_0 l1_0).bind fun t627 => (if t627 = true then ((laws_eqProfileS.f k l0_1 l1_1).bind fun t628 => (if t628 = true then ((laws_eqPendingS.f k l0_2 l1_2).bind fun t629 => (if t629 = true then ((laws_eqNextS.f k l0_3 l1_3).bind fun t630 => (if t630 = true then (some true) else (some false))) else (some false))) else (some false))) else (some false))
theorem laws_eqWorld.mono : ∀ a0 a1 a2 a3 a4 a5 a6 a7 k, LeO (laws_eqWorld.f k a0 a1 a2 a3 a4 a5 a6 a7) (laws_eqWorld.f (k + 1) a0 a1 a2 a3 a4 a5 a6 a7) := by
 intro a0 a1 a2 a3 a4 a5 a6 a7 k
 unfold laws_eqWorld.f
 have m0 := @laws_eqItemS.mono
 have m1 := @laws_eqNextS.mono
 have m2 := @laws_eqPendingS.mono
 have m3 := @laws_eqProfileS.mono
 exact zM
theorem laws_eqWorld.calls (k : Nat) (A0_0 : Option Addr) (c0_0 : Nat) (l0_0 : List (S94)) (A0_1 : Option Addr) (c0_1 : Nat) (l0_1 : List (S67)) (A0_2 : Option Addr) (c0_2 : Nat) (l0_2 : List (S61)) (A0_3 : Option Addr) (c0_3 : Nat) (l0_3 : List (S64)) (A1_0 : Option Addr) (c1_0 : Nat) (l1_0 : List (S94)) (A1_1 : Option Addr) (c1_1 : Nat) (l1_1 : List (S67)) (A1_2 : Option Addr) (c1_2 : Nat) (l1_2 : List (S61)) (A1_3 : Option Addr) (c1_3 : Nat) (l1_3 : List (S64)) (r : Bool) (w : World) (hr0_0 : Kd.C k94 w A0_0 l0_0.length l0_0) (hc0_0 : l0_0.length ≤ c0_0) (hr0_1 : Kd.C k67 w A0_1 l0_1.length l0_1) (hc0_1 : l0_1.length ≤ c0_1) (hr0_2 : Kd.C k61 w A0_2 l0_2.length l0_2) (hc0_2 : l0_2.length ≤ c0_2) (hr0_3 : Kd.C k64 w A0_3 l0_3.length l0_3) (hc0_3 : l0_3.length ≤ c0_3) (hr1_0 : Kd.C k94 w A1_0 l1_0.length l1_0) (hc1_0 : l1_0.length ≤ c1_0) (hr1_1 : Kd.C k67 w A1_1 l1_1.length l1_1) (hc1_1 : l1_1.length ≤ c1_1) (hr1_2 : Kd.C k61 w A1_2 l1_2.length l1_2) (hc1_2 : l1_2.length ≤ c1_2) (hr1_3 : Kd.C k64 w A1_3 l1_3.length l1_3) (hc1_3 : l1_3.length ≤ c1_3) (h : laws_eqWorld.f k l0_0 l0_1 l0_2 l0_3 l1_0 l1_1 l1_2 l1_3 = some r) :
 Calls Tryz.prog 11 #[.agg #[.slice A0_0 l0_0.length c0_0, .slice A0_1 l0_1.length c0_1, .slice A0_2 l0_2.length c0_2, .slice A0_3 l0_3.length c0_3], .agg #[.slice A1_0 l1_0.length c1_0, .slice A1_1 l1_1.length c1_1, .slice A1_2 l1_2.length c1_2, .slice A1_3 l1_3.length c1_3]] w fun e w' => e = .returned (.bool r) ∧ Below w.heap.size w w' := by
 have hu35 := Tryz.underlying35
 have HR0_0 := zz hr0_0
 have HC0_0 := zz hc0_0
 clear hr0_0 hc0_0
 have HR0_1 := zz hr0_1
 have HC0_1 := zz hc0_1
 clear hr0_1 hc0_1
 have HR0_2 := zz hr0_2
 have HC0_2 := zz hc0_2
 clear hr0_2 hc0_2
 have HR0_3 := zz hr0_3
 have HC0_3 := zz hc0_3
 clear hr0_3 hc0_3
 have HR1_0 := zz hr1_0
 have HC1_0 := zz hc1_0
 clear hr1_0 hc1_0
 have HR1_1 := zz hr1_1
 have HC1_1 := zz hc1_1
 clear hr1_1 hc1_1
 have HR1_2 := zz hr1_2
 have HC1_2 := zz hc1_2
 clear hr1_2 hc1_2
 have HR1_3 := zz hr1_3
 have HC1_3 := zz hc1_3
 clear hr1_3 hc1_3
 have HB := zz (Below.refl w.heap.size w)
 unfold laws_eqWorld.f at h
 have H := h
 clear h
 replace HB := HB.out
 have HW := zz (Below.refl w.heap.size w)
 go_enter Tryz.func11, Tryz.ntmps11
 replace H := zf H
 obtain ⟨t627, A3, H⟩ := H
 try dsimp only at H
 replace A3 := zz A3
 go_wp2_with (first | (refine zN 2 ?_; (try (refine z4 ?_; dsimp only)); refine zX 2 35 #[.slice A0_0 l0_0.length c0_0, .slice A0_1 l0_1.length c0_1, .slice A0_2 l0_2.length c0_2, .slice A0_3 l0_3.length c0_3] ?_; intro gb625 hg w6 hbox hb; have hst := zv HB hb; clear hg hb HB; replace HW := zz (zv HW.out hst); replace HR0_0 := zz (Kd.C_below HR0_0.out hst); replace HR0_1 := zz (Kd.C_below HR0_1.out hst); replace HR0_2 := zz (Kd.C_below HR0_2.out hst); replace HR0_3 := zz (Kd.C_below HR0_3.out hst); replace HR1_0 := zz (Kd.C_below HR1_0.out hst); replace HR1_1 := zz (Kd.C_below HR1_1.out hst); replace HR1_2 := zz (Kd.C_below HR1_2.out hst); replace HR1_3 := zz (Kd.C_below HR1_3.out hst); obtain ⟨hbx625_0, hbx625_1, hbx625_2, hbx625_3⟩ := zx4 hbox; have HB := Below.refl w6.heap.size w6; clear hbox hst) | (refine zN 3 ?_; (try (refine z4 ?_; dsimp only)); refine zX 3 35 #[.slice A1_0 l1_0.length c1_0, .slice A1_1 l1_1.length c1_1, .slice A1_2 l1_2.length c1_2, .slice A1_3 l1_3.length c1_3] ?_; intro gb626 hg w7 hbox hb; have hst := zv HB hb; clear hg hb HB; replace HW := zz (zv HW.out hst); replace HR0_0 := zz (Kd.C_below HR0_0.out hst); replace HR0_1 := zz (Kd.C_below HR0_1.out hst); replace HR0_2 := zz (Kd.C_below HR0_2.out hst); replace HR0_3 := zz (Kd.C_below HR0_3.out hst); replace HR1_0 := zz (Kd.C_below HR1_0.out hst); replace HR1_1 := zz (Kd.C_below HR1_1.out hst); replace HR1_2 := zz (Kd.C_below HR1_2.out hst); replace HR1_3 := zz (Kd.C_below HR1_3.out hst); replace hbx625_0 := rebase hbx625_0 hst; replace hbx625_1 := rebase hbx625_1 hst; replace hbx625_2 := rebase hbx625_2 hst; replace hbx625_3 := rebase hbx625_3 hst; obtain ⟨hbx626_0, hbx626_1, hbx626_2, hbx626_3⟩ := zx4 hbox; have HB := Below.refl w7.heap.size w7; clear hbox hst))
 refine (laws_eqItemS.calls k _ _ _ _ _ _ _ _ (Kd.C_below HR0_0.out HB) HC0_0.out (Kd.C_below HR1_0.out HB) HC1_0.out A3.out).mono ?_
 rintro e w8 ⟨rfl, hb⟩
 replace HB := zv HB hb
 clear hb
 by_cases c4 : t627 = true
 case neg =>
  replace c4 := Bool.eq_false_iff.mpr c4
  subst c4
  rw [if_neg (by decide)] at H
  obtain rfl := zi H
  go_wp2_with (fail)
  go_ret
  exact ⟨ze, zv HW.out HB⟩
 subst c4
 rw [if_pos rfl] at H
 replace H := zf H
 obtain ⟨t628, A9, H⟩ := H
 try dsimp only at H
 replace A9 := zz A9
 by_cases c10 : t628 = true
 case neg =>
  replace c10 := Bool.eq_false_iff.mpr c10
  subst c10
  rw [if_neg (by decide)] at H
  go_wp2_with (fail)
  refine (laws_eqProfileS.calls k _ _ _ _ _ _ _ _ (Kd.C_below HR0_1.out HB) HC0_1.out (Kd.C_below HR1_1.out HB) HC1_1.out A9.out).mono ?_
  rintro e w26 ⟨rfl, hb⟩
  replace HB := zv HB hb
  clear hb
  obtain rfl := zi H
  go_wp2_with (fail)
  go_ret
  exact ⟨ze, zv HW.out HB⟩
 subst c10
 rw [if_pos rfl] at H
 go_wp2_with (fail)
 refine (laws_eqProfileS.calls k _ _ _ _ _ _ _ _ (Kd.C_below HR0_1.out HB) HC0_1.out (Kd.C_below HR1_1.out HB) HC1_1.out A9.out).mono ?_
 rintro e w12 ⟨rfl, hb⟩
 replace HB := zv HB hb
 clear hb
 replace H := zf H
 obtain ⟨t629, A13, H⟩ := H
 try dsimp only at H
 replace A13 := zz A13
 by_cases c14 : t629 = true
 case neg =>
  replace c14 := Bool.eq_false_iff.mpr c14
  subst c14
  rw [if_neg (by decide)] at H
  go_wp2_with (fail)
  refine (laws_eqPendingS.calls k _ _ _ _ _ _ _ _ (Kd.C_below HR0_2.out HB) HC0_2.out (Kd.C_below HR1_2.out HB) HC1_2.out A13.out).mono ?_
  rintro e w24 ⟨rfl, hb⟩
  replace HB := zv HB hb
  clear hb
  obtain rfl := zi H
  go_wp2_with (fail)
  go_ret
  exact ⟨ze, zv HW.out HB⟩
 subst c14
 rw [if_pos rfl] at H
 go_wp2_with (fail)
 refine (laws_eqPendingS.calls k _ _ _ _ _ _ _ _ (Kd.C_below HR0_2.out HB) HC0_2.out (Kd.C_below HR1_2.out HB) HC1_2.out A13.out).mono ?_
 rintro e w16 ⟨rfl, hb⟩
 replace HB := zv HB hb
 clear hb
 replace H := zf H
 obtain ⟨t630, A17, H⟩ := H
 try dsimp only at H
 replace A17 := zz A17
 by_cases c18 : t630 = true
 ·subst c18
  rw [if_pos rfl] at H
  go_wp2_with (fail)
  refine (laws_eqNextS.calls k _ _ _ _ _ _ _ _ (Kd.C_below HR0_3.out HB) HC0_3.out (Kd.C_below HR1_3.out HB) HC1_3.out A17.out).mono ?_
  rintro e w20 ⟨rfl, hb⟩
  replace HB := zv HB hb
  clear hb
  obtain rfl := zi H
  go_wp2_with (fail)
  go_ret
  exact ⟨ze, zv HW.out HB⟩
 replace c18 := Bool.eq_false_iff.mpr c18
 subst c18
 rw [if_neg (by decide)] at H
 go_wp2_with (fail)
 refine (laws_eqNextS.calls k _ _ _ _ _ _ _ _ (Kd.C_below HR0_3.out HB) HC0_3.out (Kd.C_below HR1_3.out HB) HC1_3.out A17.out).mono ?_
 rintro e w22 ⟨rfl, hb⟩
 replace HB := zv HB hb
 clear hb
 obtain rfl := zi H
 go_wp2_with (fail)
 go_ret
 exact ⟨ze, zv HW.out HB⟩
end Go.Proofs.YtcekmnclmldmmaaGreatDoor.Q
