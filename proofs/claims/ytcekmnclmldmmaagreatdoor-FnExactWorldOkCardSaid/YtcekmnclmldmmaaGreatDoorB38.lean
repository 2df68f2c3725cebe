import Derived.Test.YtcekmnclmldmmaaGreatDoorB37
set_option linter.unusedVariables false
set_option linter.unusedSimpArgs false
namespace Go.Proofs.YtcekmnclmldmmaaGreatDoor.Q
open Go.RowKit W1 W2 W3
attribute [local go_sem] max2_int min2_int max_two min_two max_three min_three max_four min_four
attribute [local go_sem high] bl_leq bl_gtr bl_geq
set_option maxHeartbeats 8000000
set_option maxRecDepth 100000
def laws_szPending.f (k : Nat) (a0_0 : ByteArray) (l0_1 : List (S159)) (a0_2 : ByteArray) (a1 : Int) : Option (Int) := if (wrap64 (a1 - (a0_0.size : Int))) < 0 then (some (-1)) else ((laws_szEntryS.f k l0_1 (wrap64 (a1 - (a0_0.size : Int)))).bind fun t118 => (if t118 < 0 then (some (-1)) else (if (wrap64 (t118 - (a0_2.size : Int))) < 0 then (some (-1)) else (some (wrap64 (t118 - (a0_2.size : Int)))))))
theorem laws_szPending.mono : ∀ a0 a1 a2 a3 k, LeO (laws_szPending.f k a0 a1 a2 a3) (laws_szPending.f (k + 1) a0 a1 a2 a3) := by
 intro a0 a1 a2 a3 k
 unfold laws_szPending.f
 have m0 := @laws_szEntryS.mono
 exact zM
theorem laws_szPending.calls (k : Nat) (a0_0 : ByteArray) (A0_1 : Option Addr) (c0_1 : Nat) (l0_1 : List (S159)) (a0_2 : ByteArray) (a1 : Int) (r : Int) (w : World) (hr0_1 : Kd.C k159 w A0_1 l0_1.length l0_1) (hc0_1 : l0_1.length ≤ c0_1) (h : laws_szPending.f k a0_0 l0_1 a0_2 a1 = some r) :
 Calls Tryz.prog 76 #[.agg #[.string a0_0, .slice A0_1 l0_1.length c0_1, .string a0_2], .int .i64 a1] w fun e w' => e = .returned (.int .i64 r) ∧ Below w.heap.size w w' := by
 have hu110 := Tryz.underlying110
 have HR0_1 := zz hr0_1
 have HC0_1 := zz hc0_1
 clear hr0_1 hc0_1
 have HB := zz (Below.refl w.heap.size w)
 unfold laws_szPending.f at h
 have H := h
 clear h
 replace HB := HB.out
 have HW := zz (Below.refl w.heap.size w)
 go_enter Tryz.func76, Tryz.ntmps76
 by_cases c3 : (wrap64 (a1 - (a0_0.size : Int))) < 0
 ·rw [if_pos c3] at H
  have c3b0 := z1 c3
  clear c3
  obtain rfl := zi H
  go_wp2_with (first | (refine zN 2 ?_; (try (refine z4 ?_; dsimp only)); refine zX 2 110 #[.string a0_0, .slice A0_1 l0_1.length c0_1, .string a0_2] ?_; intro gb117 hg w4 hbox hb; have hst := zv HB hb; clear hg hb HB; replace HW := zz (zv HW.out hst); replace HR0_1 := zz (Kd.C_below HR0_1.out hst); obtain ⟨hbx117_0, hbx117_1, hbx117_2⟩ := zx3 hbox; have HB := Below.refl w4.heap.size w4; clear hbox hst))
  go_ret
  exact ⟨ze, zv HW.out HB⟩
 rw [if_neg c3] at H
 have c3b0 := z0 c3
 clear c3
 replace H := zf H
 obtain ⟨t118, A5, H⟩ := H
 try dsimp only at H
 replace A5 := zz A5
 go_wp2_with (first | (refine zN 2 ?_; (try (refine z4 ?_; dsimp only)); refine zX 2 110 #[.string a0_0, .slice A0_1 l0_1.length c0_1, .string a0_2] ?_; intro gb117 hg w8 hbox hb; have hst := zv HB hb; clear hg hb HB; replace HW := zz (zv HW.out hst); replace HR0_1 := zz (Kd.C_below HR0_1.out hst); obtain ⟨hbx117_0, hbx117_1, hbx117_2⟩ := zx3 hbox; have HB := Below.refl w8.heap.size w8; clear hbox hst))
 refine (laws_szEntryS.calls k _ _ _ _ _ _ (Kd.C_below HR0_1.out HB) HC0_1.out A5.out).mono ?_
 rintro e w9 ⟨rfl, hb⟩
 replace HB := zv HB hb
 clear hb
 by_cases c6 : t118 < 0
 ·rw [if_pos c6] at H
  have c6b0 := z1 c6
  clear c6
  obtain rfl := zi H
  go_wp2_with (fail)
  go_ret
  exact ⟨ze, zv HW.out HB⟩
 rw [if_neg c6] at H
 have c6b0 := z0 c6
 clear c6
 by_cases c10 : (wrap64 (t118 - (a0_2.size : Int))) < 0
 ·rw [if_pos c10] at H
  have c10b0 := z1 c10
  clear c10
  obtain rfl := zi H
  go_wp2_with (fail)
  go_ret
  exact ⟨ze, zv HW.out HB⟩
 rw [if_neg c10] at H
 have c10b0 := z0 c10
 clear c10
 obtain rfl := zi H
 go_wp2_with (fail)
 go_ret
 exact ⟨ze, zv HW.out HB⟩
def laws_szPendingS.l0 : Nat → List (S110) → Int → Int → Option (Int)
 | 0, _, _, _ => none
 | k + 1, x0, x1, x5 => if x5 < (x0.length : Int) then (if 0 ≤ x5 then ((laws_szPending.f k ((rd_T110 x0 x5).f0) ((rd_T110 x0 x5).f1) ((rd_T110 x0 x5).f2) x1).bind fun t120 => (if t120 < 0 then (some (-1)) else (laws_szPendingS.l0 k x0 t120 (wrap64 (x5 + 1))))) else (none)) else (some x1)
def laws_szPendingS.f (k : Nat) (l0 : List (S110)) (a1 : Int) : Option (Int) := if (wrap64 (a1 - (l0.length : Int))) < 0 then (some (-1)) else (laws_szPendingS.l0 k l0 (wrap64 (a1 - (l0.length : Int))) 0)
theorem laws_szPendingS.mono_l : ∀ k, (∀ y0 y1 y2, LeO (laws_szPendingS.l0 k y0 y1 y2) (laws_szPendingS.l0 (k + 1) y0 y1 y2))
 | 0 => fun _ _ _ r h => by simp [laws_szPendingS.l0] at h
 | k + 1 => by
  have ih0 := laws_szPendingS.mono_l k
  ·intro y0 y1 y2
   unfold laws_szPendingS.l0
   have m0 := @laws_szPending.mono
   exact zM
theorem laws_szPendingS.mono : ∀ a0 a1 k, LeO (laws_szPendingS.f k a0 a1) (laws_szPendingS.f (k + 1) a0 a1) := by
 intro a0 a1 k
 have ih0 := laws_szPendingS.mono_l k
 unfold laws_szPendingS.f
 have m0 := @laws_szPending.mono
 exact zM
theorem laws_szPendingS.calls (k : Nat) (A0 : Option Addr) (c0 : Nat) (l0 : List (S110)) (a1 : Int) (r : Int) (w : World) (hr0 : Kd.C k110 w A0 l0.length l0) (hc0 : l0.length ≤ c0) (h : laws_szPendingS.f k l0 a1 = some r) :
 Calls Tryz.prog 30 #[.slice A0 l0.length c0, .int .i64 a1] w fun e w' => e = .returned (.int .i64 r) ∧ Below w.heap.size w w' := by
 have hu110 := Tryz.underlying110
 have HR0 := zz hr0
 have HC0 := zz hc0
 clear hr0 hc0
 have HB := zz (Below.refl w.heap.size w)
 unfold laws_szPendingS.f at h
 have H := h
 clear h
 replace HB := HB.out
 have HW := zz (Below.refl w.heap.size w)
 go_enter Tryz.func30, Tryz.ntmps30
 by_cases c3 : (wrap64 (a1 - (l0.length : Int))) < 0
 ·rw [if_pos c3] at H
  have c3b0 := z1 c3
  clear c3
  obtain rfl := zi H
  go_wp2_with (fail)
  go_ret
  exact ⟨ze, zv HW.out HB⟩
 rw [if_neg c3] at H
 have c3b0 := z0 c3
 clear c3
 go_wp2_with (fail)
 go_loopg [1, 5] k (fun kq v1 v5 w' => ∃ (x1_kl4 : Int) (x5_kl4 : Int), v1 = .int .i64 x1_kl4 ∧ v5 = .int .i64 x5_kl4 ∧ Aside0 (laws_szPendingS.l0 kq l0 x1_kl4 x5_kl4 = some r) ∧ Aside0 (kq ≤ k) ∧ Aside0 (Below w.heap.size w w'))
 case atStart => exact ⟨(wrap64 (a1 - (l0.length : Int))), (0), zr, zr, ⟨H⟩, ⟨Nat.le_refl _⟩, ⟨HB⟩⟩
 case round =>
  clear H HB
  obtain ⟨x1_kl4, x5_kl4, rfl, rfl, H, HKkl4, HB⟩ := hrel
  replace HB := HB.out
  replace H := H.out
  have HLkl4 := zz (Below.refl w.heap.size w)
  cases gk with
  | zero => exact absurd H (by simp [laws_szPendingS.l0])
  | succ kl4 =>
   simp only [laws_szPendingS.l0] at H
   by_cases c5 : x5_kl4 < (l0.length : Int)
   case neg =>
    rw [if_neg c5] at H
    have c5b0 := z0 c5
    clear c5
    obtain rfl := zi H
    go_wp2_with (fail)
    go_ret
    exact ⟨ze, zv HW.out HB⟩
   rw [if_pos c5] at H
   have c5b0 := z1 c5
   clear c5
   by_cases c6 : 0 ≤ x5_kl4
   case neg => exact zno H c6
   rw [if_pos c6] at H
   have c6b0 := z1 c6
   clear c6
   have p119 : 0 ≤ (x5_kl4 : Int) := z2
   have q119 : (x5_kl4 : Int) < (l0.length : Int) := z2
   obtain ⟨ad119, A119_1, c119_1, e119, hx119_0, hx119_1, hx119_2, hl119_1, hC119_1⟩ := at_T110 HR0.out x5_kl4 p119 q119
   cases e119
   replace hx119_0 := cellB hx119_0
   replace hx119_1 := cellB hx119_1
   replace hx119_2 := cellB hx119_2
   have HR119_1 := zz hC119_1
   have HC119_1 := zz hl119_1
   clear hC119_1 hl119_1
   replace p119 := eq_true p119
   replace q119 := eq_true q119
   replace H := zf H
   obtain ⟨t120, A7, H⟩ := H
   try dsimp only at H
   replace A7 := zz A7
   by_cases c8 : t120 < 0
   ·rw [if_pos c8] at H
    have c8b0 := z1 c8
    clear c8
    go_wp2_with (fail)
    refine (laws_szPending.calls kl4 _ _ _ _ _ _ _ _ (Kd.C_below HR119_1.out HB) HC119_1.out A7.out).mono ?_
    rintro e w10 ⟨rfl, hb⟩
    replace HB := zv HB hb
    clear hb
    obtain rfl := zi H
    go_wp2_with (fail)
    go_ret
    exact ⟨ze, zv HW.out HB⟩
   rw [if_neg c8] at H
   have c8b0 := z0 c8
   clear c8
   go_wp2_with (fail)
   refine (laws_szPending.calls kl4 _ _ _ _ _ _ _ _ (Kd.C_below HR119_1.out HB) HC119_1.out A7.out).mono ?_
   rintro e w12 ⟨rfl, hb⟩
   replace HB := zv HB hb
   clear hb
   go_wp2_with (fail)
   go_roundg kl4
   case measure => have := HKkl4.out; omega
   case rel => exact ⟨(t120), (wrap64 (x5_kl4 + 1)), zr, zr, ⟨H⟩, ⟨by have := HKkl4.out; omega⟩, ⟨zv HLkl4.out HB⟩⟩
def laws_szNext.f (a0_0 : ByteArray) (a0_1 : ByteArray) (a1 : Int) : Option (Int) := if (wrap64 (a1 - (a0_0.size : Int))) < 0 then (some (-1)) else (if (wrap64 ((wrap64 (a1 - (a0_0.size : Int))) - (a0_1.size : Int))) < 0 then (some (-1)) else (some (wrap64 ((wrap64 (a1 - (a0_0.size : Int))) - (a0_1.size : Int)))))
theorem laws_szNext.calls (a0_0 : ByteArray) (a0_1 : ByteArray) (a1 : Int) (r : Int) (w : World) (h : laws_szNext.f a0_0 a0_1 a1 = some r) :
 Calls Tryz.prog 77 #[.agg #[.string a0_0, .string a0_1], .int .i64 a1] w fun e w' => e = .returned (.int .i64 r) ∧ Below w.heap.size w w' := by
 have hu112 := Tryz.underlying112
 have HB := zz (Below.refl w.heap.size w)
 unfold laws_szNext.f at h
 have H := h
 clear h
 replace HB := HB.out
 have HW := zz (Below.refl w.heap.size w)
 go_enter Tryz.func77, Tryz.ntmps77
 by_cases c3 : (wrap64 (a1 - (a0_0.size : Int))) < 0
 ·rw [if_pos c3] at H
  have c3b0 := z1 c3
  clear c3
  obtain rfl := zi H
  go_wp2_with (first | (refine zN 2 ?_; (try (refine z4 ?_; dsimp only)); refine zX 2 112 #[.string a0_0, .string a0_1] ?_; intro gb121 hg w4 hbox hb; have hst := zv HB hb; clear hg hb HB; replace HW := zz (zv HW.out hst); obtain ⟨hbx121_0, hbx121_1⟩ := zx2 hbox; have HB := Below.refl w4.heap.size w4; clear hbox hst))
  go_ret
  exact ⟨ze, zv HW.out HB⟩
 rw [if_neg c3] at H
 have c3b0 := z0 c3
 clear c3
 by_cases c5 : (wrap64 ((wrap64 (a1 - (a0_0.size : Int))) - (a0_1.size : Int))) < 0
 ·rw [if_pos c5] at H
  have c5b0 := z1 c5
  clear c5
  obtain rfl := zi H
  go_wp2_with (first | (refine zN 2 ?_; (try (refine z4 ?_; dsimp only)); refine zX 2 112 #[.string a0_0, .string a0_1] ?_; intro gb121 hg w6 hbox hb; have hst := zv HB hb; clear hg hb HB; replace HW := zz (zv HW.out hst); obtain ⟨hbx121_0, hbx121_1⟩ := zx2 hbox; have HB := Below.refl w6.heap.size w6; clear hbox hst))
  go_ret
  exact ⟨ze, zv HW.out HB⟩
 rw [if_neg c5] at H
 have c5b0 := z0 c5
 clear c5
 obtain rfl := zi H
 go_wp2_with (first | (refine zN 2 ?_; (try (refine z4 ?_; dsimp only)); refine zX 2 112 #[.string a0_0, .string a0_1] ?_; intro gb121 hg w7 hbox hb; have hst := zv HB hb; clear hg hb HB; replace HW := zz (zv HW.out hst); obtain ⟨hbx121_0, hbx121_1⟩ := zx2 hbox; have HB := Below.refl w7.heap.size w7; clear hbox hst))
 go_ret
 exact ⟨ze, zv HW.out HB⟩
def laws_szNextS.l0 : Nat → List (S112) → Int → Int → Option (Int)
 | 0, _, _, _ => none
 | k + 1, x0, x1, x5 => if x5 < (x0.length : Int) then (if 0 ≤ x5 then ((laws_szNext.f ((rd_T112 x0 x5).f0) ((rd_T112 x0 x5).f1) x1).bind fun t123 => (if t123 < 0 then (some (-1)) else (laws_szNextS.l0 k x0 t123 (wrap64 (x5 + 1))))) else (none)) else (some x1)
def laws_szNextS.f (k : Nat) (l0 : List (S112)) (a1 : Int) : Option (Int) := if (wrap64 (a1 - (l0.length : Int))) < 0 then (some (-1)) else (laws_szNextS.l0 k l0 (wrap64 (a1 - (l0.length : Int))) 0)
theorem laws_szNextS.mono_l : ∀ k, (∀ y0 y1 y2, LeO (laws_szNextS.l0 k y0 y1 y2) (laws_szNextS.l0 (k + 1) y0 y1 y2))
 | 0 => fun _ _ _ r h => by simp [laws_szNextS.l0] at h
 | k + 1 => by
  have ih0 := laws_szNextS.mono_l k
  ·intro y0 y1 y2
   unfold laws_szNextS.l0
   exact zM
theorem laws_szNextS.mono : ∀ a0 a1 k, LeO (laws_szNextS.f k a0 a1) (laws_szNextS.f (k + 1) a0 a1) := by
 intro a0 a1 k
 have ih0 := laws_szNextS.mono_l k
 unfold laws_szNextS.f
 exact zM
theorem laws_szNextS.calls (k : Nat) (A0 : Option Addr) (c0 : Nat) (l0 : List (S112)) (a1 : Int) (r : Int) (w : World) (hr0 : Kd.C k112 w A0 l0.length l0) (hc0 : l0.length ≤ c0) (h : laws_szNextS.f k l0 a1 = some r) :
 Calls Tryz.prog 31 #[.slice A0 l0.length c0, .int .i64 a1] w fun e w' => e = .returned (.int .i64 r) ∧ Below w.heap.size w w' := by
 have hu112 := Tryz.underlying112
 have HR0 := zz hr0
 have HC0 := zz hc0
 clear hr0 hc0
 have HB := zz (Below.refl w.heap.size w)
 unfold laws_szNextS.f at h
 have H := h
 clear h
 replace HB := HB.out
 have HW := zz (Below.refl w.heap.size w)
 go_enter Tryz.func31, Tryz.ntmps31
 by_cases c3 : (wrap64 (a1 - (l0.length : Int))) < 0
 ·rw [if_pos c3] at H
  have c3b0 := z1 c3
  clear c3
  obtain rfl := zi H
  go_wp2_with (fail)
  go_ret
  exact ⟨ze, zv HW.out HB⟩
 rw [if_neg c3] at H
 have c3b0 := z0 c3
 clear c3
 go_wp2_with (fail)
 go_loopg [1, 5] k (fun kq v1 v5 w' => ∃ (x1_kl4 : Int) (x5_kl4 : Int), v1 = .int .i64 x1_kl4 ∧ v5 = .int .i64 x5_kl4 ∧ Aside0 (laws_szNextS.l0 kq l0 x1_kl4 x5_kl4 = some r) ∧ Aside0 (kq ≤ k) ∧ Aside0 (Below w.heap.size w w'))
 case atStart => exact ⟨(wrap64 (a1 - (l0.length : Int))), (0), zr, zr, ⟨H⟩, ⟨Nat.le_refl _⟩, ⟨HB⟩⟩
 case round =>
  clear H HB
  obtain ⟨x1_kl4, x5_kl4, rfl, rfl, H, HKkl4, HB⟩ := hrel
  replace HB := HB.out
  replace H := H.out
  have HLkl4 := zz (Below.refl w.heap.size w)
  cases gk with
  | zero => exact absurd H (by simp [laws_szNextS.l0])
  | succ kl4 =>
   simp only [laws_szNextS.l0] at H
   by_cases c5 : x5_kl4 < (l0.length : Int)
   case neg =>
    rw [if_neg c5] at H
    have c5b0 := z0 c5
    clear c5
    obtain rfl := zi H
    go_wp2_with (fail)
    go_ret
    exact ⟨ze, zv HW.out HB⟩
   rw [if_pos c5] at H
   have c5b0 := z1 c5
   clear c5
   by_cases c6 : 0 ≤ x5_kl4
   case neg => exact zno H c6
   rw [if_pos c6] at H
   have c6b0 := z1 c6
   clear c6
   have p122 : 0 ≤ (x5_kl4 : Int) := z2
   have q122 : (x5_kl4 : Int) < (l0.length : Int) := z2
   obtain ⟨ad122, e122, hx122_0, hx122_1⟩ := at_T112 HR0.out x5_kl4 p122 q122
   cases e122
   replace hx122_0 := cellB hx122_0
   replace hx122_1 := cellB hx122_1
   replace p122 := eq_true p122
   replace q122 := eq_true q122
   replace H := zf H
   obtain ⟨t123, A7, H⟩ := H
   try dsimp only at H
   replace A7 := zz A7
   by_cases c8 : t123 < 0
   ·rw [if_pos c8] at H
    have c8b0 := z1 c8
    clear c8
    go_wp2_with (fail)
    refine (laws_szNext.calls _ _ _ _ _  A7.out).mono ?_
    rintro e w10 ⟨rfl, hb⟩
    replace HB := zv HB hb
    clear hb
    obtain rfl := zi H
    go_wp2_with (fail)
    go_ret
    exact ⟨ze, zv HW.out HB⟩
   rw [if_neg c8] at H
   have c8b0 := z0 c8
   clear c8
   go_wp2_with (fail)
   refine (laws_szNext.calls _ _ _ _ _  A7.out).mono ?_
   rintro e w12 ⟨rfl, hb⟩
   replace HB := zv HB hb
   clear hb
   go_wp2_with (fail)
   go_roundg kl4
   case measure => have := HKkl4.out; omega
   case rel => exact ⟨(t123), (wrap64 (x5_kl4 + 1)), zr, zr, ⟨H⟩, ⟨by have := HKkl4.out; omega⟩, ⟨zv HLkl4.out HB⟩⟩
def laws_szWorld.f (k : Nat) (l0_0 : List (S103)) (l0_1 : List (S107)) (l0_2 : List (S110)) (l0_3 : List (S112)) (a1 : Int) : Option (Int) := (laws_szItemS.f k l0_0 a1).bind fun t125 => (if t125 < 0 then (some (-1)) else ((laws_szProfileS.f k l0_1 t125).bind fun t126 => (if t126 < 0 then (some (-1)) else ((laws_szPendingS.f k l0_2 t126).bind fun t127 => (if t127 < 0 then (some (-1)) else ((laws_szNextS.f k l0_3 t127).bind fun t128 => (if t128 < 0 then (some (-1)) else (some t128))))))))
theorem laws_szWorld.mono : ∀ a0 a1 a2 a3 a4 k, LeO (laws_szWorld.f k a0 a1 a2 a3 a4) (laws_szWorld.f (k + 1) a0 a1 a2 a3 a4) := by
 intro a0 a1 a2 a3 a4 k
 unfold laws_szWorld.f
 have m0 := @laws_szItemS.mono
 have m1 := @laws_szNextS.mono
 have m2 := @laws_szPendingS.mono
 have m3 := @laws_szProfileS.mono
 exact zM
theorem laws_szWorld.calls (k : Nat) (A0_0 : Option Addr) (c0_0 : Nat) (l0_0 : List (S103)) (A0_1 : Option Addr) (c0_1 : Nat) (l0_1 : List (S107)) (A0_2 : Option Addr) (c0_2 : Nat) (l0_2 : List (S110)) (A0_3 : Option Addr) (c0_3 : Nat) (l0_3 : List (S112)) (a1 : Int) (r : Int) (w : World) (hr0_0 : Kd.C k103 w A0_0 l0_0.length l0_0) (hc0_0 : l0_0.length ≤ c0_0) (hr0_1 : Kd.C k107 w A0_1 l0_1.length l0_1) (hc0_1 : l0_1.length ≤ c0_1) (hr0_2 : Kd.C k110 w A0_2 l0_2.length l0_2) (hc0_2 : l0_2.length ≤ c0_2) (hr0_3 : Kd.C k112 w A0_3 l0_3.length l0_3) (hc0_3 : l0_3.length ≤ c0_3) (h : laws_szWorld.f k l0_0 l0_1 l0_2 l0_3 a1 = some r) :
 Calls Tryz.prog 7 #[.agg #[.slice A0_0 l0_0.length c0_0, .slice A0_1 l0_1.length c0_1, .slice A0_2 l0_2.length c0_2, .slice A0_3 l0_3.length c0_3], .int .i64 a1] w fun e w' => e = .returned (.int .i64 r) ∧ Below w.heap.size w w' := by
 have hu27 := Tryz.underlying27
 have HR0_0 := zz hr0_0
 have HC0_0 := zz hc0_0
 clear hr0_0 hc0_0
 have HR0_1 := zz hr0_1
 have HC0_1 := zz hc0_1
 clear hr0_1 hc0_1
 have HR0_2 := zz hr0_2
 have HC0_2 := zz hc0_2
 clear hr0_2 hc0_2
 have HR0_3 := zz hr0_3
 have HC0_3 := zz hc0_3
 clear hr0_3 hc0_3
 have HB := zz (Below.refl w.heap.size w)
 unfold laws_szWorld.f at h
 have H := h
 clear h
 replace HB := HB.out
 have HW := zz (Below.refl w.heap.size w)
 go_enter Tryz.func7, Tryz.ntmps7
 replace H := zf H
 obtain ⟨t125, A3, H⟩ := H
 try dsimp only at H
 replace A3 := zz A3
 go_wp2_with (first | (refine zN 2 ?_; (try (refine z4 ?_; dsimp only)); refine zX 2 27 #[.slice A0_0 l0_0.length c0_0, .slice A0_1 l0_1.length c0_1, .slice A0_2 l0_2.length c0_2, .slice A0_3 l0_3.length c0_3] ?_; intro gb124 hg w6 hbox hb; have hst := zv HB hb; clear hg hb HB; replace HW := zz (zv HW.out hst); replace HR0_0 := zz (Kd.C_below HR0_0.out hst); replace HR0_1 := zz (Kd.C_below HR0_1.out hst); replace HR0_2 := zz (Kd.C_below HR0_2.out hst); replace HR0_3 := zz (Kd.C_below HR0_3.out hst); obtain ⟨hbx124_0, hbx124_1, hbx124_2, hbx124_3⟩ := zx4 hbox; have HB := Below.refl w6.heap.size w6; clear hbox hst))
 refine (laws_szItemS.calls k _ _ _ _ _ _ (Kd.C_below HR0_0.out HB) HC0_0.out A3.out).mono ?_
 rintro e w7 ⟨rfl, hb⟩
 replace HB := zv HB hb
 clear hb
 by_cases c4 : t125 < 0
 ·rw [if_pos c4] at H
  have c4b0 := z1 c4
  clear c4
  obtain rfl := zi H
  go_wp2_with (fail)
  go_ret
  exact ⟨ze, zv HW.out HB⟩
 rw [if_neg c4] at H
 have c4b0 := z0 c4
 clear c4
 replace H := zf H
 obtain ⟨t126, A11, H⟩ := H
 try dsimp only at H
 replace A11 := zz A11
 by_cases c12 : t126 < 0
 ·rw [if_pos c12] at H
  have c12b0 := z1 c12
  clear c12
  go_wp2_with (fail)
  refine (laws_szProfileS.calls k _ _ _ _ _ _ (Kd.C_below HR0_1.out HB) HC0_1.out A11.out).mono ?_
  rintro e w14 ⟨rfl, hb⟩
  replace HB := zv HB hb
  clear hb
  obtain rfl := zi H
  go_wp2_with (fail)
  go_ret
  exact ⟨ze, zv HW.out HB⟩
 rw [if_neg c12] at H
 have c12b0 := z0 c12
 clear c12
 go_wp2_with (fail)
 refine (laws_szProfileS.calls k _ _ _ _ _ _ (Kd.C_below HR0_1.out HB) HC0_1.out A11.out).mono ?_
 rintro e w16 ⟨rfl, hb⟩
 replace HB := zv HB hb
 clear hb
 replace H := zf H
 obtain ⟨t127, A17, H⟩ := H
 try dsimp only at H
 replace A17 := zz A17
 by_cases c18 : t127 < 0
 ·rw [if_pos c18] at H
  have c18b0 := z1 c18
  clear c18
  go_wp2_with (fail)
  refine (laws_szPendingS.calls k _ _ _ _ _ _ (Kd.C_below HR0_2.out HB) HC0_2.out A17.out).mono ?_
  rintro e w20 ⟨rfl, hb⟩
  replace HB := zv HB hb
  clear hb
  obtain rfl := zi H
  go_wp2_with (fail)
  go_ret
  exact ⟨ze, zv HW.out HB⟩
 rw [if_neg c18] at H
 have c18b0 := z0 c18
 clear c18
 go_wp2_with (fail)
 refine (laws_szPendingS.calls k _ _ _ _ _ _ (Kd.C_below HR0_2.out HB) HC0_2.out A17.out).mono ?_
 rintro e w22 ⟨rfl, hb⟩
 replace HB := zv HB hb
 clear hb
 replace H := zf H
 obtain ⟨t128, A23, H⟩ := H
 try dsimp only at H
 replace A23 := zz A23
 by_cases c24 : t128 < 0
 ·rw [if_pos c24] at H
  have c24b0 := z1 c24
  clear c24
  go_wp2_with (fail)
  refine (laws_szNextS.calls k _ _ _ _ _ _ (Kd.C_below HR0_3.out HB) HC0_3.out A23.out).mono ?_
  rintro e w26 ⟨rfl, hb⟩
  replace HB := zv HB hb
  clear hb
  obtain rfl := zi H
  go_wp2_with (fail)
  go_ret
  exact ⟨ze, zv HW.out HB⟩
 rw [if_neg c24] at H
 have c24b0 := z0 c24
 clear c24
 go_wp2_with (fail)
 refine (laws_szNextS.calls k _ _ _ _ _ _ (Kd.C_below HR0_3.out HB) HC0_3.out A23.out).mono ?_
 rintro e w28 ⟨rfl, hb⟩
 replace HB := zv HB hb
 clear hb
 obtain rfl := zi H
 go_wp2_with (fail)
 go_ret
 exact ⟨ze, zv HW.out HB⟩
def laws_toEntry.f (a0_0 : ByteArray) (a0_1 : Int) (a0_2 : ByteArray) (a0_3 : Bool) : Option (ByteArray × Int × ByteArray × Bool) := some (a0_0, a0_1, a0_2, a0_3)
theorem laws_toEntry.calls (a0_0 : ByteArray) (a0_1 : Int) (a0_2 : ByteArray) (a0_3 : Bool) (r1 : ByteArray) (r2 : Int) (r3 : ByteArray) (r4 : Bool) (w : World) (h : laws_toEntry.f a0_0 a0_1 a0_2 a0_3 = some (r1, r2, r3, r4)) :
 Calls Tryz.prog 143 #[.agg #[.string a0_0, .int .i64 a0_1, .string a0_2, .bool a0_3]] w fun e w' => e = .returned (.agg #[.string r1, .int .i64 r2, .string r3, .bool r4]) ∧ Below w.heap.size w w' := by
 have hu159 := Tryz.underlying159
 have hu96 := Tryz.underlying96
 have HB := zz (Below.refl w.heap.size w)
 unfold laws_toEntry.f at h
 have H := h
 clear h
 simp only [Option.some.injEq, Prod.mk.injEq] at H
 obtain ⟨rfl, rfl, rfl, rfl⟩ := H
 go_enter Tryz.func143, Tryz.ntmps143
 go_wp2_with (first | (refine zX 1 159 #[.string a0_0, .int .i64 a0_1, .string a0_2, .bool a0_3] ?_; intro gb337 hg w2 hbox hb; have BK337 := zz (hbox); have GW337 := zz ((zg : w.heap.size ≤ gb337)); have GE337 := zz ((zg : w.heap.size ≤ gb337)); replace HB := zz (zv zb hb); clear hb hbox hg) | (refine zX 2 96 #[.string (⟨#[]⟩ : ByteArray), .int .i64 0, .string (⟨#[]⟩ : ByteArray), .bool false] ?_; intro gb338 hg w3 hbox hb; have BK338 := zz (hbox); have GW338 := zz ((zg : w.heap.size ≤ gb338)); have GE338 := zz ((zg : w.heap.size ≤ gb338)); replace HB := zz (zv zb hb); have NB337_338 := zz (zH BK337 hg); have NB338_337 := zz (zI BK337 hg); replace BK337 := zz (zJ BK337 hb); clear hb hbox hg) | (refine zX 3 96 #[.string (⟨#[]⟩ : ByteArray), .int .i64 0, .string (⟨#[]⟩ : ByteArray), .bool false] ?_; intro gb339 hg w4 hbox hb; have BK339 := zz (hbox); have GW339 := zz ((zg : w.heap.size ≤ gb339)); have GE339 := zz ((zg : w.heap.size ≤ gb339)); replace HB := zz (zv zb hb); have NB337_339 := zz (zH BK337 hg); have NB339_337 := zz (zI BK337 hg); replace BK337 := zz (zJ BK337 hb); have NB338_339 := zz (zH BK338 hg); have NB339_338 := zz (zI BK338 hg); replace BK338 := zz (zJ BK338 hb); clear hb hbox hg; have hnb5 := NB337_338.out; have hnc5 := NB338_337.out; have hnb6 := NB337_339.out; have hnc6 := NB339_337.out; obtain ⟨hcz7_0, hcz7_1, hcz7_2, hcz7_3, hfz7_0, hfz7_1, hfz7_2, hfz7_3⟩ := zc4 BK337.out; have hnb8 := NB339_338.out; have hnc8 := NB338_339.out; obtain ⟨hcz9_0, hcz9_1, hcz9_2, hcz9_3, hfz9_0, hfz9_1, hfz9_2, hfz9_3⟩ := zc4 BK339.out; obtain ⟨hcz10_0, hcz10_1, hcz10_2, hcz10_3, hfz10_0, hfz10_1, hfz10_2, hfz10_3⟩ := zc4 BK338.out))
 refine bodyPost_ret (results_cell_row rfl _ _ gb338 96 #[.string a0_0, .int .i64 a0_1, .string a0_2, .bool a0_3] (0, 0) _ rfl (by (with_reducible repeat (first | refine blk_drewN ?_ _ | refine blk_drew ?_ | refine blk_alloc ?_ _)); refine blk_put (cs := #[.string a0_0, .int .i64 a0_1, .string a0_2, .bool false]) ?_ 3 _ rfl; (with_reducible repeat (first | refine blk_drewN ?_ _ | refine blk_drew ?_ | refine blk_alloc ?_ _)); refine blk_put (cs := #[.string a0_0, .int .i64 a0_1, .string (⟨#[]⟩ : ByteArray), .bool false]) ?_ 2 _ rfl; (with_reducible repeat (first | refine blk_drewN ?_ _ | refine blk_drew ?_ | refine blk_alloc ?_ _)); refine blk_put (cs := #[.string a0_0, .int .i64 0, .string (⟨#[]⟩ : ByteArray), .bool false]) ?_ 1 _ rfl; (with_reducible repeat (first | refine blk_drewN ?_ _ | refine blk_drew ?_ | refine blk_alloc ?_ _)); refine blk_put (cs := #[.string (⟨#[]⟩ : ByteArray), .int .i64 0, .string (⟨#[]⟩ : ByteArray), .bool false]) ?_ 0 _ rfl; (with_reducible repeat (first | refine blk_drewN ?_ _ | refine blk_drew ?_ | refine blk_alloc ?_ _)); refine blk_far ?_ NB338_339.out _; (with_reducible repeat (first | refine blk_drewN ?_ _ | refine blk_drew ?_ | refine blk_alloc ?_ _)); refine blk_far ?_ NB338_339.out _; (with_reducible repeat (first | refine blk_drewN ?_ _ | refine blk_drew ?_ | refine blk_alloc ?_ _)); refine blk_far ?_ NB338_339.out _; (with_reducible repeat (first | refine blk_drewN ?_ _ | refine blk_drew ?_ | refine blk_alloc ?_ _)); refine blk_far ?_ NB338_339.out _; (with_reducible repeat (first | refine blk_drewN ?_ _ | refine blk_drew ?_ | refine blk_alloc ?_ _)); exact BK338.out) Tryz.underlying96 rfl zk) rfl ?_
 exact ⟨ze, zb⟩
def laws_toEntryS.l0 : Nat → List (S159) → List (S96) → Int → Option ((List (S96)))
 | 0, _, _, _ => none
 | k + 1, x0, x3, x4 => if x4 < (x0.length : Int) then (if 0 ≤ x4 then ((laws_toEntry.f ((rd_T159 x0 x4).f0) ((rd_T159 x0 x4).f1) ((rd_T159 x0 x4).f2) ((rd_T159 x0 x4).f3)).bind fun bt344 => (if x4 < (x3.length : Int) then (laws_toEntryS.l0 k x0 (x3.set (x4 : Int).toNat (⟨bt344.1, bt344.2.1, bt344.2.2.1, bt344.2.2.2⟩ : S96)) (wrap64 (x4 + 1))) else (none))) else (none)) else (some x3)
def laws_toEntryS.f (k : Nat) (l0 : List (S159)) : Option ((List (S96))) := if 0 ≤ (l0.length : Int) then (if ((l0.length : Int) : Int).toNat ≤ 5864062014805 then (laws_toEntryS.l0 k l0 (List.replicate ((l0.length : Int) : Int).toNat z96) 0) else (none)) else (none)
theorem laws_toEntryS.mono_l : ∀ k, (∀ y0 y1 y2, LeO (laws_toEntryS.l0 k y0 y1 y2) (laws_toEntryS.l0 (k + 1) y0 y1 y2))
 | 0 => fun _ _ _ r h => by simp [laws_toEntryS.l0] at h
 | k + 1 => by
  have ih0 := laws_toEntryS.mono_l k
  ·intro y0 y1 y2
   unfold laws_toEntryS.l0
   exact zM
theorem laws_toEntryS.mono : ∀ a0 k, LeO (laws_toEntryS.f k a0) (laws_toEntryS.f (k + 1) a0) := by
 intro a0 k
 have ih0 := laws_toEntryS.mono_l k
 unfold laws_toEntryS.f
 exact zM
theorem laws_toEntryS.calls (k : Nat) (A0 : Option Addr) (c0 : Nat) (l0 : List (S159)) (r : List (S96)) (w : World) (hr0 : Kd.C k159 w A0 l0.length l0) (hc0 : l0.length ≤ c0) (h : laws_toEntryS.f k l0 = some r) :
 Calls Tryz.prog 123 #[.slice A0 l0.length c0] w fun e w' => ∃ v0_ : Value, e = .returned (v0_) ∧ Kd.R k96 96 w' w.heap.size (fun _ => True) v0_ r ∧ Below w.heap.size w w' := by
 have hu159 := Tryz.underlying159
 have hu96 := Tryz.underlying96
 have HR0 := zz hr0
 have HC0 := zz hc0
 clear hr0 hc0
 have HB := zz (Below.refl w.heap.size w)
 unfold laws_toEntryS.f at h
 have H := h
 clear h
 by_cases c2 : 0 ≤ (l0.length : Int)
 case neg => exact zno H c2
 rw [if_pos c2] at H
 have c2b0 := eq_true c2
 have c2b1 := z1 c2
 clear c2
 by_cases c3 : ((l0.length : Int) : Int).toNat ≤ 5864062014805
 case neg => exact zno H c3
 rw [if_pos c3] at H
 have c3b0 := eq_true c3
 have c3b1 := z1 c3
 clear c3
 obtain ⟨y340, hy340⟩ : ∃ y_ : List (S96), y_ = (List.replicate ((l0.length : Int) : Int).toNat z96) := ⟨_, rfl⟩
 replace H : (laws_toEntryS.l0 k l0 y340 0) = some r := by first | (rw [hy340]; with_reducible exact H) | (have H2_ := (Option.bind_some _ _).symm.trans H; rw [hy340]; with_reducible exact H2_) | (have H2_ := (Option.bind_some _ _).symm.trans H; with_reducible exact H2_) | with_reducible exact H | (rw [hy340]; exact H) | exact H
 have Ny340 := zz hy340
 clear hy340
 have H' := zz H
 clear H
 go_enter Tryz.func123, Tryz.ntmps123
 go_wp2_with (first | (refine zN 7 ?_; refine Kd.R_make k96 _ 96 rfl (N := 7) rfl 45 _ _ rfl (l0.length : Int) rfl rfl Tryz.underlying45 (.agg #[(.string ⟨#[]⟩), (.int .i64 0), (.string ⟨#[]⟩), (.bool false)]) 48 info96 rfl (by decide) (by omega) z96 (ok := fun _ => True) (okp := fun _ => True) (k96_mkM _ _ _ z96 ) (fun _ hk => hk) trivial (z2) (Nat.le_trans (Nat.mul_le_mul_right _ (z2 : (l0.length : Int).toNat ≤ 5864062014805)) (by omega)) (Below.refl _ _) (Nat.le_refl _) ?_; intro v341 w4 ho5 hb hg_ hnew_; clear hg_ hnew_; (first | rw [← Ny340.out] at ho5 | (simp only [Int.reduceToNat] at ho5; rw [← Ny340.out] at ho5)); have HO342 := zz (Kd.R_lower ho5 (below_size zb)); replace HB := zz (zv zb hb); clear hb ho5))
 go_loopg [4] k (fun kq v4 w' => ∃ (x3_1 : List (S96)) (x4_1 : Int), v4 = .int .i64 x4_1 ∧ Aside0 (laws_toEntryS.l0 kq l0 x3_1 x4_1 = some r) ∧ Aside0 (kq ≤ k) ∧ Aside0 (Kd.R k96 96 w' w.heap.size (fun _ => True) v341 x3_1) ∧ Aside0 (Below w.heap.size w w'))
 case atStart => exact ⟨(y340), (0), zr, H', ⟨Nat.le_refl _⟩, ⟨by (with_reducible repeat (first | apply Kd.R_alloc | apply Kd.R_drewN | apply Kd.R_drew)); exact HO342.out⟩, ⟨zb⟩⟩
 case round =>
  clear H'
  try clear c1
  try clear c2
  try clear c2b0
  try clear c2b1
  try clear p2
  try clear c3
  try clear c3b0
  try clear c3b1
  obtain ⟨x3_1, x4_1, rfl, HA, HK1, HO_3, HB⟩ := hrel
  cases gk with
  | zero => exact absurd HA.out (by simp [laws_toEntryS.l0])
  | succ k1 =>
   have H := HA.out
   clear HA
   simp only [laws_toEntryS.l0] at H
   by_cases c6 : x4_1 < (l0.length : Int)
   case neg =>
    rw [if_neg c6] at H
    have c6b0 := z0 c6
    clear c6
    obtain rfl := zi H
    go_wp2
    go_ret
    exact ⟨_, ze, by (with_reducible repeat (first | apply Kd.R_alloc | apply Kd.R_drewN | apply Kd.R_drew)); exact HO_3.out, zb⟩
   rw [if_pos c6] at H
   have c6b0 := z1 c6
   clear c6
   by_cases c7 : 0 ≤ x4_1
   case neg => exact zno H c7
   rw [if_pos c7] at H
   have c7b0 := z1 c7
   clear c7
   replace H := zf H
   obtain ⟨⟨t344, t345, t346, t347⟩, A80, H⟩ := H
   try dsimp only at H
   have A8 := zz A80
   clear A80
   by_cases c9 : x4_1 < (x3_1.length : Int)
   case neg => exact zno H c9
   rw [if_pos c9] at H
   have c9b0 := z1 c9
   clear c9
   obtain ⟨y348, hy348⟩ : ∃ y_ : List (S96), y_ = (x3_1.set (x4_1 : Int).toNat (⟨t344, t345, t346, t347⟩ : S96)) := ⟨_, rfl⟩
   replace H : (laws_toEntryS.l0 k1 l0 y348 (wrap64 (x4_1 + 1))) = some r := by first | (rw [hy348]; with_reducible exact H) | (have H2_ := (Option.bind_some _ _).symm.trans H; rw [hy348]; with_reducible exact H2_) | (have H2_ := (Option.bind_some _ _).symm.trans H; with_reducible exact H2_) | with_reducible exact H | (rw [hy348]; exact H) | exact H
   have Ny348 := zz hy348
   clear hy348
   have H' := zz H
   clear H
   have p343 : 0 ≤ (x4_1 : Int) := z2
   have q343 : x4_1 < (l0.length : Int) := z2
   obtain ⟨ad343, e343, hx343_0, hx343_1, hx343_2, hx343_3⟩ := at_T159 HR0.out x4_1 p343 q343
   cases e343
   replace hx343_0 := z3 HB.out hx343_0
   replace hx343_1 := z3 HB.out hx343_1
   replace hx343_2 := z3 HB.out hx343_2
   replace hx343_3 := z3 HB.out hx343_3
   replace p343 := eq_true p343
   replace q343 := eq_true q343
   go_wp2_with (first | (refine zL 143 20 Tryz.func143 #[.agg #[.string ((rd_T159 l0 x4_1).f0), .int .i64 ((rd_T159 l0 x4_1).f1), .string ((rd_T159 l0 x4_1).f2), .bool ((rd_T159 l0 x4_1).f3)]] ?_; (with_reducible refine (laws_toEntry.calls ((rd_T159 l0 x4_1).f0) ((rd_T159 l0 x4_1).f1) ((rd_T159 l0 x4_1).f2) ((rd_T159 l0 x4_1).f3) t344 t345 t346 t347 _ A8.out).mono ?_); rintro e w11 ⟨rfl, hb⟩; refine ⟨_, rfl, ?_⟩; replace HO_3 := zz (Kd.R_below (zR HO_3.out) hb); replace HB := zz (zv zb hb); (try clear hb); (try clear hb2); (try clear hk); (try clear hi); have p10 : 0 ≤ (x4_1 : Int) := z2; have q10 : (x4_1 : Int) < ((x3_1.length : Int) : Int) := z2; obtain ⟨go10, co10, eo10, gb10, gl10, cl10, HG10⟩ := Kd.R_form HO_3.out (by omega); (first | cases eo10 | (injection eo10 with ea_ en_ ec_; (first | subst ea_ | (injection ea_ with ea_; subst ea_)); subst ec_; clear en_)); have GB10 := zz gb10; have GG10 := zz HG10; clear gb10 gl10 HG10; obtain ⟨ce10, hcl10, hM10, hcc10, hfr10⟩ := Kd.R_elem HO_3.out z96 (x4_1 : Int) p10 q10; obtain rfl := k96_openM hM10; have hx10_0 : w11.cell? ⟨go10, (x4_1 : Int).toNat * 4, none⟩ = some (.string ((rd_T96 x3_1 x4_1).f0)) := hcc10 0 _ rfl; have hx10_1 : w11.cell? ⟨go10, (x4_1 : Int).toNat * 4 + 1, none⟩ = some (.int .i64 ((rd_T96 x3_1 x4_1).f1)) := hcc10 1 _ rfl; have hx10_2 : w11.cell? ⟨go10, (x4_1 : Int).toNat * 4 + 2, none⟩ = some (.string ((rd_T96 x3_1 x4_1).f2)) := hcc10 2 _ rfl; have hx10_3 : w11.cell? ⟨go10, (x4_1 : Int).toNat * 4 + 3, none⟩ = some (.bool ((rd_T96 x3_1 x4_1).f3)) := hcc10 3 _ rfl; have hf10_0 : w11.frozen? ⟨go10, (x4_1 : Int).toNat * 4, none⟩ = false := hfr10 0; have hf10_1 : w11.frozen? ⟨go10, (x4_1 : Int).toNat * 4 + 1, none⟩ = false := hfr10 1; have hf10_2 : w11.frozen? ⟨go10, (x4_1 : Int).toNat * 4 + 2, none⟩ = false := hfr10 2; have hf10_3 : w11.frozen? ⟨go10, (x4_1 : Int).toNat * 4 + 3, none⟩ = false := hfr10 3; clear hcl10 hcc10 hfr10 hM10; replace p10 := eq_true p10; replace q10 := eq_true q10; have HX12 := zz (show Kd.R k96 96 w11 w.heap.size (fun _ => True) (.slice (some ⟨go10, 0, none⟩) x3_1.length co10) x3_1 from (zR HO_3.out)); obtain ⟨ce12, hcl12, hM12, hcc12, hfr12⟩ := Kd.R_elem HX12.out z96 (x4_1 : Int) (z2) (by have h_ : (x4_1 : Int) < ((x3_1.length : Int) : Int) := z2; first | exact h_ | (have e_ := (Kd.R_reads' HO_3.out).1; omega) | simpa using h_); obtain rfl := k96_openM hM12; have HP12 := Kd.R_seg HX12.out (x4_1 : Int) (z2) (by have h_ : (x4_1 : Int) < ((x3_1.length : Int) : Int) := z2; first | exact h_ | (have e_ := (Kd.R_reads' HO_3.out).1; omega) | simpa using h_) (seg := [.string t344, .int .i64 t345, .string t346, .bool t347]) (j := 0) hcl12 hcc12 (show 4 ≤ 4 from by decide) (x' := (⟨t344, t345, t346, t347⟩ : S96)) (k96_mkM _ _ _ (⟨t344, t345, t346, t347⟩ : S96) ) (fun _ hk => hk); have hx12_0 := hcc12 0 _ rfl; (try simp only [show (k96).sz = 4 from rfl, Nat.mul_one, Nat.add_zero] at hx12_0); have hf12_0 := hfr12 0; (try simp only [show (k96).sz = 4 from rfl, Nat.mul_one, Nat.add_zero] at hf12_0); have hx12_1 := hcc12 1 _ rfl; (try simp only [show (k96).sz = 4 from rfl, Nat.mul_one, Nat.add_zero] at hx12_1); have hf12_1 := hfr12 1; (try simp only [show (k96).sz = 4 from rfl, Nat.mul_one, Nat.add_zero] at hf12_1); have hx12_2 := hcc12 2 _ rfl; (try simp only [show (k96).sz = 4 from rfl, Nat.mul_one, Nat.add_zero] at hx12_2); have hf12_2 := hfr12 2; (try simp only [show (k96).sz = 4 from rfl, Nat.mul_one, Nat.add_zero] at hf12_2); have hx12_3 := hcc12 3 _ rfl; (try simp only [show (k96).sz = 4 from rfl, Nat.mul_one, Nat.add_zero] at hx12_3); have hf12_3 := hfr12 3; (try simp only [show (k96).sz = 4 from rfl, Nat.mul_one, Nat.add_zero] at hf12_3); clear hcl12 hcc12 hfr12 hM12) | ((with_reducible refine gate_store (t := 96) (p := 21) rfl ?_); refine store_event (t := 96) (p := 21) (v := ?vo_w13) (w1 := ((((w11.setCell ⟨go10, (x4_1 : Int).toNat * 4, none⟩ (.string t344)).setCell ⟨go10, (x4_1 : Int).toNat * 4 + 1, none⟩ (.int .i64 t345)).setCell ⟨go10, (x4_1 : Int).toNat * 4 + 2, none⟩ (.string t346)).setCell ⟨go10, (x4_1 : Int).toNat * 4 + 3, none⟩ (.bool t347))) ?hg ?ho ?hn ?hr ?_; (case ho => rfl); (case hg => rfl); (case hn => rfl); (case hr => first | (go_simp; done) | (go_simp; rfl)); intro w13 hw; have hg : w11.grownBy w13 (some go10) := (by rw [hw]; exact HP12.2); have hp_ : Kd.R k96 96 w13 w.heap.size (fun _ => True) (.slice (some ⟨go10, 0, none⟩) x3_1.length co10) y348 := (by rw [hw, Ny348.out]; exact HP12.1); clear HP12; replace HO_3 := zz (hp_); replace HB := zz ((by rw [hw]; exact below_set (below_set (below_set (below_set (HB.out) GB10.out) GB10.out) GB10.out) GB10.out : Below w.heap.size w w13)); clear hg hw hp_))
   go_roundg k1
   case measure => have := HK1.out; omega
   case rel => exact ⟨(y348), (wrap64 (x4_1 + 1)), zr, H', ⟨by have := HK1.out; omega⟩, ⟨by (with_reducible repeat (first | apply Kd.R_alloc | apply Kd.R_drewN | apply Kd.R_drew)); exact HO_3.out⟩, ⟨zb⟩⟩
end Go.Proofs.YtcekmnclmldmmaaGreatDoor.Q
