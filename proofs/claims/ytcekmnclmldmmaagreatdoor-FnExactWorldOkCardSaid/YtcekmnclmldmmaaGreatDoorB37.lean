import Derived.Test.YtcekmnclmldmmaaGreatDoorB04
set_option linter.unusedVariables false
set_option linter.unusedSimpArgs false
namespace Go.Proofs.YtcekmnclmldmmaaGreatDoor.Q
open Go.RowKit W1 W2 W3
attribute [local go_sem] max2_int min2_int max_two min_two max_three min_three max_four min_four
attribute [local go_sem high] bl_leq bl_gtr bl_geq
set_option maxHeartbeats 8000000
set_option maxRecDepth 100000
def laws_szEntry.f (a0_0 : ByteArray) (a0_1 : Int) (a0_2 : ByteArray) (a0_3 : Bool) (a1 : Int) : Option (Int) := if (wrap64 (a1 - (a0_0.size : Int))) < 0 then (some (-1)) else (if (wrap64 ((wrap64 (a1 - (a0_0.size : Int))) - (a0_2.size : Int))) < 0 then (some (-1)) else (some (wrap64 ((wrap64 (a1 - (a0_0.size : Int))) - (a0_2.size : Int)))))
theorem laws_szEntry.calls (a0_0 : ByteArray) (a0_1 : Int) (a0_2 : ByteArray) (a0_3 : Bool) (a1 : Int) (r : Int) (w : World) (h : laws_szEntry.f a0_0 a0_1 a0_2 a0_3 a1 = some r) :
 Calls Tryz.prog 136 #[.agg #[.string a0_0, .int .i64 a0_1, .string a0_2, .bool a0_3], .int .i64 a1] w fun e w' => e = .returned (.int .i64 r) ∧ Below w.heap.size w w' := by
 have hu159 := Tryz.underlying159
 have HB := zz (Below.refl w.heap.size w)
 unfold laws_szEntry.f at h
 have H := h
 clear h
 replace HB := HB.out
 have HW := zz (Below.refl w.heap.size w)
 go_enter Tryz.func136, Tryz.ntmps136
 by_cases c3 : (wrap64 (a1 - (a0_0.size : Int))) < 0
 ·rw [if_pos c3] at H
  have c3b0 := z1 c3
  clear c3
  obtain rfl := zi H
  go_wp2_with (first | (refine zN 2 ?_; (try (refine z4 ?_; dsimp only)); refine zX 2 159 #[.string a0_0, .int .i64 a0_1, .string a0_2, .bool a0_3] ?_; intro gb102 hg w4 hbox hb; have hst := zv HB hb; clear hg hb HB; replace HW := zz (zv HW.out hst); obtain ⟨hbx102_0, hbx102_1, hbx102_2, hbx102_3⟩ := zx4 hbox; have HB := Below.refl w4.heap.size w4; clear hbox hst))
  go_ret
  exact ⟨ze, zv HW.out HB⟩
 rw [if_neg c3] at H
 have c3b0 := z0 c3
 clear c3
 by_cases c5 : (wrap64 ((wrap64 (a1 - (a0_0.size : Int))) - (a0_2.size : Int))) < 0
 ·rw [if_pos c5] at H
  have c5b0 := z1 c5
  clear c5
  obtain rfl := zi H
  go_wp2_with (first | (refine zN 2 ?_; (try (refine z4 ?_; dsimp only)); refine zX 2 159 #[.string a0_0, .int .i64 a0_1, .string a0_2, .bool a0_3] ?_; intro gb102 hg w6 hbox hb; have hst := zv HB hb; clear hg hb HB; replace HW := zz (zv HW.out hst); obtain ⟨hbx102_0, hbx102_1, hbx102_2, hbx102_3⟩ := zx4 hbox; have HB := Below.refl w6.heap.size w6; clear hbox hst))
  go_ret
  exact ⟨ze, zv HW.out HB⟩
 rw [if_neg c5] at H
 have c5b0 := z0 c5
 clear c5
 obtain rfl := zi H
 go_wp2_with (first | (refine zN 2 ?_; (try (refine z4 ?_; dsimp only)); refine zX 2 159 #[.string a0_0, .int .i64 a0_1, .string a0_2, .bool a0_3] ?_; intro gb102 hg w7 hbox hb; have hst := zv HB hb; clear hg hb HB; replace HW := zz (zv HW.out hst); obtain ⟨hbx102_0, hbx102_1, hbx102_2, hbx102_3⟩ := zx4 hbox; have HB := Below.refl w7.heap.size w7; clear hbox hst))
 go_ret
 exact ⟨ze, zv HW.out HB⟩
def laws_szEntryS.l0 : Nat → List (S159) → Int → Int → Option (Int)
 | 0, _, _, _ => none
 | k + 1, x0, x1, x5 => if x5 < (x0.length : Int) then (if 0 ≤ x5 then ((laws_szEntry.f ((rd_T159 x0 x5).f0) ((rd_T159 x0 x5).f1) ((rd_T159 x0 x5).f2) ((rd_T159 x0 x5).f3) x1).bind fun t104 => (if t104 < 0 then (some (-1)) else (laws_szEntryS.l0 k x0 t104 (wrap64 (x5 + 1))))) else (none)) else (some x1)
def laws_szEntryS.f (k : Nat) (l0 : List (S159)) (a1 : Int) : Option (Int) := if (wrap64 (a1 - (l0.length : Int))) < 0 then (some (-1)) else (laws_szEntryS.l0 k l0 (wrap64 (a1 - (l0.length : Int))) 0)
theorem laws_szEntryS.mono_l : ∀ k, (∀ y0 y1 y2, LeO (laws_szEntryS.l0 k y0 y1 y2) (laws_szEntryS.l0 (k + 1) y0 y1 y2))
 | 0 => fun _ _ _ r h => by simp [laws_szEntryS.l0] at h
 | k + 1 => by
  have ih0 := laws_szEntryS.mono_l k
  ·intro y0 y1 y2
   unfold laws_szEntryS.l0
   exact zM
theorem laws_szEntryS.mono : ∀ a0 a1 k, LeO (laws_szEntryS.f k a0 a1) (laws_szEntryS.f (k + 1) a0 a1) := by
 intro a0 a1 k
 have ih0 := laws_szEntryS.mono_l k
 unfold laws_szEntryS.f
 exact zM
theorem laws_szEntryS.calls (k : Nat) (A0 : Option Addr) (c0 : Nat) (l0 : List (S159)) (a1 : Int) (r : Int) (w : World) (hr0 : Kd.C k159 w A0 l0.length l0) (hc0 : l0.length ≤ c0) (h : laws_szEntryS.f k l0 a1 = some r) :
 Calls Tryz.prog 114 #[.slice A0 l0.length c0, .int .i64 a1] w fun e w' => e = .returned (.int .i64 r) ∧ Below w.heap.size w w' := by
 have hu159 := Tryz.underlying159
 have HR0 := zz hr0
 have HC0 := zz hc0
 clear hr0 hc0
 have HB := zz (Below.refl w.heap.size w)
 unfold laws_szEntryS.f at h
 have H := h
 clear h
 replace HB := HB.out
 have HW := zz (Below.refl w.heap.size w)
 go_enter Tryz.func114, Tryz.ntmps114
 by_cases c3 : (wrap64 (a1 - (l0.length : Int))) < 0
 ·rw [if_pos c3] at H
  have c3b0 := z1 c3
  clear c3
  obtain rfl := zi H
  go_wp2_with (fail)
  go_ret
  exact ⟨ze, zv HW.out HB⟩
 rw [if_neg c3] at H
 have c3b0 := z0 c3
 clear c3
 go_wp2_with (fail)
 go_loopg [1, 5] k (fun kq v1 v5 w' => ∃ (x1_kl4 : Int) (x5_kl4 : Int), v1 = .int .i64 x1_kl4 ∧ v5 = .int .i64 x5_kl4 ∧ Aside0 (laws_szEntryS.l0 kq l0 x1_kl4 x5_kl4 = some r) ∧ Aside0 (kq ≤ k) ∧ Aside0 (Below w.heap.size w w'))
 case atStart => exact ⟨(wrap64 (a1 - (l0.length : Int))), (0), zr, zr, ⟨H⟩, ⟨Nat.le_refl _⟩, ⟨HB⟩⟩
 case round =>
  clear H HB
  obtain ⟨x1_kl4, x5_kl4, rfl, rfl, H, HKkl4, HB⟩ := hrel
  replace HB := HB.out
  replace H := H.out
  have HLkl4 := zz (Below.refl w.heap.size w)
  cases gk with
  | zero => exact absurd H (by simp [laws_szEntryS.l0])
  | succ kl4 =>
   simp only [laws_szEntryS.l0] at H
   by_cases c5 : x5_kl4 < (l0.length : Int)
   case neg =>
    rw [if_neg c5] at H
    have c5b0 := z0 c5
    clear c5
    obtain rfl := zi H
    go_wp2_with (fail)
    go_ret
    exact ⟨ze, zv HW.out HB⟩
   rw [if_pos c5] at H
   have c5b0 := z1 c5
   clear c5
   by_cases c6 : 0 ≤ x5_kl4
   case neg => exact zno H c6
   rw [if_pos c6] at H
   have c6b0 := z1 c6
   clear c6
   have p103 : 0 ≤ (x5_kl4 : Int) := z2
   have q103 : (x5_kl4 : Int) < (l0.length : Int) := z2
   obtain ⟨ad103, e103, hx103_0, hx103_1, hx103_2, hx103_3⟩ := at_T159 HR0.out x5_kl4 p103 q103
   cases e103
   replace hx103_0 := cellB hx103_0
   replace hx103_1 := cellB hx103_1
   replace hx103_2 := cellB hx103_2
   replace hx103_3 := cellB hx103_3
   replace p103 := eq_true p103
   replace q103 := eq_true q103
   replace H := zf H
   obtain ⟨t104, A7, H⟩ := H
   try dsimp only at H
   replace A7 := zz A7
   by_cases c8 : t104 < 0
   ·rw [if_pos c8] at H
    have c8b0 := z1 c8
    clear c8
    go_wp2_with (fail)
    refine (laws_szEntry.calls _ _ _ _ _ _ _  A7.out).mono ?_
    rintro e w10 ⟨rfl, hb⟩
    replace HB := zv HB hb
    clear hb
    obtain rfl := zi H
    go_wp2_with (fail)
    go_ret
    exact ⟨ze, zv HW.out HB⟩
   rw [if_neg c8] at H
   have c8b0 := z0 c8
   clear c8
   go_wp2_with (fail)
   refine (laws_szEntry.calls _ _ _ _ _ _ _  A7.out).mono ?_
   rintro e w12 ⟨rfl, hb⟩
   replace HB := zv HB hb
   clear hb
   go_wp2_with (fail)
   go_roundg kl4
   case measure => have := HKkl4.out; omega
   case rel => exact ⟨(t104), (wrap64 (x5_kl4 + 1)), zr, zr, ⟨H⟩, ⟨by have := HKkl4.out; omega⟩, ⟨zv HLkl4.out HB⟩⟩
def laws_szStringS.l0 : Nat → List ByteArray → Int → Int → Option (Int)
 | 0, _, _, _ => none
 | k + 1, x0, x1, x5 => if x5 < (x0.length : Int) then (if 0 ≤ x5 then (if (wrap64 (x1 - ((rdOf ByteArray.empty x0 x5).size : Int))) < 0 then (some (-1)) else (laws_szStringS.l0 k x0 (wrap64 (x1 - ((rdOf ByteArray.empty x0 x5).size : Int))) (wrap64 (x5 + 1)))) else (none)) else (some x1)
def laws_szStringS.f (k : Nat) (l0 : List ByteArray) (a1 : Int) : Option (Int) := if (wrap64 (a1 - (l0.length : Int))) < 0 then (some (-1)) else (laws_szStringS.l0 k l0 (wrap64 (a1 - (l0.length : Int))) 0)
theorem laws_szStringS.mono_l : ∀ k, (∀ y0 y1 y2, LeO (laws_szStringS.l0 k y0 y1 y2) (laws_szStringS.l0 (k + 1) y0 y1 y2))
 | 0 => fun _ _ _ r h => by simp [laws_szStringS.l0] at h
 | k + 1 => by
  have ih0 := laws_szStringS.mono_l k
  ·intro y0 y1 y2
   unfold laws_szStringS.l0
   exact zM
theorem laws_szStringS.mono : ∀ a0 a1 k, LeO (laws_szStringS.f k a0 a1) (laws_szStringS.f (k + 1) a0 a1) := by
 intro a0 a1 k
 have ih0 := laws_szStringS.mono_l k
 unfold laws_szStringS.f
 exact zM
theorem laws_szStringS.calls (k : Nat) (A0 : Option Addr) (c0 : Nat) (l0 : List ByteArray) (a1 : Int) (r : Int) (w : World) (hr0 : Kd.C Kd.string w A0 l0.length l0) (hc0 : l0.length ≤ c0) (h : laws_szStringS.f k l0 a1 = some r) :
 Calls Tryz.prog 18 #[.slice A0 l0.length c0, .int .i64 a1] w fun e w' => e = .returned (.int .i64 r) ∧ Below w.heap.size w w' := by
 have HR0 := zz hr0
 have HC0 := zz hc0
 clear hr0 hc0
 have HB := zz (Below.refl w.heap.size w)
 unfold laws_szStringS.f at h
 have H := h
 clear h
 replace HB := HB.out
 have HW := zz (Below.refl w.heap.size w)
 go_enter Tryz.func18, Tryz.ntmps18
 by_cases c3 : (wrap64 (a1 - (l0.length : Int))) < 0
 ·rw [if_pos c3] at H
  have c3b0 := z1 c3
  clear c3
  obtain rfl := zi H
  go_wp2_with (fail)
  go_ret
  exact ⟨ze, zv HW.out HB⟩
 rw [if_neg c3] at H
 have c3b0 := z0 c3
 clear c3
 go_wp2_with (fail)
 go_loopg [1, 5] k (fun kq v1 v5 w' => ∃ (x1_kl4 : Int) (x5_kl4 : Int), v1 = .int .i64 x1_kl4 ∧ v5 = .int .i64 x5_kl4 ∧ Aside0 (laws_szStringS.l0 kq l0 x1_kl4 x5_kl4 = some r) ∧ Aside0 (kq ≤ k) ∧ Aside0 (Below w.heap.size w w'))
 case atStart => exact ⟨(wrap64 (a1 - (l0.length : Int))), (0), zr, zr, ⟨H⟩, ⟨Nat.le_refl _⟩, ⟨HB⟩⟩
 case round =>
  clear H HB
  obtain ⟨x1_kl4, x5_kl4, rfl, rfl, H, HKkl4, HB⟩ := hrel
  replace HB := HB.out
  replace H := H.out
  have HLkl4 := zz (Below.refl w.heap.size w)
  cases gk with
  | zero => exact absurd H (by simp [laws_szStringS.l0])
  | succ kl4 =>
   simp only [laws_szStringS.l0] at H
   by_cases c5 : x5_kl4 < (l0.length : Int)
   case neg =>
    rw [if_neg c5] at H
    have c5b0 := z0 c5
    clear c5
    obtain rfl := zi H
    go_wp2_with (fail)
    go_ret
    exact ⟨ze, zv HW.out HB⟩
   rw [if_pos c5] at H
   have c5b0 := z1 c5
   clear c5
   by_cases c6 : 0 ≤ x5_kl4
   case neg => exact zno H c6
   rw [if_pos c6] at H
   have c6b0 := z1 c6
   clear c6
   have p101 : 0 ≤ (x5_kl4 : Int) := z2
   have q101 : (x5_kl4 : Int) < (l0.length : Int) := z2
   obtain ⟨ad101, e101, hx101_0⟩ := Kd.at_string HR0.out x5_kl4 p101 q101
   cases e101
   replace hx101_0 := cellB hx101_0
   replace p101 := eq_true p101
   replace q101 := eq_true q101
   by_cases c7 : (wrap64 (x1_kl4 - ((rdOf ByteArray.empty l0 x5_kl4).size : Int))) < 0
   ·rw [if_pos c7] at H
    have c7b0 := z1 c7
    clear c7
    obtain rfl := zi H
    go_wp2_with (fail)
    go_ret
    exact ⟨ze, zv HW.out HB⟩
   rw [if_neg c7] at H
   have c7b0 := z0 c7
   clear c7
   go_wp2_with (fail)
   go_roundg kl4
   case measure => have := HKkl4.out; omega
   case rel => exact ⟨(wrap64 (x1_kl4 - ((rdOf ByteArray.empty l0 x5_kl4).size : Int))), (wrap64 (x5_kl4 + 1)), zr, zr, ⟨H⟩, ⟨by have := HKkl4.out; omega⟩, ⟨zv HLkl4.out HB⟩⟩
def laws_szItem.f (k : Nat) (a0_0 : ByteArray) (a0_1 : ByteArray) (l0_2 : List ByteArray) (a0_3 : ByteArray) (l0_4 : List (S159)) (a1 : Int) : Option (Int) := if (wrap64 (a1 - (a0_0.size : Int))) < 0 then (some (-1)) else (if (wrap64 ((wrap64 (a1 - (a0_0.size : Int))) - (a0_1.size : Int))) < 0 then (some (-1)) else ((laws_szStringS.f k l0_2 (wrap64 ((wrap64 (a1 - (a0_0.size : Int))) - (a0_1.size : Int)))).bind fun t106 => (if t106 < 0 then (some (-1)) else (if (wrap64 (t106 - (a0_3.size : Int))) < 0 then (some (-1)) else ((laws_szEntryS.f k l0_4 (wrap64 (t106 - (a0_3.size : Int)))).bind fun t107 => (if t107 < 0 then (some (-1)) else (some t107)))))))
theorem laws_szItem.mono : ∀ a0 a1 a2 a3 a4 a5 k, LeO (laws_szItem.f k a0 a1 a2 a3 a4 a5) (laws_szItem.f (k + 1) a0 a1 a2 a3 a4 a5) := by
 intro a0 a1 a2 a3 a4 a5 k
 unfold laws_szItem.f
 have m0 := @laws_szEntryS.mono
 have m1 := @laws_szStringS.mono
 exact zM
theorem laws_szItem.calls (k : Nat) (a0_0 : ByteArray) (a0_1 : ByteArray) (A0_2 : Option Addr) (c0_2 : Nat) (l0_2 : List ByteArray) (a0_3 : ByteArray) (A0_4 : Option Addr) (c0_4 : Nat) (l0_4 : List (S159)) (a1 : Int) (r : Int) (w : World) (hr0_2 : Kd.C Kd.string w A0_2 l0_2.length l0_2) (hc0_2 : l0_2.length ≤ c0_2) (hr0_4 : Kd.C k159 w A0_4 l0_4.length l0_4) (hc0_4 : l0_4.length ≤ c0_4) (h : laws_szItem.f k a0_0 a0_1 l0_2 a0_3 l0_4 a1 = some r) :
 Calls Tryz.prog 74 #[.agg #[.string a0_0, .string a0_1, .slice A0_2 l0_2.length c0_2, .string a0_3, .slice A0_4 l0_4.length c0_4], .int .i64 a1] w fun e w' => e = .returned (.int .i64 r) ∧ Below w.heap.size w w' := by
 have hu103 := Tryz.underlying103
 have HR0_2 := zz hr0_2
 have HC0_2 := zz hc0_2
 clear hr0_2 hc0_2
 have HR0_4 := zz hr0_4
 have HC0_4 := zz hc0_4
 clear hr0_4 hc0_4
 have HB := zz (Below.refl w.heap.size w)
 unfold laws_szItem.f at h
 have H := h
 clear h
 replace HB := HB.out
 have HW := zz (Below.refl w.heap.size w)
 go_enter Tryz.func74, Tryz.ntmps74
 by_cases c3 : (wrap64 (a1 - (a0_0.size : Int))) < 0
 ·rw [if_pos c3] at H
  have c3b0 := z1 c3
  clear c3
  obtain rfl := zi H
  go_wp2_with (first | (refine zN 2 ?_; (try (refine z4 ?_; dsimp only)); refine zX 2 103 #[.string a0_0, .string a0_1, .slice A0_2 l0_2.length c0_2, .string a0_3, .slice A0_4 l0_4.length c0_4] ?_; intro gb105 hg w4 hbox hb; have hst := zv HB hb; clear hg hb HB; replace HW := zz (zv HW.out hst); replace HR0_2 := zz (Kd.C_below HR0_2.out hst); replace HR0_4 := zz (Kd.C_below HR0_4.out hst); obtain ⟨hbx105_0, hbx105_1, hbx105_2, hbx105_3, hbx105_4⟩ := zx5 hbox; have HB := Below.refl w4.heap.size w4; clear hbox hst))
  go_ret
  exact ⟨ze, zv HW.out HB⟩
 rw [if_neg c3] at H
 have c3b0 := z0 c3
 clear c3
 by_cases c5 : (wrap64 ((wrap64 (a1 - (a0_0.size : Int))) - (a0_1.size : Int))) < 0
 ·rw [if_pos c5] at H
  have c5b0 := z1 c5
  clear c5
  obtain rfl := zi H
  go_wp2_with (first | (refine zN 2 ?_; (try (refine z4 ?_; dsimp only)); refine zX 2 103 #[.string a0_0, .string a0_1, .slice A0_2 l0_2.length c0_2, .string a0_3, .slice A0_4 l0_4.length c0_4] ?_; intro gb105 hg w6 hbox hb; have hst := zv HB hb; clear hg hb HB; replace HW := zz (zv HW.out hst); replace HR0_2 := zz (Kd.C_below HR0_2.out hst); replace HR0_4 := zz (Kd.C_below HR0_4.out hst); obtain ⟨hbx105_0, hbx105_1, hbx105_2, hbx105_3, hbx105_4⟩ := zx5 hbox; have HB := Below.refl w6.heap.size w6; clear hbox hst))
  go_ret
  exact ⟨ze, zv HW.out HB⟩
 rw [if_neg c5] at H
 have c5b0 := z0 c5
 clear c5
 replace H := zf H
 obtain ⟨t106, A7, H⟩ := H
 try dsimp only at H
 replace A7 := zz A7
 go_wp2_with (first | (refine zN 2 ?_; (try (refine z4 ?_; dsimp only)); refine zX 2 103 #[.string a0_0, .string a0_1, .slice A0_2 l0_2.length c0_2, .string a0_3, .slice A0_4 l0_4.length c0_4] ?_; intro gb105 hg w10 hbox hb; have hst := zv HB hb; clear hg hb HB; replace HW := zz (zv HW.out hst); replace HR0_2 := zz (Kd.C_below HR0_2.out hst); replace HR0_4 := zz (Kd.C_below HR0_4.out hst); obtain ⟨hbx105_0, hbx105_1, hbx105_2, hbx105_3, hbx105_4⟩ := zx5 hbox; have HB := Below.refl w10.heap.size w10; clear hbox hst))
 refine (laws_szStringS.calls k _ _ _ _ _ _ (Kd.C_below HR0_2.out HB) HC0_2.out A7.out).mono ?_
 rintro e w11 ⟨rfl, hb⟩
 replace HB := zv HB hb
 clear hb
 by_cases c8 : t106 < 0
 ·rw [if_pos c8] at H
  have c8b0 := z1 c8
  clear c8
  obtain rfl := zi H
  go_wp2_with (fail)
  go_ret
  exact ⟨ze, zv HW.out HB⟩
 rw [if_neg c8] at H
 have c8b0 := z0 c8
 clear c8
 by_cases c12 : (wrap64 (t106 - (a0_3.size : Int))) < 0
 ·rw [if_pos c12] at H
  have c12b0 := z1 c12
  clear c12
  obtain rfl := zi H
  go_wp2_with (fail)
  go_ret
  exact ⟨ze, zv HW.out HB⟩
 rw [if_neg c12] at H
 have c12b0 := z0 c12
 clear c12
 replace H := zf H
 obtain ⟨t107, A19, H⟩ := H
 try dsimp only at H
 replace A19 := zz A19
 by_cases c20 : t107 < 0
 ·rw [if_pos c20] at H
  have c20b0 := z1 c20
  clear c20
  go_wp2_with (fail)
  refine (laws_szEntryS.calls k _ _ _ _ _ _ (Kd.C_below HR0_4.out HB) HC0_4.out A19.out).mono ?_
  rintro e w22 ⟨rfl, hb⟩
  replace HB := zv HB hb
  clear hb
  obtain rfl := zi H
  go_wp2_with (fail)
  go_ret
  exact ⟨ze, zv HW.out HB⟩
 rw [if_neg c20] at H
 have c20b0 := z0 c20
 clear c20
 go_wp2_with (fail)
 refine (laws_szEntryS.calls k _ _ _ _ _ _ (Kd.C_below HR0_4.out HB) HC0_4.out A19.out).mono ?_
 rintro e w24 ⟨rfl, hb⟩
 replace HB := zv HB hb
 clear hb
 obtain rfl := zi H
 go_wp2_with (fail)
 go_ret
 exact ⟨ze, zv HW.out HB⟩
def laws_szItemS.l0 : Nat → List (S103) → Int → Int → Option (Int)
 | 0, _, _, _ => none
 | k + 1, x0, x1, x5 => if x5 < (x0.length : Int) then (if 0 ≤ x5 then ((laws_szItem.f k ((rd_T103 x0 x5).f0) ((rd_T103 x0 x5).f1) ((rd_T103 x0 x5).f2) ((rd_T103 x0 x5).f3) ((rd_T103 x0 x5).f4) x1).bind fun t109 => (if t109 < 0 then (some (-1)) else (laws_szItemS.l0 k x0 t109 (wrap64 (x5 + 1))))) else (none)) else (some x1)
def laws_szItemS.f (k : Nat) (l0 : List (S103)) (a1 : Int) : Option (Int) := if (wrap64 (a1 - (l0.length : Int))) < 0 then (some (-1)) else (laws_szItemS.l0 k l0 (wrap64 (a1 - (l0.length : Int))) 0)
theorem laws_szItemS.mono_l : ∀ k, (∀ y0 y1 y2, LeO (laws_szItemS.l0 k y0 y1 y2) (laws_szItemS.l0 (k + 1) y0 y1 y2))
 | 0 => fun _ _ _ r h => by simp [laws_szItemS.l0] at h
 | k + 1 => by
  have ih0 := laws_szItemS.mono_l k
  ·intro y0 y1 y2
   unfold laws_szItemS.l0
   have m0 := @laws_szItem.mono
   exact zM
theorem laws_szItemS.mono : ∀ a0 a1 k, LeO (laws_szItemS.f k a0 a1) (laws_szItemS.f (k + 1) a0 a1) := by
 intro a0 a1 k
 have ih0 := laws_szItemS.mono_l k
 unfold laws_szItemS.f
 have m0 := @laws_szItem.mono
 exact zM
theorem laws_szItemS.calls (k : Nat) (A0 : Option Addr) (c0 : Nat) (l0 : List (S103)) (a1 : Int) (r : Int) (w : World) (hr0 : Kd.C k103 w A0 l0.length l0) (hc0 : l0.length ≤ c0) (h : laws_szItemS.f k l0 a1 = some r) :
 Calls Tryz.prog 28 #[.slice A0 l0.length c0, .int .i64 a1] w fun e w' => e = .returned (.int .i64 r) ∧ Below w.heap.size w w' := by
 have hu103 := Tryz.underlying103
 have HR0 := zz hr0
 have HC0 := zz hc0
 clear hr0 hc0
 have HB := zz (Below.refl w.heap.size w)
 unfold laws_szItemS.f at h
 have H := h
 clear h
 replace HB := HB.out
 have HW := zz (Below.refl w.heap.size w)
 go_enter Tryz.func28, Tryz.ntmps28
 by_cases c3 : (wrap64 (a1 - (l0.length : Int))) < 0
 ·rw [if_pos c3] at H
  have c3b0 := z1 c3
  clear c3
  obtain rfl := zi H
  go_wp2_with (fail)
  go_ret
  exact ⟨ze, zv HW.out HB⟩
 rw [if_neg c3] at H
 have c3b0 := z0 c3
 clear c3
 go_wp2_with (fail)
 go_loopg [1, 5] k (fun kq v1 v5 w' => ∃ (x1_kl4 : Int) (x5_kl4 : Int), v1 = .int .i64 x1_kl4 ∧ v5 = .int .i64 x5_kl4 ∧ Aside0 (laws_szItemS.l0 kq l0 x1_kl4 x5_kl4 = some r) ∧ Aside0 (kq ≤ k) ∧ Aside0 (Below w.heap.size w w'))
 case atStart => exact ⟨(wrap64 (a1 - (l0.length : Int))), (0), zr, zr, ⟨H⟩, ⟨Nat.le_refl _⟩, ⟨HB⟩⟩
 case round =>
  clear H HB
  obtain ⟨x1_kl4, x5_kl4, rfl, rfl, H, HKkl4, HB⟩ := hrel
  replace HB := HB.out
  replace H := H.out
  have HLkl4 := zz (Below.refl w.heap.size w)
  cases gk with
  | zero => exact absurd H (by simp [laws_szItemS.l0])
  | succ kl4 =>
   simp only [laws_szItemS.l0] at H
   by_cases c5 : x5_kl4 < (l0.length : Int)
   case neg =>
    rw [if_neg c5] at H
    have c5b0 := z0 c5
    clear c5
    obtain rfl := zi H
    go_wp2_with (fail)
    go_ret
    exact ⟨ze, zv HW.out HB⟩
   rw [if_pos c5] at H
   have c5b0 := z1 c5
   clear c5
   by_cases c6 : 0 ≤ x5_kl4
   case neg => exact zno H c6
   rw [if_pos c6] at H
   have c6b0 := z1 c6
   clear c6
   have p108 : 0 ≤ (x5_kl4 : Int) := z2
   have q108 : (x5_kl4 : Int) < (l0.length : Int) := z2
   obtain ⟨ad108, A108_2, c108_2, A108_4, c108_4, e108, hx108_0, hx108_1, hx108_2, hx108_3, hx108_4, hl108_2, hC108_2, hl108_4, hC108_4⟩ := at_T103 HR0.out x5_kl4 p108 q108
   cases e108
   replace hx108_0 := cellB hx108_0
   replace hx108_1 := cellB hx108_1
   replace hx108_2 := cellB hx108_2
   replace hx108_3 := cellB hx108_3
   replace hx108_4 := cellB hx108_4
   have HR108_2 := zz hC108_2
   have HC108_2 := zz hl108_2
   clear hC108_2 hl108_2
   have HR108_4 := zz hC108_4
   have HC108_4 := zz hl108_4
   clear hC108_4 hl108_4
   replace p108 := eq_true p108
   replace q108 := eq_true q108
   replace H := zf H
   obtain ⟨t109, A7, H⟩ := H
   try dsimp only at H
   replace A7 := zz A7
   by_cases c8 : t109 < 0
   ·rw [if_pos c8] at H
    have c8b0 := z1 c8
    clear c8
    go_wp2_with (fail)
    refine (laws_szItem.calls kl4 _ _ _ _ _ _ _ _ _ _ _ _ (Kd.C_below HR108_2.out HB) HC108_2.out (Kd.C_below HR108_4.out HB) HC108_4.out A7.out).mono ?_
    rintro e w10 ⟨rfl, hb⟩
    replace HB := zv HB hb
    clear hb
    obtain rfl := zi H
    go_wp2_with (fail)
    go_ret
    exact ⟨ze, zv HW.out HB⟩
   rw [if_neg c8] at H
   have c8b0 := z0 c8
   clear c8
   go_wp2_with (fail)
   refine (laws_szItem.calls kl4 _ _ _ _ _ _ _ _ _ _ _ _ (Kd.C_below HR108_2.out HB) HC108_2.out (Kd.C_below HR108_4.out HB) HC108_4.out A7.out).mono ?_
   rintro e w12 ⟨rfl, hb⟩
   replace HB := zv HB hb
   clear hb
   go_wp2_with (fail)
   go_roundg kl4
   case measure => have := HKkl4.out; omega
   case rel => exact ⟨(t109), (wrap64 (x5_kl4 + 1)), zr, zr, ⟨H⟩, ⟨by have := HKkl4.out; omega⟩, ⟨zv HLkl4.out HB⟩⟩
def laws_szGen.f (a0_0 : Int) (a0_1 : ByteArray) (a1 : Int) : Option (Int) := if (wrap64 (a1 - (a0_1.size : Int))) < 0 then (some (-1)) else (some (wrap64 (a1 - (a0_1.size : Int))))
theorem laws_szGen.calls (a0_0 : Int) (a0_1 : ByteArray) (a1 : Int) (r : Int) (w : World) (h : laws_szGen.f a0_0 a0_1 a1 = some r) :
 Calls Tryz.prog 137 #[.agg #[.int .i64 a0_0, .string a0_1], .int .i64 a1] w fun e w' => e = .returned (.int .i64 r) ∧ Below w.heap.size w w' := by
 have hu161 := Tryz.underlying161
 have HB := zz (Below.refl w.heap.size w)
 unfold laws_szGen.f at h
 have H := h
 clear h
 replace HB := HB.out
 have HW := zz (Below.refl w.heap.size w)
 go_enter Tryz.func137, Tryz.ntmps137
 by_cases c3 : (wrap64 (a1 - (a0_1.size : Int))) < 0
 ·rw [if_pos c3] at H
  have c3b0 := z1 c3
  clear c3
  obtain rfl := zi H
  go_wp2_with (first | (refine zN 2 ?_; (try (refine z4 ?_; dsimp only)); refine zX 2 161 #[.int .i64 a0_0, .string a0_1] ?_; intro gb110 hg w4 hbox hb; have hst := zv HB hb; clear hg hb HB; replace HW := zz (zv HW.out hst); obtain ⟨hbx110_0, hbx110_1⟩ := zx2 hbox; have HB := Below.refl w4.heap.size w4; clear hbox hst))
  go_ret
  exact ⟨ze, zv HW.out HB⟩
 rw [if_neg c3] at H
 have c3b0 := z0 c3
 clear c3
 obtain rfl := zi H
 go_wp2_with (first | (refine zN 2 ?_; (try (refine z4 ?_; dsimp only)); refine zX 2 161 #[.int .i64 a0_0, .string a0_1] ?_; intro gb110 hg w5 hbox hb; have hst := zv HB hb; clear hg hb HB; replace HW := zz (zv HW.out hst); obtain ⟨hbx110_0, hbx110_1⟩ := zx2 hbox; have HB := Below.refl w5.heap.size w5; clear hbox hst))
 go_ret
 exact ⟨ze, zv HW.out HB⟩
def laws_szGenS.l0 : Nat → List (S161) → Int → Int → Option (Int)
 | 0, _, _, _ => none
 | k + 1, x0, x1, x5 => if x5 < (x0.length : Int) then (if 0 ≤ x5 then ((laws_szGen.f ((rd_T161 x0 x5).f0) ((rd_T161 x0 x5).f1) x1).bind fun t112 => (if t112 < 0 then (some (-1)) else (laws_szGenS.l0 k x0 t112 (wrap64 (x5 + 1))))) else (none)) else (some x1)
def laws_szGenS.f (k : Nat) (l0 : List (S161)) (a1 : Int) : Option (Int) := if (wrap64 (a1 - (l0.length : Int))) < 0 then (some (-1)) else (laws_szGenS.l0 k l0 (wrap64 (a1 - (l0.length : Int))) 0)
theorem laws_szGenS.mono_l : ∀ k, (∀ y0 y1 y2, LeO (laws_szGenS.l0 k y0 y1 y2) (laws_szGenS.l0 (k + 1) y0 y1 y2))
 | 0 => fun _ _ _ r h => by simp [laws_szGenS.l0] at h
 | k + 1 => by
  have ih0 := laws_szGenS.mono_l k
  ·intro y0 y1 y2
   unfold laws_szGenS.l0
   exact zM
theorem laws_szGenS.mono : ∀ a0 a1 k, LeO (laws_szGenS.f k a0 a1) (laws_szGenS.f (k + 1) a0 a1) := by
 intro a0 a1 k
 have ih0 := laws_szGenS.mono_l k
 unfold laws_szGenS.f
 exact zM
theorem laws_szGenS.calls (k : Nat) (A0 : Option Addr) (c0 : Nat) (l0 : List (S161)) (a1 : Int) (r : Int) (w : World) (hr0 : Kd.C k161 w A0 l0.length l0) (hc0 : l0.length ≤ c0) (h : laws_szGenS.f k l0 a1 = some r) :
 Calls Tryz.prog 115 #[.slice A0 l0.length c0, .int .i64 a1] w fun e w' => e = .returned (.int .i64 r) ∧ Below w.heap.size w w' := by
 have hu161 := Tryz.underlying161
 have HR0 := zz hr0
 have HC0 := zz hc0
 clear hr0 hc0
 have HB := zz (Below.refl w.heap.size w)
 unfold laws_szGenS.f at h
 have H := h
 clear h
 replace HB := HB.out
 have HW := zz (Below.refl w.heap.size w)
 go_enter Tryz.func115, Tryz.ntmps115
 by_cases c3 : (wrap64 (a1 - (l0.length : Int))) < 0
 ·rw [if_pos c3] at H
  have c3b0 := z1 c3
  clear c3
  obtain rfl := zi H
  go_wp2_with (fail)
  go_ret
  exact ⟨ze, zv HW.out HB⟩
 rw [if_neg c3] at H
 have c3b0 := z0 c3
 clear c3
 go_wp2_with (fail)
 go_loopg [1, 5] k (fun kq v1 v5 w' => ∃ (x1_kl4 : Int) (x5_kl4 : Int), v1 = .int .i64 x1_kl4 ∧ v5 = .int .i64 x5_kl4 ∧ Aside0 (laws_szGenS.l0 kq l0 x1_kl4 x5_kl4 = some r) ∧ Aside0 (kq ≤ k) ∧ Aside0 (Below w.heap.size w w'))
 case atStart => exact ⟨(wrap64 (a1 - (l0.length : Int))), (0), zr, zr, ⟨H⟩, ⟨Nat.le_refl _⟩, ⟨HB⟩⟩
 case round =>
  clear H HB
  obtain ⟨x1_kl4, x5_kl4, rfl, rfl, H, HKkl4, HB⟩ := hrel
  replace HB := HB.out
  replace H := H.out
  have HLkl4 := zz (Below.refl w.heap.size w)
  cases gk with
  | zero => exact absurd H (by simp [laws_szGenS.l0])
  | succ kl4 =>
   simp only [laws_szGenS.l0] at H
   by_cases c5 : x5_kl4 < (l0.length : Int)
   case neg =>
    rw [if_neg c5] at H
    have c5b0 := z0 c5
    clear c5
    obtain rfl := zi H
    go_wp2_with (fail)
    go_ret
    exact ⟨ze, zv HW.out HB⟩
   rw [if_pos c5] at H
   have c5b0 := z1 c5
   clear c5
   by_cases c6 : 0 ≤ x5_kl4
   case neg => exact zno H c6
   rw [if_pos c6] at H
   have c6b0 := z1 c6
   clear c6
   have p111 : 0 ≤ (x5_kl4 : Int) := z2
   have q111 : (x5_kl4 : Int) < (l0.length : Int) := z2
   obtain ⟨ad111, e111, hx111_0, hx111_1⟩ := at_T161 HR0.out x5_kl4 p111 q111
   cases e111
   replace hx111_0 := cellB hx111_0
   replace hx111_1 := cellB hx111_1
   replace p111 := eq_true p111
   replace q111 := eq_true q111
   replace H := zf H
   obtain ⟨t112, A7, H⟩ := H
   try dsimp only at H
   replace A7 := zz A7
   by_cases c8 : t112 < 0
   ·rw [if_pos c8] at H
    have c8b0 := z1 c8
    clear c8
    go_wp2_with (fail)
    refine (laws_szGen.calls _ _ _ _ _  A7.out).mono ?_
    rintro e w10 ⟨rfl, hb⟩
    replace HB := zv HB hb
    clear hb
    obtain rfl := zi H
    go_wp2_with (fail)
    go_ret
    exact ⟨ze, zv HW.out HB⟩
   rw [if_neg c8] at H
   have c8b0 := z0 c8
   clear c8
   go_wp2_with (fail)
   refine (laws_szGen.calls _ _ _ _ _  A7.out).mono ?_
   rintro e w12 ⟨rfl, hb⟩
   replace HB := zv HB hb
   clear hb
   go_wp2_with (fail)
   go_roundg kl4
   case measure => have := HKkl4.out; omega
   case rel => exact ⟨(t112), (wrap64 (x5_kl4 + 1)), zr, zr, ⟨H⟩, ⟨by have := HKkl4.out; omega⟩, ⟨zv HLkl4.out HB⟩⟩
def laws_szProfile.f (k : Nat) (a0_0 : ByteArray) (a0_1 : Int) (l0_2 : List (S161)) (a1 : Int) : Option (Int) := if (wrap64 (a1 - (a0_0.size : Int))) < 0 then (some (-1)) else ((laws_szGenS.f k l0_2 (wrap64 (a1 - (a0_0.size : Int)))).bind fun t114 => (if t114 < 0 then (some (-1)) else (some t114)))
theorem laws_szProfile.mono : ∀ a0 a1 a2 a3 k, LeO (laws_szProfile.f k a0 a1 a2 a3) (laws_szProfile.f (k + 1) a0 a1 a2 a3) := by
 intro a0 a1 a2 a3 k
 unfold laws_szProfile.f
 have m0 := @laws_szGenS.mono
 exact zM
theorem laws_szProfile.calls (k : Nat) (a0_0 : ByteArray) (a0_1 : Int) (A0_2 : Option Addr) (c0_2 : Nat) (l0_2 : List (S161)) (a1 : Int) (r : Int) (w : World) (hr0_2 : Kd.C k161 w A0_2 l0_2.length l0_2) (hc0_2 : l0_2.length ≤ c0_2) (h : laws_szProfile.f k a0_0 a0_1 l0_2 a1 = some r) :
 Calls Tryz.prog 75 #[.agg #[.string a0_0, .int .i64 a0_1, .slice A0_2 l0_2.length c0_2], .int .i64 a1] w fun e w' => e = .returned (.int .i64 r) ∧ Below w.heap.size w w' := by
 have hu107 := Tryz.underlying107
 have HR0_2 := zz hr0_2
 have HC0_2 := zz hc0_2
 clear hr0_2 hc0_2
 have HB := zz (Below.refl w.heap.size w)
 unfold laws_szProfile.f at h
 have H := h
 clear h
 replace HB := HB.out
 have HW := zz (Below.refl w.heap.size w)
 go_enter Tryz.func75, Tryz.ntmps75
 by_cases c3 : (wrap64 (a1 - (a0_0.size : Int))) < 0
 ·rw [if_pos c3] at H
  have c3b0 := z1 c3
  clear c3
  obtain rfl := zi H
  go_wp2_with (first | (refine zN 2 ?_; (try (refine z4 ?_; dsimp only)); refine zX 2 107 #[.string a0_0, .int .i64 a0_1, .slice A0_2 l0_2.length c0_2] ?_; intro gb113 hg w4 hbox hb; have hst := zv HB hb; clear hg hb HB; replace HW := zz (zv HW.out hst); replace HR0_2 := zz (Kd.C_below HR0_2.out hst); obtain ⟨hbx113_0, hbx113_1, hbx113_2⟩ := zx3 hbox; have HB := Below.refl w4.heap.size w4; clear hbox hst))
  go_ret
  exact ⟨ze, zv HW.out HB⟩
 rw [if_neg c3] at H
 have c3b0 := z0 c3
 clear c3
 replace H := zf H
 obtain ⟨t114, A5, H⟩ := H
 try dsimp only at H
 replace A5 := zz A5
 go_wp2_with (first | (refine zN 2 ?_; (try (refine z4 ?_; dsimp only)); refine zX 2 107 #[.string a0_0, .int .i64 a0_1, .slice A0_2 l0_2.length c0_2] ?_; intro gb113 hg w8 hbox hb; have hst := zv HB hb; clear hg hb HB; replace HW := zz (zv HW.out hst); replace HR0_2 := zz (Kd.C_below HR0_2.out hst); obtain ⟨hbx113_0, hbx113_1, hbx113_2⟩ := zx3 hbox; have HB := Below.refl w8.heap.size w8; clear hbox hst))
 refine (laws_szGenS.calls k _ _ _ _ _ _ (Kd.C_below HR0_2.out HB) HC0_2.out A5.out).mono ?_
 rintro e w9 ⟨rfl, hb⟩
 replace HB := zv HB hb
 clear hb
 by_cases c6 : t114 < 0
 ·rw [if_pos c6] at H
  have c6b0 := z1 c6
  clear c6
  obtain rfl := zi H
  go_wp2_with (fail)
  go_ret
  exact ⟨ze, zv HW.out HB⟩
 rw [if_neg c6] at H
 have c6b0 := z0 c6
 clear c6
 obtain rfl := zi H
 go_wp2_with (fail)
 go_ret
 exact ⟨ze, zv HW.out HB⟩
def laws_szProfileS.l0 : Nat → List (S107) → Int → Int → Option (Int)
 | 0, _, _, _ => none
 | k + 1, x0, x1, x5 => if x5 < (x0.length : Int) then (if 0 ≤ x5 then ((laws_szProfile.f k ((rd_T107 x0 x5).f0) ((rd_T107 x0 x5).f1) ((rd_T107 x0 x5).f2) x1).bind fun t116 => (if t116 < 0 then (some (-1)) else (laws_szProfileS.l0 k x0 t116 (wrap64 (x5 + 1))))) else (none)) else (some x1)
def laws_szProfileS.f (k : Nat) (l0 : List (S107)) (a1 : Int) : Option (Int) := if (wrap64 (a1 - (l0.length : Int))) < 0 then (some (-1)) else (laws_szProfileS.l0 k l0 (wrap64 (a1 - (l0.length : Int))) 0)
theorem laws_szProfileS.mono_l : ∀ k, (∀ y0 y1 y2, LeO (laws_szProfileS.l0 k y0 y1 y2) (laws_szProfileS.l0 (k + 1) y0 y1 y2))
 | 0 => fun _ _ _ r h => by simp [laws_szProfileS.l0] at h
 | k + 1 => by
  have ih0 := laws_szProfileS.mono_l k
  ·intro y0 y1 y2
   unfold laws_szProfileS.l0
   have m0 := @laws_szProfile.mono
   exact zM
theorem laws_szProfileS.mono : ∀ a0 a1 k, LeO (laws_szProfileS.f k a0 a1) (laws_szProfileS.f (k + 1) a0 a1) := by
 intro a0 a1 k
 have ih0 := laws_szProfileS.mono_l k
 unfold laws_szProfileS.f
 have m0 := @laws_szProfile.mono
 exact zM
theorem laws_szProfileS.calls (k : Nat) (A0 : Option Addr) (c0 : Nat) (l0 : List (S107)) (a1 : Int) (r : Int) (w : World) (hr0 : Kd.C k107 w A0 l0.length l0) (hc0 : l0.length ≤ c0) (h : laws_szProfileS.f k l0 a1 = some r) :
 Calls Tryz.prog 29 #[.slice A0 l0.length c0, .int .i64 a1] w fun e w' => e = .returned (.int .i64 r) ∧ Below w.heap.size w w' := by
 have hu107 := Tryz.underlying107
 have HR0 := zz hr0
 have HC0 := zz hc0
 clear hr0 hc0
 have HB := zz (Below.refl w.heap.size w)
 unfold laws_szProfileS.f at h
 have H := h
 clear h
 replace HB := HB.out
 have HW := zz (Below.refl w.heap.size w)
 go_enter Tryz.func29, Tryz.ntmps29
 by_cases c3 : (wrap64 (a1 - (l0.length : Int))) < 0
 ·rw [if_pos c3] at H
  have c3b0 := z1 c3
  clear c3
  obtain rfl := zi H
  go_wp2_with (fail)
  go_ret
  exact ⟨ze, zv HW.out HB⟩
 rw [if_neg c3] at H
 have c3b0 := z0 c3
 clear c3
 go_wp2_with (fail)
 go_loopg [1, 5] k (fun kq v1 v5 w' => ∃ (x1_kl4 : Int) (x5_kl4 : Int), v1 = .int .i64 x1_kl4 ∧ v5 = .int .i64 x5_kl4 ∧ Aside0 (laws_szProfileS.l0 kq l0 x1_kl4 x5_kl4 = some r) ∧ Aside0 (kq ≤ k) ∧ Aside0 (Below w.heap.size w w'))
 case atStart => exact ⟨(wrap64 (a1 - (l0.length : Int))), (0), zr, zr, ⟨H⟩, ⟨Nat.le_refl _⟩, ⟨HB⟩⟩
 case round =>
  clear H HB
  obtain ⟨x1_kl4, x5_kl4, rfl, rfl, H, HKkl4, HB⟩ := hrel
  replace HB := HB.out
  replace H := H.out
  have HLkl4 := zz (Below.refl w.heap.size w)
  cases gk with
  | zero => exact absurd H (by simp [laws_szProfileS.l0])
  | succ kl4 =>
   simp only [laws_szProfileS.l0] at H
   by_cases c5 : x5_kl4 < (l0.length : Int)
   case neg =>
    rw [if_neg c5] at H
    have c5b0 := z0 c5
    clear c5
    obtain rfl := zi H
    go_wp2_with (fail)
    go_ret
    exact ⟨ze, zv HW.out HB⟩
   rw [if_pos c5] at H
   have c5b0 := z1 c5
   clear c5
   by_cases c6 : 0 ≤ x5_kl4
   case neg => exact zno H c6
   rw [if_pos c6] at H
   have c6b0 := z1 c6
   clear c6
   have p115 : 0 ≤ (x5_kl4 : Int) := z2
   have q115 : (x5_kl4 : Int) < (l0.length : Int) := z2
   obtain ⟨ad115, A115_2, c115_2, e115, hx115_0, hx115_1, hx115_2, hl115_2, hC115_2⟩ := at_T107 HR0.out x5_kl4 p115 q115
   cases e115
   replace hx115_0 := cellB hx115_0
   replace hx115_1 := cellB hx115_1
   replace hx115_2 := cellB hx115_2
   have HR115_2 := zz hC115_2
   have HC115_2 := zz hl115_2
   clear hC115_2 hl115_2
   replace p115 := eq_true p115
   replace q115 := eq_true q115
   replace H := zf H
   obtain ⟨t116, A7, H⟩ := H
   try dsimp only at H
   replace A7 := zz A7
   by_cases c8 : t116 < 0
   ·rw [if_pos c8] at H
    have c8b0 := z1 c8
    clear c8
    go_wp2_with (fail)
    refine (laws_szProfile.calls kl4 _ _ _ _ _ _ _ _ (Kd.C_below HR115_2.out HB) HC115_2.out A7.out).mono ?_
    rintro e w10 ⟨rfl, hb⟩
    replace HB := zv HB hb
    clear hb
    obtain rfl := zi H
    go_wp2_with (fail)
    go_ret
    exact ⟨ze, zv HW.out HB⟩
   rw [if_neg c8] at H
   have c8b0 := z0 c8
   clear c8
   go_wp2_with (fail)
   refine (laws_szProfile.calls kl4 _ _ _ _ _ _ _ _ (Kd.C_below HR115_2.out HB) HC115_2.out A7.out).mono ?_
   rintro e w12 ⟨rfl, hb⟩
   replace HB := zv HB hb
   clear hb
   go_wp2_with (fail)
   go_roundg kl4
   case measure => have := HKkl4.out; omega
   case rel => exact ⟨(t116), (wrap64 (x5_kl4 + 1)), zr, zr, ⟨H⟩, ⟨by have := HKkl4.out; omega⟩, ⟨zv HLkl4.out HB⟩⟩
end Go.Proofs.YtcekmnclmldmmaaGreatDoor.Q
