import Derived.Test.YtcekmnclmldmmaaGreatDoorB07
set_option linter.unusedVariables false
set_option linter.unusedSimpArgs false
namespace Go.Proofs.YtcekmnclmldmmaaGreatDoor.Q
open Go.RowKit W1 W2 W3
attribute [local go_sem] max2_int min2_int max_two min_two max_three min_three max_four min_four
attribute [local go_sem high] bl_leq bl_gtr bl_geq
set_option maxHeartbeats 8000000
set_option maxRecDepth 100000
mutual
def spec_l10Names.l0 : Nat → ByteArray → List ByteArray → Int → Int → Option (List ByteArray × Bool)
 | 0, _, _, _, _ => none
 | k + 1, x0, x4, x5, x6 => if x6 ≤ (x0.size : Int) then (if x6 = (x0.size : Int) then (spec_l10Names.j1 k x0 x4 x5 x6 true) else (if 0 ≤ x6 then (if x6 < (x0.size : Int) then (spec_l10Names.j1 k x0 x4 x5 x6 ((bt x0 x6) == 47)) else (none)) else (none))) else (some (x4, true))
def spec_l10Names.j1 : Nat → ByteArray → List ByteArray → Int → Int → Bool → Option (List ByteArray × Bool)
 | 0, _, _, _, _, _ => none
 | k + 1, x0, x4, x5, x6, x23 => if x23 = true then (if 0 ≤ x5 then (if x5 ≤ x6 then (if x6 ≤ (x0.size : Int) then ((spec_NameOk.f k (x0.extract (x5 : Int).toNat (x6 : Int).toNat)).bind fun t145 => (if t145 = true then (if (x4.length : Int) = 8 then (some (x4, false)) else (if x4.length < 8796093022208 then (spec_l10Names.l0 k x0 (x4 ++ [x0.extract (x5 : Int).toNat (x6 : Int).toNat]) (wrap64 (x6 + 1)) (wrap64 (x6 + 1))) else (none))) else (some (x4, false)))) else (none)) else (none)) else (none)) else (spec_l10Names.l0 k x0 x4 x5 (wrap64 (x6 + 1)))
end
def spec_l10Names.f (k : Nat) (a0 : ByteArray) : Option (List ByteArray × Bool) := spec_l10Names.l0 k a0 (([] : List ByteArray)) 0 0
theorem spec_l10Names.mono_l : ∀ k, (∀ y0 y1 y2 y3, LeO (spec_l10Names.l0 k y0 y1 y2 y3) (spec_l10Names.l0 (k + 1) y0 y1 y2 y3)) ∧ (∀ y0 y1 y2 y3 y4, LeO (spec_l10Names.j1 k y0 y1 y2 y3 y4) (spec_l10Names.j1 (k + 1) y0 y1 y2 y3 y4))
 | 0 => ⟨fun _ _ _ _ r h => by simp [spec_l10Names.l0] at h, fun _ _ _ _ _ r h => by simp [spec_l10Names.j1] at h⟩
 | k + 1 => by
  obtain ⟨ih0, ih1⟩ := spec_l10Names.mono_l k
  refine ⟨?_, ?_⟩
  ·intro y0 y1 y2 y3
   unfold spec_l10Names.l0
   have m0 := @spec_NameOk.mono
   exact zM
  ·intro y0 y1 y2 y3 y4
   unfold spec_l10Names.j1
   have m0 := @spec_NameOk.mono
   exact zM
theorem spec_l10Names.mono : ∀ a0 k, LeO (spec_l10Names.f k a0) (spec_l10Names.f (k + 1) a0) := by
 intro a0 k
 obtain ⟨ih0, ih1⟩ := spec_l10Names.mono_l k
 unfold spec_l10Names.f
 have m0 := @spec_NameOk.mono
 exact zM
theorem spec_l10Names.calls (k : Nat) (a0 : ByteArray) (r1 : List ByteArray) (r2 : Bool) (w : World) (h : spec_l10Names.f k a0 = some (r1, r2)) :
 Calls Tryz.prog 142 #[.string a0] w fun e w' => ∃ v0_ : Value, e = .returned (.tuple #[v0_, .bool r2]) ∧ Kd.R Kd.string 9 w' w.heap.size (fun _ => True) v0_ r1 ∧ Below w.heap.size w w' := by
 have HB := zz (Below.refl w.heap.size w)
 unfold spec_l10Names.f at h
 have H := h
 clear h
 obtain ⟨y142, hy142⟩ : ∃ y_ : List ByteArray, y_ = (([] : List ByteArray)) := ⟨_, rfl⟩
 replace H : (spec_l10Names.l0 k a0 y142 0 0) = some (r1, r2) := by first | (rw [hy142]; with_reducible exact H) | (have H2_ := (Option.bind_some _ _).symm.trans H; rw [hy142]; with_reducible exact H2_) | (have H2_ := (Option.bind_some _ _).symm.trans H; with_reducible exact H2_) | with_reducible exact H | (rw [hy142]; exact H) | exact H
 have Ny142 := zz hy142
 clear hy142
 have H' := zz H
 clear H
 go_enter Tryz.func142, Tryz.ntmps142
 go_wp2_with (first | (refine zN 7 ?_; (try (refine z4 ?_; dsimp only)); refine Kd.R_lit Kd.string _ 9 ?hg (N := 7) ?hd (xs := ([] : List ByteArray)) (inner := []) (ok := fun _ => True) (okp := fun _ => True) ?hr ?hp (fun _ hk => hk) trivial (Below.refl _ _) (Nat.le_refl _) (by simp) ?_; (case hd => rfl); (case hg => rfl); (case hr => first | (go_simp; done) | (go_simp; rfl)); (case hp => exact (Reps.none _ _)); intro v143 w2 ho3 hb hg_ hnew_; clear hg_ hnew_; (first | rw [← Ny142.out] at ho3 | (simp only [Int.reduceToNat] at ho3; rw [← Ny142.out] at ho3)); have HO144 := zz (Kd.R_lower ho3 (below_size zb)); replace HB := zz (zv zb hb); clear hb ho3))
 go_loopg [4, 5, 6] k (fun kq v4 v5 v6 w' => ∃ (x4_1 : List ByteArray) (x5_1 : Int) (x6_1 : Int), v5 = .int .i64 x5_1 ∧ v6 = .int .i64 x6_1 ∧ Aside0 (spec_l10Names.l0 kq a0 x4_1 x5_1 x6_1 = some (r1, r2)) ∧ Aside0 (kq ≤ k) ∧ Aside0 (Kd.R Kd.string 9 w' w.heap.size (fun _ => True) v4 x4_1) ∧ Aside0 (Below w.heap.size w w'))
 case atStart => exact ⟨(y142), (0), (0), zr, zr, H', ⟨Nat.le_refl _⟩, ⟨by (with_reducible repeat (first | apply Kd.R_alloc | apply Kd.R_drewN | apply Kd.R_drew)); exact HO144.out⟩, ⟨zb⟩⟩
 case round =>
  clear H'
  try clear c1
  try clear p2
  obtain ⟨x4_1, x5_1, x6_1, rfl, rfl, HA, HK1, HO_4, HB⟩ := hrel
  cases gk with
  | zero => exact absurd HA.out (by simp [spec_l10Names.l0])
  | succ k1 =>
   have H := HA.out
   clear HA
   simp only [spec_l10Names.l0] at H
   by_cases c4 : x6_1 ≤ (a0.size : Int)
   case neg =>
    rw [if_neg c4] at H
    have c4b0 := z0 c4
    clear c4
    simp only [Option.some.injEq, Prod.mk.injEq] at H
    obtain ⟨rfl, rfl⟩ := H
    go_wp2
    go_ret2
    exact ⟨_, ze, by (with_reducible repeat (first | apply Kd.R_alloc | apply Kd.R_drewN | apply Kd.R_drew)); exact HO_4.out, zb⟩
   rw [if_pos c4] at H
   have c4b0 := z1 c4
   clear c4
   have HC5 := zz H
   clear H
   go_upto_region 6 with (fail)
   go_cut [23] (fun v23 wc => ∃ (kq : Nat) (x23_4 : Bool), v23 = .bool x23_4 ∧ Aside0 (spec_l10Names.j1 kq a0 x4_1 x5_1 x6_1 x23_4 = some (r1, r2)) ∧ Aside0 (kq ≤ k1) ∧ Aside0 (Kd.R Kd.string 9 wc w.heap.size (fun _ => True) u4 x4_1) ∧ Aside0 (Below w.heap.size w wc))
   case first =>
    have H := HC5.out
    clear HC5
    by_cases c6 : x6_1 = (a0.size : Int)
    ·rw [if_pos c6] at H
     obtain ⟨c6b0, c6b1⟩ := zq c6
     clear c6
     (first | rw [c6b0] | (simp only [i64_w, i32_w]; rw [c6b0]) | skip)
     have H' := zz H
     clear H
     go_wp2
     go_meet
     case rel => exact ⟨_, (true), zr, H', ⟨by have := HK1.out; first | omega | exact Nat.le_refl _⟩, ⟨by (with_reducible repeat (first | apply Kd.R_alloc | apply Kd.R_drewN | apply Kd.R_drew)); exact HO_4.out⟩, ⟨zb⟩⟩
    ·rw [if_neg c6] at H
     obtain ⟨c6b0, c6b1⟩ := zw c6
     (first | rw [c6b0] | (simp only [i64_w, i32_w]; rw [c6b0]) | skip)
     by_cases c7 : 0 ≤ x6_1
     ·rw [if_pos c7] at H
      have c7b0 := z1 c7
      clear c7
      by_cases c8 : x6_1 < (a0.size : Int)
      ·rw [if_pos c8] at H
       have c8b0 := z1 c8
       clear c8
       have H' := zz H
       clear H
       have p9 : 0 ≤ (x6_1 : Int) := z2
       have q9 : x6_1 < (a0.size : Int) := z2
       have hx9 := bt_at a0 x6_1
       replace p9 := eq_true p9
       replace q9 := eq_true q9
       go_wp2
       go_meet
       case rel => exact ⟨_, (((bt a0 x6_1) == 47)), zr, H', ⟨by have := HK1.out; first | omega | exact Nat.le_refl _⟩, ⟨by (with_reducible repeat (first | apply Kd.R_alloc | apply Kd.R_drewN | apply Kd.R_drew)); exact HO_4.out⟩, ⟨zb⟩⟩
      ·rw [if_neg c8] at H
       exact absurd H (by simp)
     ·rw [if_neg c7] at H
      exact absurd H (by simp)
   case rest =>
    clear HC5
    try clear c1
    try clear p2
    try clear c4
    try clear c4b0
    try clear c6
    try clear c6b0
    try clear c6b1
    try clear c7
    try clear c7b0
    try clear c8
    try clear c8b0
    try clear p9
    try clear q9
    try clear hx9
    try clear p2
    try clear p9
    try clear q9
    obtain ⟨kq, x23_4, rfl, HA, HJ4, HO_4, HB⟩ := hcut
    cases kq with
    | zero => exact absurd HA.out (by simp [spec_l10Names.j1])
    | succ kj4 =>
     have H := HA.out
     clear HA
     simp only [spec_l10Names.j1] at H
     by_cases c10 : x23_4 = true
     case neg =>
      replace c10 := Bool.eq_false_iff.mpr c10
      subst c10
      rw [if_neg (show ¬ (false = true) by decide)] at H
      have H' := zz H
      clear H
      go_wp2
      go_roundg kj4
      case measure => have := HK1.out; have := HJ4.out; omega
      case rel => exact ⟨(x4_1), (x5_1), (wrap64 (x6_1 + 1)), zr, zr, H', ⟨by have := HK1.out; have := HJ4.out; omega⟩, ⟨by (with_reducible repeat (first | apply Kd.R_alloc | apply Kd.R_drewN | apply Kd.R_drew)); exact HO_4.out⟩, ⟨zb⟩⟩
     subst c10
     rw [if_pos rfl] at H
     by_cases c11 : 0 ≤ x5_1
     case neg => exact zno H c11
     rw [if_pos c11] at H
     have c11b0 := eq_true c11
     have c11b1 := z1 c11
     clear c11
     by_cases c12 : x5_1 ≤ x6_1
     case neg => exact zno H c12
     rw [if_pos c12] at H
     have c12b0 := eq_true c12
     have c12b1 := z1 c12
     clear c12
     by_cases c13 : x6_1 ≤ (a0.size : Int)
     case neg => exact zno H c13
     rw [if_pos c13] at H
     have c13b0 := eq_true c13
     have c13b1 := z1 c13
     clear c13
     replace H := zf H
     obtain ⟨t145, A140, H⟩ := H
     try dsimp only at H
     have A14 := zz A140
     clear A140
     by_cases c15 : t145 = true
     case neg =>
      replace c15 := Bool.eq_false_iff.mpr c15
      subst c15
      rw [if_neg (show ¬ (false = true) by decide)] at H
      simp only [Option.some.injEq, Prod.mk.injEq] at H
      obtain ⟨rfl, rfl⟩ := H
      go_wp2_with (first | (refine zL 35 28 Tryz.func35 #[.string (a0.extract (x5_1 : Int).toNat (x6_1 : Int).toNat)] ?_; (with_reducible refine (spec_NameOk.calls kj4 (a0.extract (x5_1 : Int).toNat (x6_1 : Int).toNat) false _ A14.out).mono ?_); rintro e w' ⟨rfl, ⟨nd, rfl⟩⟩; refine ⟨_, rfl, ?_⟩))
      go_ret2
      exact ⟨_, ze, by (with_reducible repeat (first | apply Kd.R_alloc | apply Kd.R_drewN | apply Kd.R_drew)); exact HO_4.out, zb⟩
     subst c15
     rw [if_pos rfl] at H
     by_cases c16 : (x4_1.length : Int) = 8
     ·rw [if_pos c16] at H
      obtain ⟨c16b0, c16b1⟩ := zq c16
      clear c16
      simp only [Option.some.injEq, Prod.mk.injEq] at H
      obtain ⟨rfl, rfl⟩ := H
      go_wp2_with (first | (refine zL 35 28 Tryz.func35 #[.string (a0.extract (x5_1 : Int).toNat (x6_1 : Int).toNat)] ?_; (with_reducible refine (spec_NameOk.calls kj4 (a0.extract (x5_1 : Int).toNat (x6_1 : Int).toNat) true _ A14.out).mono ?_); rintro e w' ⟨rfl, ⟨nd, rfl⟩⟩; refine ⟨_, rfl, ?_⟩; obtain ⟨Ao17, co17, eo17⟩ := Kd.R_slice HO_4.out; subst eo17))
      go_ret2
      exact ⟨_, ze, by (with_reducible repeat (first | apply Kd.R_alloc | apply Kd.R_drewN | apply Kd.R_drew)); exact HO_4.out, zb⟩
     rw [if_neg c16] at H
     obtain ⟨c16b0, c16b1⟩ := zw c16
     have c18b0 := eq_true (z2 : 0 ≤ x5_1)
     have c19b0 := eq_true (z2 : x5_1 ≤ x6_1)
     have c20b0 := eq_true (z2 : x6_1 ≤ (a0.size : Int))
     by_cases c21 : x4_1.length < 8796093022208
     case neg => exact zno H c21
     rw [if_pos c21] at H
     have LMc21 := zz c21
     clear c21
     obtain ⟨y146, hy146⟩ : ∃ y_ : List ByteArray, y_ = (x4_1 ++ [a0.extract (x5_1 : Int).toNat (x6_1 : Int).toNat]) := ⟨_, rfl⟩
     replace H : (spec_l10Names.l0 kj4 a0 y146 (wrap64 (x6_1 + 1)) (wrap64 (x6_1 + 1))) = some (r1, r2) := by first | (rw [hy146]; with_reducible exact H) | (have H2_ := (Option.bind_some _ _).symm.trans H; rw [hy146]; with_reducible exact H2_) | (have H2_ := (Option.bind_some _ _).symm.trans H; with_reducible exact H2_) | with_reducible exact H | (rw [hy146]; exact H) | exact H
     have Ny146 := zz hy146
     clear hy146
     have H' := zz H
     clear H
     go_wp2_with (first | (refine zL 35 28 Tryz.func35 #[.string (a0.extract (x5_1 : Int).toNat (x6_1 : Int).toNat)] ?_; (with_reducible refine (spec_NameOk.calls kj4 (a0.extract (x5_1 : Int).toNat (x6_1 : Int).toNat) true _ A14.out).mono ?_); rintro e w' ⟨rfl, ⟨nd, rfl⟩⟩; refine ⟨_, rfl, ?_⟩; obtain ⟨Ao22, co22, eo22⟩ := Kd.R_slice HO_4.out; subst eo22) | ((with_reducible refine gate_builtin (b := .append) (xs := #[.tmp 36, .tmp 41]) rfl ?_); (try (refine z4 ?_; dsimp only)); at_builtin; refine Kd.R_append Kd.string (w0 := w) w.heap.size rfl (.tmp 36) (.tmp 41) 39 9 (.string ⟨#[]⟩) 16 rfl Tryz.underlying39 info9 rfl (by decide) (by omega) (.slice Ao22 x4_1.length co22) x4_1 (a0.extract (x5_1 : Int).toNat (x6_1 : Int).toNat) [.string (a0.extract (x5_1 : Int).toNat (x6_1 : Int).toNat)] (fun _ => True) (fun _ => False) rfl rfl ?aP (fun _ hk => hk.elim) ?aF ?aO ?aB ?aS ?aL ?_; (case aP => exact rfl); (case aB => exact zb); (case aF => exact (fun _ _ => trivial)); (case aO => exact (zR HO_4.out)); (case aS => exact (below_size zb)); (case aL => have := LMc21.out; omega); intro v147 w23 ho hb hg hat; rw [← Ny146.out] at ho; replace HB := zz (hb); have HO148 := zz (ho); clear HO_4; clear ho hb hg hat))
     go_roundg kj4
     case measure => have := HK1.out; have := HJ4.out; omega
     case rel => exact ⟨(y146), (wrap64 (x6_1 + 1)), (wrap64 (x6_1 + 1)), zr, zr, H', ⟨by have := HK1.out; have := HJ4.out; omega⟩, ⟨by (with_reducible repeat (first | apply Kd.R_alloc | apply Kd.R_drewN | apply Kd.R_drew)); exact HO148.out⟩, ⟨zb⟩⟩
def spec_l10EntryOk.f (k : Nat) (a0_0 : ByteArray) (a0_1 : Int) (a0_2 : ByteArray) (a0_3 : Bool) : Option (Bool) := (spec_l10Names.f k a0_0).bind fun bt150 => (if bt150.2 = true then (if (a0_2.size : Int) > 20000 then (some false) else (if a0_1 = 1 then (if a0_2.toList = ([] : List UInt8) then (some (!a0_3)) else (some false)) else (if a0_1 = 2 then (some true) else (if a0_1 = 3 then (if a0_2.toList = ([] : List UInt8) then (some false) else (some (!a0_3))) else (some false))))) else (some false))
theorem spec_l10EntryOk.mono : ∀ a0 a1 a2 a3 k, LeO (spec_l10EntryOk.f k a0 a1 a2 a3) (spec_l10EntryOk.f (k + 1) a0 a1 a2 a3) := by
 intro a0 a1 a2 a3 k
 unfold spec_l10EntryOk.f
 have m0 := @spec_l10Names.mono
 exact zM
theorem spec_l10EntryOk.calls (k : Nat) (a0_0 : ByteArray) (a0_1 : Int) (a0_2 : ByteArray) (a0_3 : Bool) (r : Bool) (w : World) (h : spec_l10EntryOk.f k a0_0 a0_1 a0_2 a0_3 = some r) :
 Calls Tryz.prog 119 #[.agg #[.string a0_0, .int .i64 a0_1, .string a0_2, .bool a0_3]] w fun e w' => e = .returned (.bool r) ∧ Below w.heap.size w w' := by
 have hu96 := Tryz.underlying96
 have HB := zz (Below.refl w.heap.size w)
 unfold spec_l10EntryOk.f at h
 have H := h
 clear h
 replace HB := HB.out
 have HW := zz (Below.refl w.heap.size w)
 go_enter Tryz.func119, Tryz.ntmps119
 replace H := zf H
 obtain ⟨⟨t150, t151⟩, A2, H⟩ := H
 try dsimp only at H
 replace A2 := zz A2
 go_wp2_with (first | (refine zN 1 ?_; (try (refine z4 ?_; dsimp only)); refine zX 1 96 #[.string a0_0, .int .i64 a0_1, .string a0_2, .bool a0_3] ?_; intro gb149 hg w5 hbox hb; have hst := zv HB hb; clear hg hb HB; replace HW := zz (zv HW.out hst); obtain ⟨hbx149_0, hbx149_1, hbx149_2, hbx149_3⟩ := zx4 hbox; have HB := Below.refl w5.heap.size w5; clear hbox hst))
 refine (spec_l10Names.calls k _ _ _ _  A2.out).mono ?_
 rintro e w6 ⟨vHO153, rfl, hHO153, hb⟩
 replace HB := zv HB hb
 clear hb
 have hst := HB
 replace HW := zz (zv HW.out hst)
 replace hbx149_0 := rebase hbx149_0 hst
 replace hbx149_1 := rebase hbx149_1 hst
 replace hbx149_2 := rebase hbx149_2 hst
 replace hbx149_3 := rebase hbx149_3 hst
 clear hst
 replace HB := Below.refl w6.heap.size w6
 obtain ⟨AHRo7, cHRo7, rfl, hl_, hC_⟩ := Kd.R_reads hHO153
 have HRo7 := zz hC_
 have HCo7 := zz hl_
 clear hl_ hC_ hHO153
 by_cases c3 : t151 = true
 case neg =>
  replace c3 := Bool.eq_false_iff.mpr c3
  subst c3
  rw [if_neg (by decide)] at H
  obtain rfl := zi H
  go_wp2_with (fail)
  go_ret
  exact ⟨ze, zv HW.out HB⟩
 subst c3
 rw [if_pos rfl] at H
 by_cases c4 : (a0_2.size : Int) > 20000
 ·rw [if_pos c4] at H
  have c4b0 := zgt c4
  have c4b1 : decide (20000 < a0_2.size) = true := z1 (by omega)
  clear c4
  obtain rfl := zi H
  go_wp2_with (fail)
  go_ret
  exact ⟨ze, zv HW.out HB⟩
 rw [if_neg c4] at H
 have c4b0 := zgtn c4
 have c4b1 : decide (20000 < a0_2.size) = false := z0 (by omega)
 clear c4
 by_cases c8 : a0_1 = 1
 case neg =>
  rw [if_neg c8] at H
  obtain ⟨c8b0, c8b1⟩ := zw c8
  by_cases c16 : a0_1 = 2
  ·rw [if_pos c16] at H
   obtain ⟨c16b0, c16b1⟩ := zq c16
   clear c16
   obtain rfl := zi H
   go_wp2_with (fail)
   go_ret
   exact ⟨ze, zv HW.out HB⟩
  rw [if_neg c16] at H
  obtain ⟨c16b0, c16b1⟩ := zw c16
  by_cases c20 : a0_1 = 3
  case neg =>
   rw [if_neg c20] at H
   obtain ⟨c20b0, c20b1⟩ := zw c20
   obtain rfl := zi H
   go_wp2_with (fail)
   go_ret
   exact ⟨ze, zv HW.out HB⟩
  rw [if_pos c20] at H
  obtain ⟨c20b0, c20b1⟩ := zq c20
  clear c20
  by_cases c21 : a0_2.toList = ([] : List UInt8)
  case neg =>
   rw [if_neg c21] at H
   obtain ⟨c21b0, c21b1⟩ := zw c21
   obtain rfl := zi H
   go_wp2_with (fail)
   go_ret
   exact ⟨ze, zv HW.out HB⟩
  rw [if_pos c21] at H
  obtain ⟨c21b0, c21b1⟩ := zq c21
  clear c21
  obtain rfl := zi H
  go_wp2_with (fail)
  go_ret
  exact ⟨ze, zv HW.out HB⟩
 rw [if_pos c8] at H
 obtain ⟨c8b0, c8b1⟩ := zq c8
 clear c8
 by_cases c9 : a0_2.toList = ([] : List UInt8)
 case neg =>
  rw [if_neg c9] at H
  obtain ⟨c9b0, c9b1⟩ := zw c9
  obtain rfl := zi H
  go_wp2_with (fail)
  go_ret
  exact ⟨ze, zv HW.out HB⟩
 rw [if_pos c9] at H
 obtain ⟨c9b0, c9b1⟩ := zq c9
 clear c9
 obtain rfl := zi H
 go_wp2_with (fail)
 go_ret
 exact ⟨ze, zv HW.out HB⟩
def spec_l10Up.l0 : Nat → ByteArray → Int → Option (ByteArray)
 | 0, _, _ => none
 | k + 1, x0, x3 => if x3 ≥ 0 then (if 0 ≤ x3 then (if x3 < (x0.size : Int) then (if (bt x0 x3) = 47 then (if x3 ≤ (x0.size : Int) then (some (x0.extract 0 (x3 : Int).toNat)) else (none)) else (spec_l10Up.l0 k x0 (wrap64 (x3 - 1)))) else (none)) else (none)) else (some (⟨#[]⟩ : ByteArray))
def spec_l10Up.f (k : Nat) (a0 : ByteArray) : Option (ByteArray) := spec_l10Up.l0 k a0 (wrap64 ((a0.size : Int) - 1))
theorem spec_l10Up.mono_l : ∀ k, (∀ y0 y1, LeO (spec_l10Up.l0 k y0 y1) (spec_l10Up.l0 (k + 1) y0 y1))
 | 0 => fun _ _ r h => by simp [spec_l10Up.l0] at h
 | k + 1 => by
  have ih0 := spec_l10Up.mono_l k
  ·intro y0 y1
   unfold spec_l10Up.l0
   exact zM
theorem spec_l10Up.mono : ∀ a0 k, LeO (spec_l10Up.f k a0) (spec_l10Up.f (k + 1) a0) := by
 intro a0 k
 have ih0 := spec_l10Up.mono_l k
 unfold spec_l10Up.f
 exact zM
theorem spec_l10Up.calls (k : Nat) (a0 : ByteArray) (r : ByteArray) (w : World) (h : spec_l10Up.f k a0 = some r) :
 Calls Tryz.prog 120 #[.string a0] w fun e w' => e = .returned (.string r) ∧ Drawn0 w w' := by
 unfold spec_l10Up.f at h
 have H := h
 clear h
 have H' := zz H
 clear H
 go_enter Tryz.func120, Tryz.ntmps120
 go_wp2
 go_loopg [3] k (fun kq v3 w' => ∃ (x3_1 : Int), v3 = .int .i64 x3_1 ∧ Aside0 (spec_l10Up.l0 kq a0 x3_1 = some r) ∧ Aside0 (kq ≤ k) ∧ Drawn0 w w')
 case atStart => exact ⟨(wrap64 ((a0.size : Int) - 1)), zr, H', ⟨Nat.le_refl _⟩, by repeat (first | exact Drawn0.refl _ | apply Drawn0.step)⟩
 case round =>
  clear H'
  try clear c1
  obtain ⟨x3_1, rfl, HA, HK1, ⟨m1, rfl⟩⟩ := hrel
  cases gk with
  | zero => exact absurd HA.out (by simp [spec_l10Up.l0])
  | succ k1 =>
   have H := HA.out
   clear HA
   simp only [spec_l10Up.l0] at H
   by_cases c2 : x3_1 ≥ 0
   case neg =>
    rw [if_neg c2] at H
    have c2b0 := zgen c2
    clear c2
    obtain rfl := zi H
    go_wp2
    go_ret
    exact ⟨zr, by repeat (first | exact Drawn0.refl _ | apply Drawn0.step)⟩
   rw [if_pos c2] at H
   have c2b0 := zge c2
   clear c2
   by_cases c3 : 0 ≤ x3_1
   case neg => exact zno H c3
   rw [if_pos c3] at H
   have c3b0 := z1 c3
   clear c3
   by_cases c4 : x3_1 < (a0.size : Int)
   case neg => exact zno H c4
   rw [if_pos c4] at H
   have c4b0 := z1 c4
   clear c4
   by_cases c6 : (bt a0 x3_1) = 47
   case neg =>
    rw [if_neg c6] at H
    obtain ⟨c6b0, c6b1⟩ := zw c6
    have H' := zz H
    clear H
    have p5 : 0 ≤ (x3_1 : Int) := z2
    have q5 : x3_1 < (a0.size : Int) := z2
    have hx5 := bt_at a0 x3_1
    replace p5 := eq_true p5
    replace q5 := eq_true q5
    go_wp2
    go_roundg k1
    case measure => have := HK1.out; omega
    case rel => exact ⟨(wrap64 (x3_1 - 1)), zr, H', ⟨by have := HK1.out; omega⟩, by repeat (first | exact Drawn0.refl _ | apply Drawn0.step)⟩
   rw [if_pos c6] at H
   obtain ⟨c6b0, c6b1⟩ := zq c6
   clear c6
   have c7b0 := eq_true (z2 : 0 ≤ x3_1)
   by_cases c8 : x3_1 ≤ (a0.size : Int)
   case neg => exact zno H c8
   rw [if_pos c8] at H
   have c8b0 := eq_true c8
   have c8b1 := z1 c8
   clear c8
   obtain rfl := zi H
   have p5 : 0 ≤ (x3_1 : Int) := z2
   have q5 : x3_1 < (a0.size : Int) := z2
   have hx5 := bt_at a0 x3_1
   replace p5 := eq_true p5
   replace q5 := eq_true q5
   go_wp2
   go_ret
   exact ⟨zr, by repeat (first | exact Drawn0.refl _ | apply Drawn0.step)⟩
def spec_l10Find.l0 : Nat → List (S96) → ByteArray → Int → Int → Option (Int)
 | 0, _, _, _, _ => none
 | k + 1, x0, x1, x5, x6 => if x5 < x6 then (if 0 ≤ (wrap64 (Int.tdiv (wrap64 (x5 + x6)) 2)) then (if (wrap64 (Int.tdiv (wrap64 (x5 + x6)) 2)) < (x0.length : Int) then (if (Op.bytesLess (((rd_T96 x0 (wrap64 (Int.tdiv (wrap64 (x5 + x6)) 2))).f0).toList) x1.toList) = true then (spec_l10Find.l0 k x0 x1 (wrap64 ((wrap64 (Int.tdiv (wrap64 (x5 + x6)) 2)) + 1)) x6) else (spec_l10Find.l0 k x0 x1 x5 (wrap64 (Int.tdiv (wrap64 (x5 + x6)) 2)))) else (none)) else (none)) else (if x5 < (x0.length : Int) then (if 0 ≤ x5 then (if ((rd_T96 x0 x5).f0).toList = x1.toList then (some x5) else (some (-1))) else (none)) else (some (-1)))
def spec_l10Find.f (k : Nat) (l0 : List (S96)) (a1 : ByteArray) : Option (Int) := spec_l10Find.l0 k l0 a1 0 (l0.length : Int)
theorem spec_l10Find.mono_l : ∀ k, (∀ y0 y1 y2 y3, LeO (spec_l10Find.l0 k y0 y1 y2 y3) (spec_l10Find.l0 (k + 1) y0 y1 y2 y3))
 | 0 => fun _ _ _ _ r h => by simp [spec_l10Find.l0] at h
 | k + 1 => by
  have ih0 := spec_l10Find.mono_l k
  ·intro y0 y1 y2 y3
   unfold spec_l10Find.l0
   exact zM
theorem spec_l10Find.mono : ∀ a0 a1 k, LeO (spec_l10Find.f k a0 a1) (spec_l10Find.f (k + 1) a0 a1) := by
 intro a0 a1 k
 have ih0 := spec_l10Find.mono_l k
 unfold spec_l10Find.f
 exact zM
theorem spec_l10Find.calls (k : Nat) (A0 : Option Addr) (c0 : Nat) (l0 : List (S96)) (a1 : ByteArray) (r : Int) (w : World) (hr0 : Kd.C k96 w A0 l0.length l0) (hc0 : l0.length ≤ c0) (h : spec_l10Find.f k l0 a1 = some r) :
 Calls Tryz.prog 103 #[.slice A0 l0.length c0, .string a1] w fun e w' => e = .returned (.int .i64 r) ∧ Drawn0 w w' := by
 have HR0 := zz hr0
 have HC0 := zz hc0
 clear hr0 hc0
 unfold spec_l10Find.f at h
 have H := h
 clear h
 have H' := zz H
 clear H
 go_enter Tryz.func103, Tryz.ntmps103
 go_wp2
 go_loopg [5, 6] k (fun kq v5 v6 w' => ∃ (x5_1 : Int) (x6_1 : Int), v5 = .int .i64 x5_1 ∧ v6 = .int .i64 x6_1 ∧ Aside0 (spec_l10Find.l0 kq l0 a1 x5_1 x6_1 = some r) ∧ Aside0 (kq ≤ k) ∧ Drawn0 w w')
 case atStart => exact ⟨(0), ((l0.length : Int)), zr, zr, H', ⟨Nat.le_refl _⟩, by repeat (first | exact Drawn0.refl _ | apply Drawn0.step)⟩
 case round =>
  clear H'
  try clear c1
  try clear p2
  obtain ⟨x5_1, x6_1, rfl, rfl, HA, HK1, ⟨m1, rfl⟩⟩ := hrel
  cases gk with
  | zero => exact absurd HA.out (by simp [spec_l10Find.l0])
  | succ k1 =>
   have H := HA.out
   clear HA
   simp only [spec_l10Find.l0] at H
   by_cases c3 : x5_1 < x6_1
   case neg =>
    rw [if_neg c3] at H
    have c3b0 := z0 c3
    clear c3
    by_cases c8 : x5_1 < (l0.length : Int)
    case neg =>
     rw [if_neg c8] at H
     have c8b0 := z0 c8
     clear c8
     obtain rfl := zi H
     go_wp2
     go_ret
     exact ⟨zr, by repeat (first | exact Drawn0.refl _ | apply Drawn0.step)⟩
    rw [if_pos c8] at H
    have c8b0 := z1 c8
    clear c8
    by_cases c9 : 0 ≤ x5_1
    case neg => exact zno H c9
    rw [if_pos c9] at H
    have c9b0 := z1 c9
    clear c9
    by_cases c10 : ((rd_T96 l0 x5_1).f0).toList = a1.toList
    case neg =>
     rw [if_neg c10] at H
     obtain ⟨c10b0, c10b1⟩ := zw c10
     obtain rfl := zi H
     have p155 : 0 ≤ (x5_1 : Int) := z2
     have q155 : x5_1 < (l0.length : Int) := z2
     obtain ⟨ad155, e155, hx155_0, hx155_1, hx155_2, hx155_3⟩ := at_T96 HR0.out x5_1 p155 q155
     cases e155
     replace p155 := eq_true p155
     replace q155 := eq_true q155
     go_wp2
     go_ret
     exact ⟨zr, by repeat (first | exact Drawn0.refl _ | apply Drawn0.step)⟩
    rw [if_pos c10] at H
    obtain ⟨c10b0, c10b1⟩ := zq c10
    clear c10
    obtain rfl := zi H
    have p155 : 0 ≤ (x5_1 : Int) := z2
    have q155 : x5_1 < (l0.length : Int) := z2
    obtain ⟨ad155, e155, hx155_0, hx155_1, hx155_2, hx155_3⟩ := at_T96 HR0.out x5_1 p155 q155
    cases e155
    replace p155 := eq_true p155
    replace q155 := eq_true q155
    go_wp2
    go_ret
    exact ⟨zr, by repeat (first | exact Drawn0.refl _ | apply Drawn0.step)⟩
   rw [if_pos c3] at H
   have c3b0 := z1 c3
   clear c3
   obtain ⟨ji4, hji4⟩ : ∃ j_ : Int, (wrap64 (Int.tdiv (wrap64 (x5_1 + x6_1)) 2)) = j_ := ⟨_, rfl⟩
   replace H : (if 0 ≤ (ji4) then (if (ji4) < (l0.length : Int) then (if (Op.bytesLess (((rd_T96 l0 (ji4)).f0).toList) a1.toList) = true then (spec_l10Find.l0 k1 l0 a1 (wrap64 ((ji4) + 1)) x6_1) else (spec_l10Find.l0 k1 l0 a1 x5_1 ji4)) else (none)) else (none)) = some r := by first | (rw [hji4] at H; exact H) | (simp only [hji4] at H ⊢; exact H)
   have hji4w : (IntKind.i64.wrap (Int.tdiv (wrap64 (x5_1 + x6_1)) 2)) = ji4 := (i64_w _).trans hji4
   by_cases c5 : 0 ≤ (ji4)
   case neg => exact zno H c5
   rw [if_pos c5] at H
   have c5b0 := z1 c5
   clear c5
   by_cases c6 : (ji4) < (l0.length : Int)
   case neg => exact zno H c6
   rw [if_pos c6] at H
   have c6b0 := z1 c6
   clear c6
   by_cases c7 : (Op.bytesLess (((rd_T96 l0 (ji4)).f0).toList) a1.toList) = true
   ·rw [if_pos c7] at H
    have c7b0 : (Op.bytesLess (((rd_T96 l0 (ji4)).f0).toList) a1.toList) = true := c7
    clear c7
    have H' := zz H
    clear H
    have p154 : 0 ≤ ((ji4) : Int) := z2
    have q154 : (ji4) < (l0.length : Int) := z2
    obtain ⟨ad154, e154, hx154_0, hx154_1, hx154_2, hx154_3⟩ := at_T96 HR0.out (ji4) p154 q154
    cases e154
    replace p154 := eq_true p154
    replace q154 := eq_true q154
    go_wp2
    go_roundg k1
    case measure => have := HK1.out; omega
    case rel => exact ⟨(wrap64 ((ji4) + 1)), (x6_1), (by first | rfl | (simp; done) | (simp only [← hji4] <;> (first | rfl | simp)) | (simp [*]; done)), zr, H', ⟨by have := HK1.out; omega⟩, by repeat (first | exact Drawn0.refl _ | apply Drawn0.step)⟩
   rw [if_neg c7] at H
   have c7b0 : (Op.bytesLess (((rd_T96 l0 (ji4)).f0).toList) a1.toList) = false := by simpa using c7
   clear c7
   have H' := zz H
   clear H
   have p154 : 0 ≤ ((ji4) : Int) := z2
   have q154 : (ji4) < (l0.length : Int) := z2
   obtain ⟨ad154, e154, hx154_0, hx154_1, hx154_2, hx154_3⟩ := at_T96 HR0.out (ji4) p154 q154
   cases e154
   replace p154 := eq_true p154
   replace q154 := eq_true q154
   go_wp2
   go_roundg k1
   case measure => have := HK1.out; omega
   case rel => exact ⟨(x5_1), (ji4), zr, (by first | rfl | (simp; done) | (simp only [← hji4] <;> (first | rfl | simp)) | (simp [*]; done)), H', ⟨by have := HK1.out; omega⟩, by repeat (first | exact Drawn0.refl _ | apply Drawn0.step)⟩
def spec_l10Dir.f (k : Nat) (l0 : List (S96)) (a1 : ByteArray) : Option (Bool) := (spec_l10Find.f k l0 a1).bind fun t156 => (if t156 ≥ 0 then (if 0 ≤ t156 then (if t156 < (l0.length : Int) then (some (((rd_T96 l0 t156).f1) == 1)) else (none)) else (none)) else (some false))
theorem spec_l10Dir.mono : ∀ a0 a1 k, LeO (spec_l10Dir.f k a0 a1) (spec_l10Dir.f (k + 1) a0 a1) := by
 intro a0 a1 k
 unfold spec_l10Dir.f
 have m0 := @spec_l10Find.mono
 exact zM
theorem spec_l10Dir.calls (k : Nat) (A0 : Option Addr) (c0 : Nat) (l0 : List (S96)) (a1 : ByteArray) (r : Bool) (w : World) (hr0 : Kd.C k96 w A0 l0.length l0) (hc0 : l0.length ≤ c0) (h : spec_l10Dir.f k l0 a1 = some r) :
 Calls Tryz.prog 121 #[.slice A0 l0.length c0, .string a1] w fun e w' => e = .returned (.bool r) ∧ Drawn0 w w' := by
 have HR0 := zz hr0
 have HC0 := zz hc0
 clear hr0 hc0
 unfold spec_l10Dir.f at h
 have H := h
 clear h
 replace H := zf H
 obtain ⟨t156, A30, H⟩ := H
 try dsimp only at H
 have A3 := zz A30
 clear A30
 by_cases c4 : t156 ≥ 0
 case neg =>
  rw [if_neg c4] at H
  have c4b0 := zgen c4
  clear c4
  obtain rfl := zi H
  go_enter Tryz.func121, Tryz.ntmps121
  go_wp2_with (first | (refine zL 103 8 Tryz.func103 #[.slice A0 l0.length c0, .string a1] ?_; (with_reducible refine (spec_l10Find.calls k _ _ l0 a1 t156 _ ?s1 ?s2 A3.out).mono ?_); (case s1 => exact zd HR0.out); (case s2 => exact HC0.out); rintro e w' ⟨rfl, ⟨nd, rfl⟩⟩; refine ⟨_, rfl, ?_⟩))
  go_ret
  exact ⟨zr, by repeat (first | exact Drawn0.refl _ | apply Drawn0.step)⟩
 rw [if_pos c4] at H
 have c4b0 := zge c4
 clear c4
 by_cases c5 : 0 ≤ t156
 case neg => exact zno H c5
 rw [if_pos c5] at H
 have c5b0 := z1 c5
 clear c5
 by_cases c6 : t156 < (l0.length : Int)
 case neg => exact zno H c6
 rw [if_pos c6] at H
 have c6b0 := z1 c6
 clear c6
 obtain rfl := zi H
 go_enter Tryz.func121, Tryz.ntmps121
 go_wp2_with (first | (refine zL 103 8 Tryz.func103 #[.slice A0 l0.length c0, .string a1] ?_; (with_reducible refine (spec_l10Find.calls k _ _ l0 a1 t156 _ ?s1 ?s2 A3.out).mono ?_); (case s1 => exact zd HR0.out); (case s2 => exact HC0.out); rintro e w' ⟨rfl, ⟨nd, rfl⟩⟩; refine ⟨_, rfl, ?_⟩; have p157 : 0 ≤ (t156 : Int) := z2; have q157 : t156 < (l0.length : Int) := z2; obtain ⟨ad157, e157, hx157_0, hx157_1, hx157_2, hx157_3⟩ := at_T96 HR0.out t156 p157 q157; cases e157; replace p157 := eq_true p157; replace q157 := eq_true q157))
 go_ret
 exact ⟨zr, by repeat (first | exact Drawn0.refl _ | apply Drawn0.step)⟩
end Go.Proofs.YtcekmnclmldmmaaGreatDoor.Q
