import Derived.Test.YtcekmnclmldmmaaGreatDoorB04
set_option linter.unusedVariables false
set_option linter.unusedSimpArgs false
namespace Go.Proofs.YtcekmnclmldmmaaGreatDoor.Q
open Go.RowKit W1 W2 W3
attribute [local go_sem] max2_int min2_int max_two min_two max_three min_three max_four min_four
attribute [local go_sem high] bl_leq bl_gtr bl_geq
set_option maxHeartbeats 8000000
set_option maxRecDepth 100000
def spec_l3Add.l0 : Nat → List ByteArray → ByteArray → Int → Option (List ByteArray)
 | 0, _, _, _ => none
 | k + 1, x0, x1, x5 => if x5 < (x0.length : Int) then (if 0 ≤ x5 then (if (Op.bytesLess ((rdOf ByteArray.empty x0 x5).toList) x1.toList) = true then (spec_l3Add.l0 k x0 x1 (wrap64 (x5 + 1))) else (if (rdOf ByteArray.empty x0 x5).toList = x1.toList then (some x0) else ((some (([] : List ByteArray) : List ByteArray)).bind fun y226 => (if x5 ≤ (x0.length : Int) then ((some (x0.take (x5 : Int).toNat : List ByteArray)).bind fun y229 => (if y226.length + y229.length < 8796093022208 then ((some (y226 ++ y229 : List ByteArray)).bind fun y233 => (if y233.length < 8796093022208 then ((some (y233 ++ [x1] : List ByteArray)).bind fun y236 => ((some (x0.drop (x5 : Int).toNat : List ByteArray)).bind fun y239 => (if y236.length + y239.length < 8796093022208 then (some (y236 ++ y239)) else (none)))) else (none))) else (none))) else (none))))) else (none)) else ((some (([] : List ByteArray) : List ByteArray)).bind fun y246 => (if 0 ≤ x5 then (if x5 ≤ (x0.length : Int) then ((some (x0.take (x5 : Int).toNat : List ByteArray)).bind fun y249 => (if y246.length + y249.length < 8796093022208 then ((some (y246 ++ y249 : List ByteArray)).bind fun y253 => (if y253.length < 8796093022208 then ((some (y253 ++ [x1] : List ByteArray)).bind fun y256 => ((some (x0.drop (x5 : Int).toNat : List ByteArray)).bind fun y259 => (if y256.length + y259.length < 8796093022208 then (some (y256 ++ y259)) else (none)))) else (none))) else (none))) else (none)) else (none)))
def spec_l3Add.f (k : Nat) (l0 : List ByteArray) (a1 : ByteArray) : Option (List ByteArray) := spec_l3Add.l0 k l0 a1 0
theorem spec_l3Add.mono_l : ∀ k, (∀ y0 y1 y2, LeO (spec_l3Add.l0 k y0 y1 y2) (spec_l3Add.l0 (k + 1) y0 y1 y2))
 | 0 => fun _ _ _ r h => by simp [spec_l3Add.l0] at h
 | k + 1 => by
  have ih0 := spec_l3Add.mono_l k
  ·intro y0 y1 y2
   unfold spec_l3Add.l0
   exact zM
theorem spec_l3Add.mono : ∀ a0 a1 k, LeO (spec_l3Add.f k a0 a1) (spec_l3Add.f (k + 1) a0 a1) := by
 intro a0 a1 k
 have ih0 := spec_l3Add.mono_l k
 unfold spec_l3Add.f
 exact zM
def spec_l3Add.T7 : Bool × List (List Nat × List Nat) := (true, [([], []), ([], []), ([1], [1]), ([0, 2], [0, 2]), ([], []), ([], []), ([4, 5], [4, 5]), ([3, 6, 3], [3, 6]), ([7, 7, 0, 1, 2, 3, 4, 5, 6, 7], [7])])
def spec_l3Add.B7 : List Nat := [0, 0, 2, 7, 0, 0, 48, 127, 255]
theorem spec_l3Add.tab7 : rtab .any (opsOf Tryz.f101 7) = spec_l3Add.T7 := by kernel_rfl
theorem spec_l3Add.bits7 : waitsOk spec_l3Add.T7.2 spec_l3Add.B7 = true := by kernel_rfl
theorem spec_l3Add.calls (k : Nat) (P0_ : Nat → Prop) (u9000_ : Value) (l0 : List ByteArray) (a1 : ByteArray) (r : List ByteArray) (w0 w : World) (hB : Below w0.heap.size w0 w) (ho0 : Kd.R Kd.string 9 w w0.heap.size P0_ u9000_ l0) (h : spec_l3Add.f k l0 a1 = some r) :
 Calls Tryz.prog 101 #[u9000_, .string a1] w fun e w' => ∃ v0_ : Value, e = .returned (v0_) ∧ Kd.R Kd.string 9 w' w0.heap.size (fun k_ => (P0_ k_ ∨ w.heap.size ≤ k_)) v0_ r ∧ Below w0.heap.size w0 w' ∧ Kept w w' (fun k_ => P0_ k_) := by
 have HO0 := zz (show Kd.R Kd.string 9 w w0.heap.size (fun k_ => (P0_ k_ ∨ w.heap.size ≤ k_)) u9000_ l0 from Kd.R_mono ho0 (fun k_ hk => (.inl hk)))
 have HK := zz (Kept.refl w (fun k_ => P0_ k_))
 have HW0 := zz hB.size
 have HB := zz hB
 clear hB
 unfold spec_l3Add.f at h
 have H := h
 clear h
 have H' := zz H
 clear H
 go_enter Tryz.func101, Tryz.ntmps101
 go_wp2
 go_loopg [5] k (fun kq v5 w' => ∃ (x5_1 : Int), v5 = .int .i64 x5_1 ∧ Aside0 (spec_l3Add.l0 kq l0 a1 x5_1 = some r) ∧ Aside0 (kq ≤ k) ∧ Aside0 (Kd.R Kd.string 9 w' w0.heap.size (fun k_ => (P0_ k_ ∨ w.heap.size ≤ k_)) u9000_ l0) ∧ Aside0 (Kept w w' (fun k_ => P0_ k_)) ∧ Aside0 (Below w0.heap.size w0 w'))
 case atStart => exact ⟨(0), zr, H', ⟨Nat.le_refl _⟩, ⟨by (with_reducible repeat (first | apply Kd.R_alloc | apply Kd.R_drewN | apply Kd.R_drew)); exact HO0.out⟩, ⟨by repeat (first | (with_reducible first | exact HK.out | apply Kept.alloc | apply Kept.drewN | apply Kept.drew) | exact HK.out)⟩, ⟨zb⟩⟩
 case round =>
  clear H'
  try clear c1
  try clear p2
  obtain ⟨x5_1, rfl, HA, HK1, HO_0, HK, HB⟩ := hrel
  cases gk with
  | zero => exact absurd HA.out (by simp [spec_l3Add.l0])
  | succ k1 =>
   have H := HA.out
   clear HA
   simp only [spec_l3Add.l0] at H
   by_cases c3 : x5_1 < (l0.length : Int)
   ·rw [if_pos c3] at H
    have c3b0 := z1 c3
    clear c3
    by_cases c4 : 0 ≤ x5_1
    case neg => exact zno H c4
    rw [if_pos c4] at H
    have c4b0 := z1 c4
    clear c4
    by_cases c5 : (Op.bytesLess ((rdOf ByteArray.empty l0 x5_1).toList) a1.toList) = true
    ·rw [if_pos c5] at H
     have c5b0 : (Op.bytesLess ((rdOf ByteArray.empty l0 x5_1).toList) a1.toList) = true := c5
     clear c5
     have H' := zz H
     clear H
     obtain ⟨Ao6, co6, eo6⟩ := Kd.R_slice HO_0.out
     subst eo6
     have p224 : 0 ≤ (x5_1 : Int) := z2
     have q224 : x5_1 < (l0.length : Int) := z2
     obtain ⟨ad224, e224, hx224_0⟩ := Kd.at_string (Kd.R_reads' HO_0.out).2.2 x5_1 p224 q224
     cases e224
     replace p224 := eq_true p224
     replace q224 := eq_true q224
     go_wp2
     go_roundg k1
     case measure => have := HK1.out; omega
     case rel => exact ⟨(wrap64 (x5_1 + 1)), zr, H', ⟨by have := HK1.out; omega⟩, ⟨by (with_reducible repeat (first | apply Kd.R_alloc | apply Kd.R_drewN | apply Kd.R_drew)); exact HO_0.out⟩, ⟨by repeat (first | (with_reducible first | exact HK.out | apply Kept.alloc | apply Kept.drewN | apply Kept.drew) | exact HK.out)⟩, ⟨zb⟩⟩
    rw [if_neg c5] at H
    have c5b0 : (Op.bytesLess ((rdOf ByteArray.empty l0 x5_1).toList) a1.toList) = false := by simpa using c5
    clear c5
    by_cases c7 : (rdOf ByteArray.empty l0 x5_1).toList = a1.toList
    ·rw [if_pos c7] at H
     obtain ⟨c7b0, c7b1⟩ := zq c7
     clear c7
     obtain rfl := zi H
     obtain ⟨Ao8, co8, eo8⟩ := Kd.R_slice HO_0.out
     subst eo8
     have p224 : 0 ≤ (x5_1 : Int) := z2
     have q224 : x5_1 < (l0.length : Int) := z2
     obtain ⟨ad224, e224, hx224_0⟩ := Kd.at_string (Kd.R_reads' HO_0.out).2.2 x5_1 p224 q224
     cases e224
     replace p224 := eq_true p224
     replace q224 := eq_true q224
     have p225 : 0 ≤ (x5_1 : Int) := z2
     have q225 : x5_1 < (l0.length : Int) := z2
     obtain ⟨ad225, e225, hx225_0⟩ := Kd.at_string (Kd.R_reads' HO_0.out).2.2 x5_1 p225 q225
     obtain rfl : ad224 = ad225 := (by injection e225)
     replace p225 := eq_true p225
     replace q225 := eq_true q225
     go_wp2
     go_ret
     exact ⟨_, ze, by (with_reducible repeat (first | apply Kd.R_alloc | apply Kd.R_drewN | apply Kd.R_drew)); exact HO_0.out, zb, by repeat (first | (with_reducible first | exact HK.out | apply Kept.alloc | apply Kept.drewN | apply Kept.drew) | exact HK.out)⟩
    rw [if_neg c7] at H
    obtain ⟨c7b0, c7b1⟩ := zw c7
    obtain ⟨y226, hy226⟩ : ∃ y_ : List ByteArray, y_ = (([] : List ByteArray)) := ⟨_, rfl⟩
    replace H : (if x5_1 ≤ (l0.length : Int) then ((some (l0.take (x5_1 : Int).toNat : List ByteArray)).bind fun y229 => (if y226.length + y229.length < 8796093022208 then ((some (y226 ++ y229 : List ByteArray)).bind fun y233 => (if y233.length < 8796093022208 then ((some (y233 ++ [a1] : List ByteArray)).bind fun y236 => ((some (l0.drop (x5_1 : Int).toNat : List ByteArray)).bind fun y239 => (if y236.length + y239.length < 8796093022208 then (some (y236 ++ y239)) else (none)))) else (none))) else (none))) else (none)) = some r := by first | (rw [hy226]; with_reducible exact H) | (have H2_ := (Option.bind_some _ _).symm.trans H; rw [hy226]; with_reducible exact H2_) | (have H2_ := (Option.bind_some _ _).symm.trans H; with_reducible exact H2_) | with_reducible exact H | (rw [hy226]; exact H) | exact H
    have Ny226 := zz hy226
    clear hy226
    have c9b0 := eq_true (z2 : 0 ≤ x5_1)
    by_cases c10 : x5_1 ≤ (l0.length : Int)
    case neg => exact zno H c10
    rw [if_pos c10] at H
    have c10b0 := eq_true c10
    have c10b1 := z1 c10
    clear c10
    obtain ⟨y229, hy229⟩ : ∃ y_ : List ByteArray, y_ = (l0.take (x5_1 : Int).toNat) := ⟨_, rfl⟩
    replace H : (if y226.length + y229.length < 8796093022208 then ((some (y226 ++ y229 : List ByteArray)).bind fun y233 => (if y233.length < 8796093022208 then ((some (y233 ++ [a1] : List ByteArray)).bind fun y236 => ((some (l0.drop (x5_1 : Int).toNat : List ByteArray)).bind fun y239 => (if y236.length + y239.length < 8796093022208 then (some (y236 ++ y239)) else (none)))) else (none))) else (none)) = some r := by first | (rw [hy229]; with_reducible exact H) | (have H2_ := (Option.bind_some _ _).symm.trans H; rw [hy229]; with_reducible exact H2_) | (have H2_ := (Option.bind_some _ _).symm.trans H; with_reducible exact H2_) | with_reducible exact H | (rw [hy229]; exact H) | exact H
    have Ny229 := zz hy229
    clear hy229
    by_cases c11 : y226.length + y229.length < 8796093022208
    case neg => exact zno H c11
    rw [if_pos c11] at H
    have LMc11 := zz c11
    clear c11
    obtain ⟨y233, hy233⟩ : ∃ y_ : List ByteArray, y_ = (y226 ++ y229) := ⟨_, rfl⟩
    replace H : (if y233.length < 8796093022208 then ((some (y233 ++ [a1] : List ByteArray)).bind fun y236 => ((some (l0.drop (x5_1 : Int).toNat : List ByteArray)).bind fun y239 => (if y236.length + y239.length < 8796093022208 then (some (y236 ++ y239)) else (none)))) else (none)) = some r := by first | (rw [hy233]; with_reducible exact H) | (have H2_ := (Option.bind_some _ _).symm.trans H; rw [hy233]; with_reducible exact H2_) | (have H2_ := (Option.bind_some _ _).symm.trans H; with_reducible exact H2_) | with_reducible exact H | (rw [hy233]; exact H) | exact H
    have Ny233 := zz hy233
    clear hy233
    by_cases c12 : y233.length < 8796093022208
    case neg => exact zno H c12
    rw [if_pos c12] at H
    have LMc12 := zz c12
    clear c12
    obtain ⟨y236, hy236⟩ : ∃ y_ : List ByteArray, y_ = (y233 ++ [a1]) := ⟨_, rfl⟩
    replace H : ((some (l0.drop (x5_1 : Int).toNat : List ByteArray)).bind fun y239 => (if y236.length + y239.length < 8796093022208 then (some (y236 ++ y239)) else (none))) = some r := by first | (rw [hy236]; with_reducible exact H) | (have H2_ := (Option.bind_some _ _).symm.trans H; rw [hy236]; with_reducible exact H2_) | (have H2_ := (Option.bind_some _ _).symm.trans H; with_reducible exact H2_) | with_reducible exact H | (rw [hy236]; exact H) | exact H
    have Ny236 := zz hy236
    clear hy236
    have c13b0 := eq_true (z2 : 0 ≤ x5_1)
    have c14b0 := eq_true (z2 : x5_1 ≤ (l0.length : Int))
    obtain ⟨y239, hy239⟩ : ∃ y_ : List ByteArray, y_ = (l0.drop (x5_1 : Int).toNat) := ⟨_, rfl⟩
    replace H : (if y236.length + y239.length < 8796093022208 then (some (y236 ++ y239)) else (none)) = some r := by first | (rw [hy239]; with_reducible exact H) | (have H2_ := (Option.bind_some _ _).symm.trans H; rw [hy239]; with_reducible exact H2_) | (have H2_ := (Option.bind_some _ _).symm.trans H; with_reducible exact H2_) | with_reducible exact H | (rw [hy239]; exact H) | exact H
    have Ny239 := zz hy239
    clear hy239
    by_cases c15 : y236.length + y239.length < 8796093022208
    case neg => exact zno H c15
    rw [if_pos c15] at H
    have LMc15 := zz c15
    clear c15
    obtain ⟨y243, hy243⟩ : ∃ y_ : List ByteArray, y_ = (y236 ++ y239) := ⟨_, rfl⟩
    replace H : (some y243) = some r := by first | (rw [hy243]; with_reducible exact H) | (have H2_ := (Option.bind_some _ _).symm.trans H; rw [hy243]; with_reducible exact H2_) | (have H2_ := (Option.bind_some _ _).symm.trans H; with_reducible exact H2_) | with_reducible exact H | (rw [hy243]; exact H) | exact H
    have Ny243 := zz hy243
    clear hy243
    obtain rfl := zi H
    obtain ⟨Ao16, co16, eo16⟩ := Kd.R_slice HO_0.out
    subst eo16
    have p224 : 0 ≤ (x5_1 : Int) := z2
    have q224 : x5_1 < (l0.length : Int) := z2
    obtain ⟨ad224, e224, hx224_0⟩ := Kd.at_string (Kd.R_reads' HO_0.out).2.2 x5_1 p224 q224
    cases e224
    replace p224 := eq_true p224
    replace q224 := eq_true q224
    have p225 : 0 ≤ (x5_1 : Int) := z2
    have q225 : x5_1 < (l0.length : Int) := z2
    obtain ⟨ad225, e225, hx225_0⟩ := Kd.at_string (Kd.R_reads' HO_0.out).2.2 x5_1 p225 q225
    obtain rfl : ad224 = ad225 := (by injection e225)
    replace p225 := eq_true p225
    replace q225 := eq_true q225
    try go_wp2_with (first | (refine zN 34 ?_; refine Kd.R_lit Kd.string _ 9 ?hg (N := 34) ?hd (xs := ([] : List ByteArray)) (inner := []) (ok := fun _ => True) (okp := fun _ => True) ?hr ?hp (fun _ hk => hk) trivial (Below.refl _ _) (Nat.le_refl _) (by simp) ?_; (case hd => rfl); (case hg => rfl); (case hr => first | (go_simp; done) | (go_simp; rfl)); (case hp => exact (Reps.none _ _)); intro v227 w17 ho18 hb hg_ hnew_; clear hg_ hnew_; (first | rw [← Ny226.out] at ho18 | (simp only [Int.reduceToNat] at ho18; rw [← Ny226.out] at ho18)); have HO228 := zz (Kd.R_lower (Kd.R_new' (Kd.R_newM (M := fun k_ => (P0_ k_ ∨ w.heap.size ≤ k_)) ho18 (by first | exact HK.out.1 | exact (show Kept w _ (fun k_ => P0_ k_) from by repeat (first | (with_reducible first | exact HK.out | apply Kept.alloc | apply Kept.drewN | apply Kept.drew) | exact HK.out)).1) (fun k_ h_ => .inr h_)) (Kd.R_lt (zR HO_0.out))) (below_size zb)); replace HO_0 := zz (Kd.R_elder' (zR HO_0.out) (Kd.R_base ho18) hb); replace HK := zz (Kept.below (S := (fun k_ => P0_ k_)) (by repeat (first | (with_reducible first | exact HK.out | apply Kept.alloc | apply Kept.drewN | apply Kept.drew) | exact HK.out)) hb); replace HB := zz (zv zb hb); clear hb ho18; have q19 : (x5_1 : Int) ≤ ((l0.length : Int) : Int) := z2; obtain ⟨i019, hi019, _, hsz19, _⟩ := info_parts info9; have hroom19 : l0.length ≤ co16 := (Kd.R_reads' HO_0.out).2.1; have hC19 : Kd.C Kd.string _ (some ad224) l0.length l0 := (Kd.R_reads' HO_0.out).2.2; have hcut19 := cut_to (P := Tryz.prog) 39 9 .i64 Tryz.underlying39 hi019 (some ad224) l0.length co16 x5_1 (z2) q19 hroom19; have hr19 := Kd.C_take (m := (x5_1 : Int).toNat) hC19 (by omega); have hy19 : y229.length = (x5_1 : Int).toNat := (by rw [Ny229.out, List.length_take]; omega); rw [← Ny229.out] at hr19; rw [← hy19] at hcut19; have HR232 := zz hr19; have HC232 := zz (show y229.length ≤ co16 from by omega); clear hr19 hC19 hroom19 hi019 hsz19; have KY19 := zz hy19; clear hy19; have KL19 := zz (show (x5_1 : Int).toNat ≤ l0.length from by omega); replace q19 := eq_true q19) | ((with_reducible refine gate_builtin (b := .append) (xs := #[.tmp 34, .tmp 37]) rfl ?_); at_builtin; refine Kd.R_append_rows Kd.string (w0 := w0) w0.heap.size rfl (.tmp 34) (.tmp 37) 39 9 (.string ⟨#[]⟩) 16 rfl Tryz.underlying39 info9 rfl (by decide) (by omega) v227 y226 y229 _ _ _ (fun k_ => (P0_ k_ ∨ w.heap.size ≤ k_) ∧ some k_ ≠ (.slice (some ad224) l0.length co16 : Value).ownBlock) (fun _ => False) rfl rfl ?aO ?aR (fun _ _ h => h) (fun _ h => h.elim) ?aF ?aB ?aS ?aL ?_; (case aR => repeat (first | exact (by repeat (first | (with_reducible exact HR232.out) | (with_reducible refine Kd.C_alloc ?_ _) | (with_reducible refine Kd.C_drewN ?_ _) | (with_reducible refine Kd.C_drew ?_) | exact HR232.out)) | (with_reducible refine Kd.C_alloc ?_ _) | (with_reducible refine Kd.C_drewN ?_ _) | (with_reducible refine Kd.C_drew ?_))); (case aB => exact zb); (case aF => exact (fun k_ hk => ⟨(.inr (Nat.le_trans (by first | exact HK.out.1 | exact (show Kept w _ (fun k_ => P0_ k_) from by repeat (first | (with_reducible first | exact HK.out | apply Kept.alloc | apply Kept.drewN | apply Kept.drew) | exact HK.out)).1) hk)), Kd.fresh' (Kd.R_lt (zR HO_0.out)) k_ hk⟩)); (case aO => exact (by (with_reducible repeat (first | apply Kd.R_alloc | apply Kd.R_drewN | apply Kd.R_drew)); exact Kd.R_mono HO228.out (fun _ hk => ⟨hk.1.1, hk.2⟩))); (case aS => exact (below_size zb)); (case aL => have := LMc11.out; omega); intro v234 w20 ho hb hg hat; rw [← Ny233.out] at ho; replace HB := zz (hb); replace HK := zz (Kept.of_grown (S := (fun k_ => P0_ k_)) hg (by repeat (first | (with_reducible first | exact HK.out | apply Kept.alloc | apply Kept.drewN | apply Kept.drew) | exact HK.out)) (fun k_ e_ => (HO228.out.1 k_ e_).1.1)); replace HR232 := zz ((show Kd.C Kd.string w20 (some ad224) y229.length y229 from by rw [Ny229.out]; exact Kd.C_take (m := (x5_1 : Int).toNat) ((Kd.R_reads' (Kd.R_after (ok := (fun k_ => (P0_ k_ ∨ w.heap.size ≤ k_))) (zR HO_0.out) hg hat)).2.2) KL19.out)); replace HO_0 := zz (Kd.R_after (ok := (fun k_ => (P0_ k_ ∨ w.heap.size ≤ k_))) (zR HO_0.out) hg hat); have HO235 := zz (ho); clear HO228; clear ho hb hg hat))
    replace HO_0 := zz (Kd.R_drew HO_0.out)
    replace HO235 := zz (Kd.R_drew HO235.out)
    replace HR232 := zz (Kd.C_drew HR232.out)
    replace HK := zz (Kept.drew HK.out)
    replace HB := zz (below_drew1 HB.out)
    have q22 : (x5_1 : Int) ≤ ((l0.length : Int) : Int) := z2
    obtain ⟨i022, hi022, _, hsz22, _⟩ := info_parts info9
    have hroom22 : l0.length ≤ co16 := (Kd.R_reads' HO_0.out).2.1
    have hC22 : Kd.C Kd.string _ (some ad224) l0.length l0 := (Kd.R_reads' HO_0.out).2.2
    have q022 : (0 : Int) ≤ (x5_1 : Int) := z2
    have hcut22 := cut_from (P := Tryz.prog) 39 9 .i64 Tryz.underlying39 hi022 1 hsz22 (some ad224) l0.length co16 x5_1 q022 q22
    have hr22 := Kd.C_drop (m := (x5_1 : Int).toNat) (c := co16) hC22 (by omega) hroom22
    obtain ⟨A22, hA22⟩ : ∃ A1, A1 = (if co16 = (x5_1 : Int).toNat then (some ad224) else ((some ad224) : Option Addr).map (·.add ((x5_1 : Int).toNat * 1))) := ⟨_, rfl⟩
    obtain ⟨c22, hc22⟩ : ∃ c1, c1 = co16 - (x5_1 : Int).toNat := ⟨_, rfl⟩
    have hy22 : y239.length = l0.length - (x5_1 : Int).toNat := (by rw [Ny239.out, List.length_drop] <;> omega)
    rw [show (l0).drop (x5_1 : Int).toNat = y239 from Ny239.out.symm] at hr22
    replace hr22 : Kd.C Kd.string _ A22 y239.length y239 := (by rw [hA22]; exact hr22)
    rw [← hy22, ← hA22, ← hc22] at hcut22
    have HR242 := zz hr22
    have HC242 := zz (show y239.length ≤ c22 from by rw [hy22, hc22]; exact Nat.sub_le_sub_right hroom22 _)
    clear hr22 hC22 hroom22 hi022 hsz22 hc22
    have KY22 := zz hy22
    have KA22 := zz hA22
    clear hy22 hA22
    have KL22 := zz (show (x5_1 : Int).toNat ≤ l0.length from by omega)
    replace q22 := eq_true q22
    refine start_ (n := 9) (S := fun w' => True) (ds := []) (bp 0 9) zk rfl rfl trivial (fun hHeld => ?_); refine with_tabW spec_l3Add.tab7 spec_l3Add.bits7 (fun HT_ HW_ => ?_)
    generalize w20.drew = w21 at HO_0 HO235 HR232 HK HB HR242 hHeld ⊢
    refine zp 0 39 (bp 1 8) ?_
    refine zp 1 40 (bp 2 7) ?_
    refine zp 4 43 (bm 9 19) ?_
    refine zp 5 44 (bm 9 51) ?_
    refine zp 6 45 (bm 9 115) ?_
    refine zo 2 41 (bm 9 119) fun K hK => ?_
    refine value_ (w1 := ?_) (v := ?_) (by rfl) rfl ?_ ?_
    rotate_left 2
    ·go_simp
     constructor
     ·rfl
     ·rfl
    refine hK.out _ _ trivial (fun hHeld => ?_)
    clear hK K
    refine zn 41 ?_
    refine zo 3 42 (bp 7 2) fun K hK => ?_
    refine Kd.R_append_step Kd.string (w0 := w0) w0.heap.size (by rfl) (.tmp 39) (.tmp 41) 39 9 (.string ⟨#[]⟩) 16 rfl Tryz.underlying39 info9 rfl (by decide) (by omega) v234 y233 a1 [.string a1] (fun k_ => (P0_ k_ ∨ w.heap.size ≤ k_) ∧ some k_ ≠ (.slice (some ad224) l0.length co16 : Value).ownBlock) (fun _ => False) rfl rfl ?aP (fun _ hk => hk.elim) ?aF ?aO ?aB ?aS ?aL ?_
    (case aP => exact rfl)
    (case aB => exact zb)
    (case aF => exact (fun k_ hk => ⟨(.inr (Nat.le_trans (by first | exact HK.out.1 | exact (show Kept w _ (fun k_ => P0_ k_) from by repeat (first | (with_reducible first | exact HK.out | apply Kept.alloc | apply Kept.drewN | apply Kept.drew) | exact HK.out)).1) hk)), Kd.fresh' (Kd.R_lt (zR HO_0.out)) k_ hk⟩))
    (case aO => exact (zR HO235.out))
    (case aS => exact (below_size zb))
    (case aL => have := LMc12.out; omega)
    intro v237 w23 ho hb hg hat
    rw [← Ny236.out] at ho
    replace HB := zz (hb)
    replace HK := zz (Kept.of_grown (S := (fun k_ => P0_ k_)) hg (by repeat (first | (with_reducible first | exact HK.out | apply Kept.alloc | apply Kept.drewN | apply Kept.drew) | exact HK.out)) (fun k_ e_ => (HO235.out.1 k_ e_).1))
    replace HR232 := zz ((show Kd.C Kd.string w23 (some ad224) y229.length y229 from by rw [Ny229.out]; exact Kd.C_take (m := (x5_1 : Int).toNat) ((Kd.R_reads' (Kd.R_after (ok := (fun k_ => (P0_ k_ ∨ w.heap.size ≤ k_))) (zR HO_0.out) hg hat)).2.2) KL19.out))
    replace HR242 := zz ((show Kd.C Kd.string w23 A22 y239.length y239 from by rw [Ny239.out, KA22.out]; exact Kd.C_drop (m := (x5_1 : Int).toNat) (c := co16) ((Kd.R_reads' (Kd.R_after (ok := (fun k_ => (P0_ k_ ∨ w.heap.size ≤ k_))) (zR HO_0.out) hg hat)).2.2) KL22.out ((Kd.R_reads' (Kd.R_after (ok := (fun k_ => (P0_ k_ ∨ w.heap.size ≤ k_))) (zR HO_0.out) hg hat)).2.1)))
    replace HO_0 := zz (Kd.R_after (ok := (fun k_ => (P0_ k_ ∨ w.heap.size ≤ k_))) (zR HO_0.out) hg hat)
    have HO238 := zz (ho)
    clear HO235
    clear ho hb hg hat
    refine hK.out _ _ trivial (fun hHeld => ?_)
    clear hK K
    refine zn 42 ?_
    refine zo 7 46 (bp 8 1) fun K hK => ?_
    refine Kd.R_append_rows_step Kd.string (w0 := w0) w0.heap.size (by rfl) (.tmp 42) (.tmp 45) 39 9 (.string ⟨#[]⟩) 16 rfl Tryz.underlying39 info9 rfl (by decide) (by omega) v237 y236 y239 _ _ _ (fun k_ => (P0_ k_ ∨ w.heap.size ≤ k_) ∧ some k_ ≠ (.slice (some ad224) l0.length co16 : Value).ownBlock) (fun _ => False) rfl rfl ?aO ?aR (fun _ _ h => h) (fun _ h => h.elim) ?aF ?aB ?aS ?aL ?_
    (case aR => repeat (first | exact (by repeat (first | (with_reducible exact HR242.out) | (with_reducible refine Kd.C_alloc ?_ _) | (with_reducible refine Kd.C_drewN ?_ _) | (with_reducible refine Kd.C_drew ?_) | exact HR242.out)) | (with_reducible refine Kd.C_alloc ?_ _) | (with_reducible refine Kd.C_drewN ?_ _) | (with_reducible refine Kd.C_drew ?_)))
    (case aB => exact zb)
    (case aF => exact (fun k_ hk => ⟨(.inr (Nat.le_trans (by first | exact HK.out.1 | exact (show Kept w _ (fun k_ => P0_ k_) from by repeat (first | (with_reducible first | exact HK.out | apply Kept.alloc | apply Kept.drewN | apply Kept.drew) | exact HK.out)).1) hk)), Kd.fresh' (Kd.R_lt (zR HO_0.out)) k_ hk⟩))
    (case aO => exact (zR HO238.out))
    (case aS => exact (below_size zb))
    (case aL => have := LMc15.out; omega)
    intro v244 w24 ho hb hg hat
    rw [← Ny243.out] at ho
    replace HB := zz (hb)
    replace HK := zz (Kept.of_grown (S := (fun k_ => P0_ k_)) hg (by repeat (first | (with_reducible first | exact HK.out | apply Kept.alloc | apply Kept.drewN | apply Kept.drew) | exact HK.out)) (fun k_ e_ => (HO238.out.1 k_ e_).1))
    replace HR232 := zz ((show Kd.C Kd.string w24 (some ad224) y229.length y229 from by rw [Ny229.out]; exact Kd.C_take (m := (x5_1 : Int).toNat) ((Kd.R_reads' (Kd.R_after (ok := (fun k_ => (P0_ k_ ∨ w.heap.size ≤ k_))) (zR HO_0.out) hg hat)).2.2) KL19.out))
    replace HR242 := zz ((show Kd.C Kd.string w24 A22 y239.length y239 from by rw [Ny239.out, KA22.out]; exact Kd.C_drop (m := (x5_1 : Int).toNat) (c := co16) ((Kd.R_reads' (Kd.R_after (ok := (fun k_ => (P0_ k_ ∨ w.heap.size ≤ k_))) (zR HO_0.out) hg hat)).2.2) KL22.out ((Kd.R_reads' (Kd.R_after (ok := (fun k_ => (P0_ k_ ∨ w.heap.size ≤ k_))) (zR HO_0.out) hg hat)).2.1)))
    replace HO_0 := zz (Kd.R_after (ok := (fun k_ => (P0_ k_ ∨ w.heap.size ≤ k_))) (zR HO_0.out) hg hat)
    have HO245 := zz (ho)
    clear HO238
    clear ho hb hg hat
    refine hK.out _ _ trivial (fun hHeld => ?_)
    clear hK K
    refine zn 46 ?_
    refine zp 8 4 (bp 9 0) ?_
    refine done_ (done_of HT_.out zk) ?_
    try go_wp2
    go_ret
    exact ⟨_, ze, by (with_reducible repeat (first | apply Kd.R_alloc | apply Kd.R_drewN | apply Kd.R_drew)); exact Kd.R_mono HO245.out (fun _ hk => hk.1), zb, by repeat (first | (with_reducible first | exact HK.out | apply Kept.alloc | apply Kept.drewN | apply Kept.drew) | exact HK.out)⟩
   rw [if_neg c3] at H
   have c3b0 := z0 c3
   clear c3
   obtain ⟨y246, hy246⟩ : ∃ y_ : List ByteArray, y_ = (([] : List ByteArray)) := ⟨_, rfl⟩
   replace H : (if 0 ≤ x5_1 then (if x5_1 ≤ (l0.length : Int) then ((some (l0.take (x5_1 : Int).toNat : List ByteArray)).bind fun y249 => (if y246.length + y249.length < 8796093022208 then ((some (y246 ++ y249 : List ByteArray)).bind fun y253 => (if y253.length < 8796093022208 then ((some (y253 ++ [a1] : List ByteArray)).bind fun y256 => ((some (l0.drop (x5_1 : Int).toNat : List ByteArray)).bind fun y259 => (if y256.length + y259.length < 8796093022208 then (some (y256 ++ y259)) else (none)))) else (none))) else (none))) else (none)) else (none)) = some r := by first | (rw [hy246]; with_reducible exact H) | (have H2_ := (Option.bind_some _ _).symm.trans H; rw [hy246]; with_reducible exact H2_) | (have H2_ := (Option.bind_some _ _).symm.trans H; with_reducible exact H2_) | with_reducible exact H | (rw [hy246]; exact H) | exact H
   have Ny246 := zz hy246
   clear hy246
   by_cases c25 : 0 ≤ x5_1
   case neg => exact zno H c25
   rw [if_pos c25] at H
   have c25b0 := eq_true c25
   have c25b1 := z1 c25
   clear c25
   by_cases c26 : x5_1 ≤ (l0.length : Int)
   case neg => exact zno H c26
   rw [if_pos c26] at H
   have c26b0 := eq_true c26
   have c26b1 := z1 c26
   clear c26
   obtain ⟨y249, hy249⟩ : ∃ y_ : List ByteArray, y_ = (l0.take (x5_1 : Int).toNat) := ⟨_, rfl⟩
   replace H : (if y246.length + y249.length < 8796093022208 then ((some (y246 ++ y249 : List ByteArray)).bind fun y253 => (if y253.length < 8796093022208 then ((some (y253 ++ [a1] : List ByteArray)).bind fun y256 => ((some (l0.drop (x5_1 : Int).toNat : List ByteArray)).bind fun y259 => (if y256.length + y259.length < 8796093022208 then (some (y256 ++ y259)) else (none)))) else (none))) else (none)) = some r := by first | (rw [hy249]; with_reducible exact H) | (have H2_ := (Option.bind_some _ _).symm.trans H; rw [hy249]; with_reducible exact H2_) | (have H2_ := (Option.bind_some _ _).symm.trans H; with_reducible exact H2_) | with_reducible exact H | (rw [hy249]; exact H) | exact H
   have Ny249 := zz hy249
   clear hy249
   by_cases c27 : y246.length + y249.length < 8796093022208
   case neg => exact zno H c27
   rw [if_pos c27] at H
   have LMc27 := zz c27
   clear c27
   obtain ⟨y253, hy253⟩ : ∃ y_ : List ByteArray, y_ = (y246 ++ y249) := ⟨_, rfl⟩
   replace H : (if y253.length < 8796093022208 then ((some (y253 ++ [a1] : List ByteArray)).bind fun y256 => ((some (l0.drop (x5_1 : Int).toNat : List ByteArray)).bind fun y259 => (if y256.length + y259.length < 8796093022208 then (some (y256 ++ y259)) else (none)))) else (none)) = some r := by first | (rw [hy253]; with_reducible exact H) | (have H2_ := (Option.bind_some _ _).symm.trans H; rw [hy253]; with_reducible exact H2_) | (have H2_ := (Option.bind_some _ _).symm.trans H; with_reducible exact H2_) | with_reducible exact H | (rw [hy253]; exact H) | exact H
   have Ny253 := zz hy253
   clear hy253
   by_cases c28 : y253.length < 8796093022208
   case neg => exact zno H c28
   rw [if_pos c28] at H
   have LMc28 := zz c28
   clear c28
   obtain ⟨y256, hy256⟩ : ∃ y_ : List ByteArray, y_ = (y253 ++ [a1]) := ⟨_, rfl⟩
   replace H : ((some (l0.drop (x5_1 : Int).toNat : List ByteArray)).bind fun y259 => (if y256.length + y259.length < 8796093022208 then (some (y256 ++ y259)) else (none))) = some r := by first | (rw [hy256]; with_reducible exact H) | (have H2_ := (Option.bind_some _ _).symm.trans H; rw [hy256]; with_reducible exact H2_) | (have H2_ := (Option.bind_some _ _).symm.trans H; with_reducible exact H2_) | with_reducible exact H | (rw [hy256]; exact H) | exact H
   have Ny256 := zz hy256
   clear hy256
   have c29b0 := eq_true (z2 : 0 ≤ x5_1)
   have c30b0 := eq_true (z2 : x5_1 ≤ (l0.length : Int))
   obtain ⟨y259, hy259⟩ : ∃ y_ : List ByteArray, y_ = (l0.drop (x5_1 : Int).toNat) := ⟨_, rfl⟩
   replace H : (if y256.length + y259.length < 8796093022208 then (some (y256 ++ y259)) else (none)) = some r := by first | (rw [hy259]; with_reducible exact H) | (have H2_ := (Option.bind_some _ _).symm.trans H; rw [hy259]; with_reducible exact H2_) | (have H2_ := (Option.bind_some _ _).symm.trans H; with_reducible exact H2_) | with_reducible exact H | (rw [hy259]; exact H) | exact H
   have Ny259 := zz hy259
   clear hy259
   by_cases c31 : y256.length + y259.length < 8796093022208
   case neg => exact zno H c31
   rw [if_pos c31] at H
   have LMc31 := zz c31
   clear c31
   obtain ⟨y263, hy263⟩ : ∃ y_ : List ByteArray, y_ = (y256 ++ y259) := ⟨_, rfl⟩
   replace H : (some y263) = some r := by first | (rw [hy263]; with_reducible exact H) | (have H2_ := (Option.bind_some _ _).symm.trans H; rw [hy263]; with_reducible exact H2_) | (have H2_ := (Option.bind_some _ _).symm.trans H; with_reducible exact H2_) | with_reducible exact H | (rw [hy263]; exact H) | exact H
   have Ny263 := zz hy263
   clear hy263
   obtain rfl := zi H
   obtain ⟨Ao32, co32, eo32⟩ := Kd.R_slice HO_0.out
   subst eo32
   try go_wp2_with (first | (refine zN 34 ?_; refine Kd.R_lit Kd.string _ 9 ?hg (N := 34) ?hd (xs := ([] : List ByteArray)) (inner := []) (ok := fun _ => True) (okp := fun _ => True) ?hr ?hp (fun _ hk => hk) trivial (Below.refl _ _) (Nat.le_refl _) (by simp) ?_; (case hd => rfl); (case hg => rfl); (case hr => first | (go_simp; done) | (go_simp; rfl)); (case hp => exact (Reps.none _ _)); intro v247 w33 ho34 hb hg_ hnew_; clear hg_ hnew_; (first | rw [← Ny246.out] at ho34 | (simp only [Int.reduceToNat] at ho34; rw [← Ny246.out] at ho34)); have HO248 := zz (Kd.R_lower (Kd.R_new' (Kd.R_newM (M := fun k_ => (P0_ k_ ∨ w.heap.size ≤ k_)) ho34 (by first | exact HK.out.1 | exact (show Kept w _ (fun k_ => P0_ k_) from by repeat (first | (with_reducible first | exact HK.out | apply Kept.alloc | apply Kept.drewN | apply Kept.drew) | exact HK.out)).1) (fun k_ h_ => .inr h_)) (Kd.R_lt (zR HO_0.out))) (below_size zb)); replace HO_0 := zz (Kd.R_elder' (zR HO_0.out) (Kd.R_base ho34) hb); replace HK := zz (Kept.below (S := (fun k_ => P0_ k_)) (by repeat (first | (with_reducible first | exact HK.out | apply Kept.alloc | apply Kept.drewN | apply Kept.drew) | exact HK.out)) hb); replace HB := zz (zv zb hb); clear hb ho34; have q35 : (x5_1 : Int) ≤ ((l0.length : Int) : Int) := z2; obtain ⟨i035, hi035, _, hsz35, _⟩ := info_parts info9; have hroom35 : l0.length ≤ co32 := (Kd.R_reads' HO_0.out).2.1; have hC35 : Kd.C Kd.string _ Ao32 l0.length l0 := (Kd.R_reads' HO_0.out).2.2; have hcut35 := cut_to (P := Tryz.prog) 39 9 .i64 Tryz.underlying39 hi035 Ao32 l0.length co32 x5_1 (z2) q35 hroom35; have hr35 := Kd.C_take (m := (x5_1 : Int).toNat) hC35 (by omega); have hy35 : y249.length = (x5_1 : Int).toNat := (by rw [Ny249.out, List.length_take]; omega); rw [← Ny249.out] at hr35; rw [← hy35] at hcut35; have HR252 := zz hr35; have HC252 := zz (show y249.length ≤ co32 from by omega); clear hr35 hC35 hroom35 hi035 hsz35; have KY35 := zz hy35; clear hy35; have KL35 := zz (show (x5_1 : Int).toNat ≤ l0.length from by omega); replace q35 := eq_true q35) | ((with_reducible refine gate_builtin (b := .append) (xs := #[.tmp 34, .tmp 37]) rfl ?_); at_builtin; refine Kd.R_append_rows Kd.string (w0 := w0) w0.heap.size rfl (.tmp 34) (.tmp 37) 39 9 (.string ⟨#[]⟩) 16 rfl Tryz.underlying39 info9 rfl (by decide) (by omega) v247 y246 y249 _ _ _ (fun k_ => (P0_ k_ ∨ w.heap.size ≤ k_) ∧ some k_ ≠ (.slice Ao32 l0.length co32 : Value).ownBlock) (fun _ => False) rfl rfl ?aO ?aR (fun _ _ h => h) (fun _ h => h.elim) ?aF ?aB ?aS ?aL ?_; (case aR => repeat (first | exact (by repeat (first | (with_reducible exact HR252.out) | (with_reducible refine Kd.C_alloc ?_ _) | (with_reducible refine Kd.C_drewN ?_ _) | (with_reducible refine Kd.C_drew ?_) | exact HR252.out)) | (with_reducible refine Kd.C_alloc ?_ _) | (with_reducible refine Kd.C_drewN ?_ _) | (with_reducible refine Kd.C_drew ?_))); (case aB => exact zb); (case aF => exact (fun k_ hk => ⟨(.inr (Nat.le_trans (by first | exact HK.out.1 | exact (show Kept w _ (fun k_ => P0_ k_) from by repeat (first | (with_reducible first | exact HK.out | apply Kept.alloc | apply Kept.drewN | apply Kept.drew) | exact HK.out)).1) hk)), Kd.fresh' (Kd.R_lt (zR HO_0.out)) k_ hk⟩)); (case aO => exact (by (with_reducible repeat (first | apply Kd.R_alloc | apply Kd.R_drewN | apply Kd.R_drew)); exact Kd.R_mono HO248.out (fun _ hk => ⟨hk.1.1, hk.2⟩))); (case aS => exact (below_size zb)); (case aL => have := LMc27.out; omega); intro v254 w36 ho hb hg hat; rw [← Ny253.out] at ho; replace HB := zz (hb); replace HK := zz (Kept.of_grown (S := (fun k_ => P0_ k_)) hg (by repeat (first | (with_reducible first | exact HK.out | apply Kept.alloc | apply Kept.drewN | apply Kept.drew) | exact HK.out)) (fun k_ e_ => (HO248.out.1 k_ e_).1.1)); replace HR252 := zz ((show Kd.C Kd.string w36 Ao32 y249.length y249 from by rw [Ny249.out]; exact Kd.C_take (m := (x5_1 : Int).toNat) ((Kd.R_reads' (Kd.R_after (ok := (fun k_ => (P0_ k_ ∨ w.heap.size ≤ k_))) (zR HO_0.out) hg hat)).2.2) KL35.out)); replace HO_0 := zz (Kd.R_after (ok := (fun k_ => (P0_ k_ ∨ w.heap.size ≤ k_))) (zR HO_0.out) hg hat); have HO255 := zz (ho); clear HO248; clear ho hb hg hat))
   replace HO_0 := zz (Kd.R_drew HO_0.out)
   replace HO255 := zz (Kd.R_drew HO255.out)
   replace HR252 := zz (Kd.C_drew HR252.out)
   replace HK := zz (Kept.drew HK.out)
   replace HB := zz (below_drew1 HB.out)
   have q38 : (x5_1 : Int) ≤ ((l0.length : Int) : Int) := z2
   obtain ⟨i038, hi038, _, hsz38, _⟩ := info_parts info9
   have hroom38 : l0.length ≤ co32 := (Kd.R_reads' HO_0.out).2.1
   have hC38 : Kd.C Kd.string _ Ao32 l0.length l0 := (Kd.R_reads' HO_0.out).2.2
   have q038 : (0 : Int) ≤ (x5_1 : Int) := z2
   have hcut38 := cut_from (P := Tryz.prog) 39 9 .i64 Tryz.underlying39 hi038 1 hsz38 Ao32 l0.length co32 x5_1 q038 q38
   have hr38 := Kd.C_drop (m := (x5_1 : Int).toNat) (c := co32) hC38 (by omega) hroom38
   obtain ⟨A38, hA38⟩ : ∃ A1, A1 = (if co32 = (x5_1 : Int).toNat then Ao32 else (Ao32 : Option Addr).map (·.add ((x5_1 : Int).toNat * 1))) := ⟨_, rfl⟩
   obtain ⟨c38, hc38⟩ : ∃ c1, c1 = co32 - (x5_1 : Int).toNat := ⟨_, rfl⟩
   have hy38 : y259.length = l0.length - (x5_1 : Int).toNat := (by rw [Ny259.out, List.length_drop] <;> omega)
   rw [show (l0).drop (x5_1 : Int).toNat = y259 from Ny259.out.symm] at hr38
   replace hr38 : Kd.C Kd.string _ A38 y259.length y259 := (by rw [hA38]; exact hr38)
   rw [← hy38, ← hA38, ← hc38] at hcut38
   have HR262 := zz hr38
   have HC262 := zz (show y259.length ≤ c38 from by rw [hy38, hc38]; exact Nat.sub_le_sub_right hroom38 _)
   clear hr38 hC38 hroom38 hi038 hsz38 hc38
   have KY38 := zz hy38
   have KA38 := zz hA38
   clear hy38 hA38
   have KL38 := zz (show (x5_1 : Int).toNat ≤ l0.length from by omega)
   replace q38 := eq_true q38
   refine start_ (n := 9) (S := fun w' => True) (ds := []) (bp 0 9) zk rfl rfl trivial (fun hHeld => ?_); refine with_tabW spec_l3Add.tab7 spec_l3Add.bits7 (fun HT_ HW_ => ?_)
   generalize w36.drew = w37 at HO_0 HO255 HR252 HK HB HR262 hHeld ⊢
   refine zp 0 39 (bp 1 8) ?_
   refine zp 1 40 (bp 2 7) ?_
   refine zp 4 43 (bm 9 19) ?_
   refine zp 5 44 (bm 9 51) ?_
   refine zp 6 45 (bm 9 115) ?_
   refine zo 2 41 (bm 9 119) fun K hK => ?_
   refine value_ (w1 := ?_) (v := ?_) (by rfl) rfl ?_ ?_
   rotate_left 2
   ·go_simp
    constructor
    ·rfl
    ·rfl
   refine hK.out _ _ trivial (fun hHeld => ?_)
   clear hK K
   refine zn 41 ?_
   refine zo 3 42 (bp 7 2) fun K hK => ?_
   refine Kd.R_append_step Kd.string (w0 := w0) w0.heap.size (by rfl) (.tmp 39) (.tmp 41) 39 9 (.string ⟨#[]⟩) 16 rfl Tryz.underlying39 info9 rfl (by decide) (by omega) v254 y253 a1 [.string a1] (fun k_ => (P0_ k_ ∨ w.heap.size ≤ k_) ∧ some k_ ≠ (.slice Ao32 l0.length co32 : Value).ownBlock) (fun _ => False) rfl rfl ?aP (fun _ hk => hk.elim) ?aF ?aO ?aB ?aS ?aL ?_
   (case aP => exact rfl)
   (case aB => exact zb)
   (case aF => exact (fun k_ hk => ⟨(.inr (Nat.le_trans (by first | exact HK.out.1 | exact (show Kept w _ (fun k_ => P0_ k_) from by repeat (first | (with_reducible first | exact HK.out | apply Kept.alloc | apply Kept.drewN | apply Kept.drew) | exact HK.out)).1) hk)), Kd.fresh' (Kd.R_lt (zR HO_0.out)) k_ hk⟩))
   (case aO => exact (zR HO255.out))
   (case aS => exact (below_size zb))
   (case aL => have := LMc28.out; omega)
   intro v257 w39 ho hb hg hat
   rw [← Ny256.out] at ho
   replace HB := zz (hb)
   replace HK := zz (Kept.of_grown (S := (fun k_ => P0_ k_)) hg (by repeat (first | (with_reducible first | exact HK.out | apply Kept.alloc | apply Kept.drewN | apply Kept.drew) | exact HK.out)) (fun k_ e_ => (HO255.out.1 k_ e_).1))
   replace HR252 := zz ((show Kd.C Kd.string w39 Ao32 y249.length y249 from by rw [Ny249.out]; exact Kd.C_take (m := (x5_1 : Int).toNat) ((Kd.R_reads' (Kd.R_after (ok := (fun k_ => (P0_ k_ ∨ w.heap.size ≤ k_))) (zR HO_0.out) hg hat)).2.2) KL35.out))
   replace HR262 := zz ((show Kd.C Kd.string w39 A38 y259.length y259 from by rw [Ny259.out, KA38.out]; exact Kd.C_drop (m := (x5_1 : Int).toNat) (c := co32) ((Kd.R_reads' (Kd.R_after (ok := (fun k_ => (P0_ k_ ∨ w.heap.size ≤ k_))) (zR HO_0.out) hg hat)).2.2) KL38.out ((Kd.R_reads' (Kd.R_after (ok := (fun k_ => (P0_ k_ ∨ w.heap.size ≤ k_))) (zR HO_0.out) hg hat)).2.1)))
   replace HO_0 := zz (Kd.R_after (ok := (fun k_ => (P0_ k_ ∨ w.heap.size ≤ k_))) (zR HO_0.out) hg hat)
   have HO258 := zz (ho)
   clear HO255
   clear ho hb hg hat
   refine hK.out _ _ trivial (fun hHeld => ?_)
   clear hK K
   refine zn 42 ?_
   refine zo 7 46 (bp 8 1) fun K hK => ?_
   refine Kd.R_append_rows_step Kd.string (w0 := w0) w0.heap.size (by rfl) (.tmp 42) (.tmp 45) 39 9 (.string ⟨#[]⟩) 16 rfl Tryz.underlying39 info9 rfl (by decide) (by omega) v257 y256 y259 _ _ _ (fun k_ => (P0_ k_ ∨ w.heap.size ≤ k_) ∧ some k_ ≠ (.slice Ao32 l0.length co32 : Value).ownBlock) (fun _ => False) rfl rfl ?aO ?aR (fun _ _ h => h) (fun _ h => h.elim) ?aF ?aB ?aS ?aL ?_
   (case aR => repeat (first | exact (by repeat (first | (with_reducible exact HR262.out) | (with_reducible refine Kd.C_alloc ?_ _) | (with_reducible refine Kd.C_drewN ?_ _) | (with_reducible refine Kd.C_drew ?_) | exact HR262.out)) | (with_reducible refine Kd.C_alloc ?_ _) | (with_reducible refine Kd.C_drewN ?_ _) | (with_reducible refine Kd.C_drew ?_)))
   (case aB => exact zb)
   (case aF => exact (fun k_ hk => ⟨(.inr (Nat.le_trans (by first | exact HK.out.1 | exact (show Kept w _ (fun k_ => P0_ k_) from by repeat (first | (with_reducible first | exact HK.out | apply Kept.alloc | apply Kept.drewN | apply Kept.drew) | exact HK.out)).1) hk)), Kd.fresh' (Kd.R_lt (zR HO_0.out)) k_ hk⟩))
   (case aO => exact (zR HO258.out))
   (case aS => exact (below_size zb))
   (case aL => have := LMc31.out; omega)
   intro v264 w40 ho hb hg hat
   rw [← Ny263.out] at ho
   replace HB := zz (hb)
   replace HK := zz (Kept.of_grown (S := (fun k_ => P0_ k_)) hg (by repeat (first | (with_reducible first | exact HK.out | apply Kept.alloc | apply Kept.drewN | apply Kept.drew) | exact HK.out)) (fun k_ e_ => (HO258.out.1 k_ e_).1))
   replace HR252 := zz ((show Kd.C Kd.string w40 Ao32 y249.length y249 from by rw [Ny249.out]; exact Kd.C_take (m := (x5_1 : Int).toNat) ((Kd.R_reads' (Kd.R_after (ok := (fun k_ => (P0_ k_ ∨ w.heap.size ≤ k_))) (zR HO_0.out) hg hat)).2.2) KL35.out))
   replace HR262 := zz ((show Kd.C Kd.string w40 A38 y259.length y259 from by rw [Ny259.out, KA38.out]; exact Kd.C_drop (m := (x5_1 : Int).toNat) (c := co32) ((Kd.R_reads' (Kd.R_after (ok := (fun k_ => (P0_ k_ ∨ w.heap.size ≤ k_))) (zR HO_0.out) hg hat)).2.2) KL38.out ((Kd.R_reads' (Kd.R_after (ok := (fun k_ => (P0_ k_ ∨ w.heap.size ≤ k_))) (zR HO_0.out) hg hat)).2.1)))
   replace HO_0 := zz (Kd.R_after (ok := (fun k_ => (P0_ k_ ∨ w.heap.size ≤ k_))) (zR HO_0.out) hg hat)
   have HO265 := zz (ho)
   clear HO258
   clear ho hb hg hat
   refine hK.out _ _ trivial (fun hHeld => ?_)
   clear hK K
   refine zn 46 ?_
   refine zp 8 4 (bp 9 0) ?_
   refine done_ (done_of HT_.out zk) ?_
   try go_wp2
   go_ret
   exact ⟨_, ze, by (with_reducible repeat (first | apply Kd.R_alloc | apply Kd.R_drewN | apply Kd.R_drew)); exact Kd.R_mono HO265.out (fun _ hk => hk.1), zb, by repeat (first | (with_reducible first | exact HK.out | apply Kept.alloc | apply Kept.drewN | apply Kept.drew) | exact HK.out)⟩
end Go.Proofs.YtcekmnclmldmmaaGreatDoor.Q
