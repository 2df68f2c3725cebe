import Derived.Test.YtcekmnclmldmmaaGreatDoorB17
set_option linter.unusedVariables false
set_option linter.unusedSimpArgs false
namespace Go.Proofs.YtcekmnclmldmmaaGreatDoor.Q
open Go.RowKit W1 W2 W3
attribute [local go_sem] max2_int min2_int max_two min_two max_three min_three max_four min_four
attribute [local go_sem high] bl_leq bl_gtr bl_geq
set_option maxHeartbeats 8000000
set_option maxRecDepth 100000
def impl_TreeSum.f (k : Nat) (l0 : List (S96)) : Option (ByteArray) := (impl_TreeOk.f k l0).bind fun t526 => (if t526 = true then ((impl_PackTree.f k l0).bind fun t527 => ((impl_Sum.f k t527).bind fun t530 => ((impl_Word32.f k t530).bind fun t531 => (some t531)))) else (some (⟨#[]⟩ : ByteArray)))
theorem impl_TreeSum.mono : ∀ a0 k, LeO (impl_TreeSum.f k a0) (impl_TreeSum.f (k + 1) a0) := by
 intro a0 k
 unfold impl_TreeSum.f
 have m0 := @impl_PackTree.mono
 have m1 := @impl_Sum.mono
 have m2 := @impl_TreeOk.mono
 have m3 := @impl_Word32.mono
 exact zM
theorem impl_TreeSum.calls (k : Nat) (A0 : Option Addr) (c0 : Nat) (l0 : List (S96)) (r : ByteArray) (w : World) (hr0 : Kd.C k96 w A0 l0.length l0) (hc0 : l0.length ≤ c0) (hG_ : GOK w) (h : impl_TreeSum.f k l0 = some r) :
 Calls Tryz.prog 125 #[.slice A0 l0.length c0] w fun e w' => e = .returned (.string r) ∧ Below w.heap.size w w' := by
 have HG := zz hG_
 clear hG_
 have HR0 := zz hr0
 have HC0 := zz hc0
 clear hr0 hc0
 have HB := zz (Below.refl w.heap.size w)
 unfold impl_TreeSum.f at h
 have H := h
 clear h
 replace HB := HB.out
 have HW := zz (Below.refl w.heap.size w)
 go_enter Tryz.func125, Tryz.ntmps125
 replace H := zf H
 obtain ⟨t526, A2, H⟩ := H
 try dsimp only at H
 replace A2 := zz A2
 by_cases c3 : t526 = true
 case neg =>
  replace c3 := Bool.eq_false_iff.mpr c3
  subst c3
  rw [if_neg (by decide)] at H
  go_wp2_with (fail)
  refine (impl_TreeOk.calls k _ _ _ _ _ (Kd.C_below HR0.out HB) HC0.out (GOK.below HG.out (zv HW.out HB)) A2.out).mono ?_
  rintro e w15 ⟨rfl, hb⟩
  replace HB := zv HB hb
  clear hb
  obtain rfl := zi H
  go_wp2_with (fail)
  go_ret
  exact ⟨ze, zv HW.out HB⟩
 subst c3
 rw [if_pos rfl] at H
 go_wp2_with (fail)
 refine (impl_TreeOk.calls k _ _ _ _ _ (Kd.C_below HR0.out HB) HC0.out (GOK.below HG.out (zv HW.out HB)) A2.out).mono ?_
 rintro e w5 ⟨rfl, hb⟩
 replace HB := zv HB hb
 clear hb
 replace H := zf H
 obtain ⟨t527, A6, H⟩ := H
 try dsimp only at H
 replace A6 := zz A6
 go_wp2_with (fail)
 refine (impl_PackTree.calls k _ _ _ _ _ (Kd.C_below HR0.out HB) HC0.out (GOK.below HG.out (zv HW.out HB)) A6.out).mono ?_
 rintro e w7 ⟨vHO529, rfl, hHO529, hb⟩
 replace HB := zv HB hb
 clear hb
 have hst := HB
 replace HW := zz (zv HW.out hst)
 replace HR0 := zz (Kd.C_below HR0.out hst)
 clear hst
 replace HB := Below.refl w7.heap.size w7
 obtain ⟨AHRo8, cHRo8, rfl, hl_, hC_⟩ := Kd.R_reads hHO529
 have HRo8 := zz hC_
 have HCo8 := zz hl_
 clear hl_ hC_ hHO529
 replace H := zf H
 obtain ⟨t530, A9, H⟩ := H
 try dsimp only at H
 replace A9 := zz A9
 go_wp2_with (fail)
 refine (impl_Sum.calls k _ _ _ _ _ (Kd.C_below HRo8.out HB) HCo8.out A9.out).mono ?_
 rintro e w10 ⟨rfl, hd⟩
 replace HB := zv HB hd.below
 clear hd
 replace H := zf H
 obtain ⟨t531, A11, H⟩ := H
 try dsimp only at H
 replace A11 := zz A11
 go_wp2_with (fail)
 refine (impl_Word32.calls k _ _ _  A11.out).mono ?_
 rintro e w13 ⟨rfl, hb⟩
 replace HB := zv HB hb
 clear hb
 obtain rfl := zi H
 go_wp2_with (fail)
 go_ret
 exact ⟨ze, zv HW.out HB⟩
def spec_Word32.l0 : Nat → Int → List Int → Int → Option (ByteArray)
 | 0, _, _, _ => none
 | k + 1, x0, x3, x4 => if x4 ≥ 0 then (if 0 ≤ (IntKind.u64.wrap (wrap64 (5 * x4))) then (if 0 ≤ (Go.bits .and .u64 (shr .u64 x0 (IntKind.u64.wrap (wrap64 (5 * x4)))) 31) then (if (Go.bits .and .u64 (shr .u64 x0 (IntKind.u64.wrap (wrap64 (5 * x4)))) 31) < 32 then (if x3.length < 140737488355328 then (spec_Word32.l0 k x0 (x3 ++ [bt (⟨#[48, 49, 50, 51, 52, 53, 54, 55, 56, 57, 97, 98, 99, 100, 102, 103, 104, 105, 106, 107, 108, 109, 110, 112, 113, 114, 115, 118, 119, 120, 121, 122]⟩ : ByteArray) (Go.bits .and .u64 (shr .u64 x0 (IntKind.u64.wrap (wrap64 (5 * x4)))) 31)]) (wrap64 (x4 - 1))) else (none)) else (none)) else (none)) else (none)) else (some (strOfNums x3))
def spec_Word32.f (k : Nat) (a0 : Int) : Option (ByteArray) := spec_Word32.l0 k a0 (([] : List Int)) 12
theorem spec_Word32.mono_l : ∀ k, (∀ y0 y1 y2, LeO (spec_Word32.l0 k y0 y1 y2) (spec_Word32.l0 (k + 1) y0 y1 y2))
 | 0 => fun _ _ _ r h => by simp [spec_Word32.l0] at h
 | k + 1 => by
  have ih0 := spec_Word32.mono_l k
  ·intro y0 y1 y2
   unfold spec_Word32.l0
   exact zM
theorem spec_Word32.mono : ∀ a0 k, LeO (spec_Word32.f k a0) (spec_Word32.f (k + 1) a0) := by
 intro a0 k
 have ih0 := spec_Word32.mono_l k
 unfold spec_Word32.f
 exact zM
theorem spec_Word32.calls (k : Nat) (a0 : Int) (r : ByteArray) (w : World) (h : spec_Word32.f k a0 = some r) :
 Calls Tryz.prog 138 #[.int .u64 a0] w fun e w' => e = .returned (.string r) ∧ Below w.heap.size w w' := by
 have HB := zz (Below.refl w.heap.size w)
 unfold spec_Word32.f at h
 have H := h
 clear h
 obtain ⟨y169, hy169⟩ : ∃ y_ : List Int, y_ = (([] : List Int)) := ⟨_, rfl⟩
 replace H : (spec_Word32.l0 k a0 y169 12) = some r := by first | (rw [hy169]; with_reducible exact H) | (have H2_ := (Option.bind_some _ _).symm.trans H; rw [hy169]; with_reducible exact H2_) | (have H2_ := (Option.bind_some _ _).symm.trans H; with_reducible exact H2_) | with_reducible exact H | (rw [hy169]; exact H) | exact H
 have Ny169 := zz hy169
 clear hy169
 have H' := zz H
 clear H
 go_enter Tryz.func138, Tryz.ntmps138
 go_wp2_with (first | (refine zN 5 ?_; refine Kd.R_lit (Kd.int .u8) _ 5 ?hg (N := 5) ?hd (xs := ([] : List Int)) (inner := []) (ok := fun _ => True) (okp := fun _ => True) ?hr ?hp (fun _ hk => hk) trivial (Below.refl _ _) (Nat.le_refl _) (by simp) ?_; (case hd => rfl); (case hg => rfl); (case hr => first | (go_simp; done) | (go_simp; rfl)); (case hp => exact (Reps.none _ _)); intro v170 w2 ho3 hb hg_ hnew_; clear hg_ hnew_; (first | rw [← Ny169.out] at ho3 | (simp only [Int.reduceToNat] at ho3; rw [← Ny169.out] at ho3)); have HO171 := zz (Kd.R_lower ho3 (below_size zb)); replace HB := zz (zv zb hb); clear hb ho3))
 go_loopg [3, 4] k (fun kq v3 v4 w' => ∃ (x3_1 : List Int) (x4_1 : Int), v4 = .int .i64 x4_1 ∧ Aside0 (spec_Word32.l0 kq a0 x3_1 x4_1 = some r) ∧ Aside0 (kq ≤ k) ∧ Aside0 (Kd.R (Kd.int .u8) 5 w' w.heap.size (fun _ => True) v3 x3_1) ∧ Aside0 (Below w.heap.size w w'))
 case atStart => exact ⟨(y169), (12), zr, H', ⟨Nat.le_refl _⟩, ⟨by (with_reducible repeat (first | apply Kd.R_alloc | apply Kd.R_drewN | apply Kd.R_drew)); exact HO171.out⟩, ⟨zb⟩⟩
 case round =>
  clear H'
  try clear c1
  try clear p2
  obtain ⟨x3_1, x4_1, rfl, HA, HK1, HO_3, HB⟩ := hrel
  cases gk with
  | zero => exact absurd HA.out (by simp [spec_Word32.l0])
  | succ k1 =>
   have H := HA.out
   clear HA
   simp only [spec_Word32.l0] at H
   by_cases c4 : x4_1 ≥ 0
   case neg =>
    rw [if_neg c4] at H
    have c4b0 := zgen c4
    clear c4
    obtain rfl := zi H
    have hcv13 := own_string (P := Tryz.prog) Tryz.underlying133 Tryz.underlying5 Tryz.underlying9 (Kd.own_of_R HO_3.out)
    go_wp2
    go_ret
    exact ⟨ze, zb⟩
   rw [if_pos c4] at H
   have c4b0 := zge c4
   clear c4
   obtain ⟨ji5, hji5⟩ : ∃ j_ : Int, (IntKind.u64.wrap (wrap64 (5 * x4_1))) = j_ := ⟨_, rfl⟩
   replace H : (if 0 ≤ (ji5) then (if 0 ≤ (Go.bits .and .u64 (shr .u64 a0 (ji5)) 31) then (if (Go.bits .and .u64 (shr .u64 a0 (ji5)) 31) < 32 then (if x3_1.length < 140737488355328 then (spec_Word32.l0 k1 a0 (x3_1 ++ [bt (⟨#[48, 49, 50, 51, 52, 53, 54, 55, 56, 57, 97, 98, 99, 100, 102, 103, 104, 105, 106, 107, 108, 109, 110, 112, 113, 114, 115, 118, 119, 120, 121, 122]⟩ : ByteArray) (Go.bits .and .u64 (shr .u64 a0 (ji5)) 31)]) (wrap64 (x4_1 - 1))) else (none)) else (none)) else (none)) else (none)) = some r := by first | (rw [hji5] at H; exact H) | (simp only [hji5] at H ⊢; exact H)
   by_cases c6 : 0 ≤ (ji5)
   case neg => exact zno H c6
   rw [if_pos c6] at H
   have c6b0 := eq_true c6
   have c6b1 := z1 c6
   clear c6
   obtain ⟨ji7, hji7⟩ : ∃ j_ : Int, (shr .u64 a0 (ji5)) = j_ := ⟨_, rfl⟩
   replace H : (if 0 ≤ (Go.bits .and .u64 (ji7) 31) then (if (Go.bits .and .u64 (ji7) 31) < 32 then (if x3_1.length < 140737488355328 then (spec_Word32.l0 k1 a0 (x3_1 ++ [bt (⟨#[48, 49, 50, 51, 52, 53, 54, 55, 56, 57, 97, 98, 99, 100, 102, 103, 104, 105, 106, 107, 108, 109, 110, 112, 113, 114, 115, 118, 119, 120, 121, 122]⟩ : ByteArray) (Go.bits .and .u64 (ji7) 31)]) (wrap64 (x4_1 - 1))) else (none)) else (none)) else (none)) = some r := by first | (rw [hji7] at H; exact H) | (simp only [hji7] at H ⊢; exact H)
   have hji7_ : (a0 / 2 ^ min (ji5).toNat 64) = ji7 := hji7
   have hji7z : (ji5) ≤ 64 → (a0 / 2 ^ (ji5).toNat) = ji7 := shr_small hji7
   by_cases c8 : 0 ≤ (Go.bits .and .u64 (ji7) 31)
   case neg => exact zno H c8
   rw [if_pos c8] at H
   have c8b0 := z1 c8
   clear c8
   by_cases c9 : (Go.bits .and .u64 (ji7) 31) < 32
   case neg => exact zno H c9
   rw [if_pos c9] at H
   have c9b0 := z1 c9
   clear c9
   by_cases c11 : x3_1.length < 140737488355328
   case neg => exact zno H c11
   rw [if_pos c11] at H
   have LMc11 := zz c11
   clear c11
   obtain ⟨y172, hy172⟩ : ∃ y_ : List Int, y_ = (x3_1 ++ [bt (⟨#[48, 49, 50, 51, 52, 53, 54, 55, 56, 57, 97, 98, 99, 100, 102, 103, 104, 105, 106, 107, 108, 109, 110, 112, 113, 114, 115, 118, 119, 120, 121, 122]⟩ : ByteArray) (Go.bits .and .u64 (ji7) 31)]) := ⟨_, rfl⟩
   replace H : (spec_Word32.l0 k1 a0 y172 (wrap64 (x4_1 - 1))) = some r := by first | (rw [hy172]; with_reducible exact H) | (have H2_ := (Option.bind_some _ _).symm.trans H; rw [hy172]; with_reducible exact H2_) | (have H2_ := (Option.bind_some _ _).symm.trans H; with_reducible exact H2_) | with_reducible exact H | (rw [hy172]; exact H) | exact H
   have Ny172 := zz hy172
   clear hy172
   have H' := zz H
   clear H
   have p10 : 0 ≤ ((Go.bits .and .u64 (ji7) 31) : Int) := z2
   have q10 : (Go.bits .and .u64 (ji7) 31) < (32 : Int) := z2
   have hx10 := bt_at (⟨#[48, 49, 50, 51, 52, 53, 54, 55, 56, 57, 97, 98, 99, 100, 102, 103, 104, 105, 106, 107, 108, 109, 110, 112, 113, 114, 115, 118, 119, 120, 121, 122]⟩ : ByteArray) (Go.bits .and .u64 (ji7) 31)
   replace p10 := eq_true p10
   replace q10 := eq_true q10
   go_wp2_with (first | ((with_reducible refine gate_builtin (b := .append) (xs := #[.tmp 10, .tmp 18]) rfl ?_); at_builtin; refine Kd.R_append (Kd.int .u8) (w0 := w) w.heap.size rfl (.tmp 10) (.tmp 18) 133 5 (.int .u8 0) 1 rfl Tryz.underlying133 info5 rfl (by decide) (by omega) u3 x3_1 (bt (⟨#[48, 49, 50, 51, 52, 53, 54, 55, 56, 57, 97, 98, 99, 100, 102, 103, 104, 105, 106, 107, 108, 109, 110, 112, 113, 114, 115, 118, 119, 120, 121, 122]⟩ : ByteArray) (Go.bits .and .u64 (ji7) 31)) [.int .u8 (bt (⟨#[48, 49, 50, 51, 52, 53, 54, 55, 56, 57, 97, 98, 99, 100, 102, 103, 104, 105, 106, 107, 108, 109, 110, 112, 113, 114, 115, 118, 119, 120, 121, 122]⟩ : ByteArray) (Go.bits .and .u64 (ji7) 31))] (fun _ => True) (fun _ => False) rfl rfl ?aP (fun _ hk => hk.elim) ?aF ?aO ?aB ?aS ?aL ?_; (case aP => exact rfl); (case aB => exact zb); (case aF => exact (fun _ _ => trivial)); (case aO => exact (zR HO_3.out)); (case aS => exact (below_size zb)); (case aL => have := LMc11.out; omega); intro v173 w12 ho hb hg hat; rw [← Ny172.out] at ho; replace HB := zz (hb); have HO174 := zz (ho); clear HO_3; clear ho hb hg hat))
   go_roundg k1
   case measure => have := HK1.out; omega
   case rel => exact ⟨(y172), (wrap64 (x4_1 - 1)), zr, H', ⟨by have := HK1.out; omega⟩, ⟨by (with_reducible repeat (first | apply Kd.R_alloc | apply Kd.R_drewN | apply Kd.R_drew)); exact HO174.out⟩, ⟨zb⟩⟩
mutual
def spec_Sum.l0 : Nat → List Int → Int → Int → Option (Int)
 | 0, _, _, _ => none
 | k + 1, x0, x3, x4 => if x4 < (x0.length : Int) then (if 0 ≤ x4 then (spec_Sum.l0 k x0 (IntKind.u64.wrap ((Go.bits .xor .u64 x3 (IntKind.u64.wrap (rd x0 x4))) * 1099511628211)) (wrap64 (x4 + 1))) else (none)) else (spec_Sum.l1 k x3 0)
def spec_Sum.l1 : Nat → Int → Int → Option (Int)
 | 0, _, _ => none
 | k + 1, x3, x5 => if x5 < 3 then (spec_Sum.l1 k (IntKind.u64.wrap ((Go.bits .xor .u64 x3 (x3 / 536870912)) * 11400714819323198485)) (wrap64 (x5 + 1))) else (some (Go.bits .xor .u64 x3 (x3 / 4294967296)))
end
def spec_Sum.f (k : Nat) (l0 : List Int) : Option (Int) := spec_Sum.l0 k l0 14695981039346656037 0
theorem spec_Sum.mono_l : ∀ k, (∀ y0 y1 y2, LeO (spec_Sum.l0 k y0 y1 y2) (spec_Sum.l0 (k + 1) y0 y1 y2)) ∧ (∀ y0 y1, LeO (spec_Sum.l1 k y0 y1) (spec_Sum.l1 (k + 1) y0 y1))
 | 0 => ⟨fun _ _ _ r h => by simp [spec_Sum.l0] at h, fun _ _ r h => by simp [spec_Sum.l1] at h⟩
 | k + 1 => by
  obtain ⟨ih0, ih1⟩ := spec_Sum.mono_l k
  refine ⟨?_, ?_⟩
  ·intro y0 y1 y2
   unfold spec_Sum.l0
   exact zM
  ·intro y0 y1
   unfold spec_Sum.l1
   exact zM
theorem spec_Sum.mono : ∀ a0 k, LeO (spec_Sum.f k a0) (spec_Sum.f (k + 1) a0) := by
 intro a0 k
 obtain ⟨ih0, ih1⟩ := spec_Sum.mono_l k
 unfold spec_Sum.f
 exact zM
theorem spec_Sum.calls (k : Nat) (A0 : Option Addr) (c0 : Nat) (l0 : List Int) (r : Int) (w : World) (hr0 : Kd.C (Kd.int .u8) w A0 l0.length l0) (hc0 : l0.length ≤ c0) (h : spec_Sum.f k l0 = some r) :
 Calls Tryz.prog 139 #[.slice A0 l0.length c0] w fun e w' => e = .returned (.int .u64 r) ∧ Drawn0 w w' := by
 have HR0 := zz hr0
 have HC0 := zz hc0
 clear hr0 hc0
 unfold spec_Sum.f at h
 have H := h
 clear h
 have H' := zz H
 clear H
 go_enter Tryz.func139, Tryz.ntmps139
 go_wp2
 go_loopg [3, 4] k (fun kq v3 v4 w' => ∃ (x3_1 : Int) (x4_1 : Int), v3 = .int .u64 x3_1 ∧ v4 = .int .i64 x4_1 ∧ Aside0 (spec_Sum.l0 kq l0 x3_1 x4_1 = some r) ∧ Aside0 (kq ≤ k) ∧ Drawn0 w w')
 case atStart => exact ⟨(14695981039346656037), (0), zr, zr, H', ⟨Nat.le_refl _⟩, by repeat (first | exact Drawn0.refl _ | apply Drawn0.step)⟩
 case round =>
  clear H'
  try clear c1
  obtain ⟨x3_1, x4_1, rfl, rfl, HA, HK1, ⟨m1, rfl⟩⟩ := hrel
  cases gk with
  | zero => exact absurd HA.out (by simp [spec_Sum.l0])
  | succ k1 =>
   have H := HA.out
   clear HA
   simp only [spec_Sum.l0] at H
   by_cases c2 : x4_1 < (l0.length : Int)
   ·rw [if_pos c2] at H
    have c2b0 := z1 c2
    clear c2
    by_cases c3 : 0 ≤ x4_1
    case neg => exact zno H c3
    rw [if_pos c3] at H
    have c3b0 := z1 c3
    clear c3
    have H' := zz H
    clear H
    have p175 : 0 ≤ (x4_1 : Int) := z2
    have q175 : x4_1 < (l0.length : Int) := z2
    obtain ⟨ad175, e175, hx175_0⟩ := Kd.at_int HR0.out x4_1 p175 q175
    cases e175
    replace p175 := eq_true p175
    replace q175 := eq_true q175
    go_wp2
    go_roundg k1
    case measure => have := HK1.out; omega
    case rel => exact ⟨(IntKind.u64.wrap ((Go.bits .xor .u64 x3_1 (IntKind.u64.wrap (rd l0 x4_1))) * 1099511628211)), (wrap64 (x4_1 + 1)), zr, zr, H', ⟨by have := HK1.out; omega⟩, by repeat (first | exact Drawn0.refl _ | apply Drawn0.step)⟩
   rw [if_neg c2] at H
   have c2b0 := z0 c2
   clear c2
   have H' := zz H
   clear H
   go_wp2
   go_loopg [3, 5] k1 (fun kq v3 v5 w' => ∃ (x3_2 : Int) (x5_2 : Int), v3 = .int .u64 x3_2 ∧ v5 = .int .i64 x5_2 ∧ Aside0 (spec_Sum.l1 kq x3_2 x5_2 = some r) ∧ Aside0 (kq ≤ k1) ∧ Drawn0 w w')
   case atStart => exact ⟨(x3_1), (0), zr, zr, H', ⟨Nat.le_refl _⟩, by repeat (first | exact Drawn0.refl _ | apply Drawn0.step)⟩
   case round =>
    clear H'
    try clear c1
    try clear p1
    try clear q1
    try clear hx1
    try clear c2
    try clear c2b0
    try clear p2
    try clear c3
    try clear c3b0
    try clear hx175_0
    try clear p175
    try clear q175
    obtain ⟨x3_2, x5_2, rfl, rfl, HA, HK2, ⟨m2, rfl⟩⟩ := hrel
    cases gk with
    | zero => exact absurd HA.out (by simp [spec_Sum.l1])
    | succ k2 =>
     have H := HA.out
     clear HA
     simp only [spec_Sum.l1] at H
     by_cases c4 : x5_2 < 3
     case neg =>
      rw [if_neg c4] at H
      have c4b0 := z0 c4
      clear c4
      obtain rfl := zi H
      go_wp2
      go_ret
      exact ⟨zr, by repeat (first | exact Drawn0.refl _ | apply Drawn0.step)⟩
     rw [if_pos c4] at H
     have c4b0 := z1 c4
     clear c4
     have H' := zz H
     clear H
     go_wp2
     go_roundg k2
     case measure => have := HK1.out; have := HK2.out; omega
     case rel => exact ⟨(IntKind.u64.wrap ((Go.bits .xor .u64 x3_2 (x3_2 / 536870912)) * 11400714819323198485)), (wrap64 (x5_2 + 1)), zr, zr, H', ⟨by have := HK1.out; have := HK2.out; omega⟩, by repeat (first | exact Drawn0.refl _ | apply Drawn0.step)⟩
def bytesI (s : ByteArray) : List Int := s.data.toList.map (fun b => ((b.toNat : Nat) : Int))
theorem bytesI_len (s : ByteArray) : (bytesI s).length = s.size := by rw [bytesI, List.length_map, Array.length_toList]; rfl
theorem conv_reads (w : World) (s : ByteArray) (hs : s.size < 140737488355328) : ReadsRow (fun (x : Int) cs => cs = [Value.int .u8 x]) 1 (Lib.bytesWorld w 5 s) (some ⟨w.heap.size, 0, none⟩) s.size (bytesI s) := by
 refine Kd.C_of_reads (enc := Value.int .u8) (d := (0 : Int)) (h1 := fun _ => rfl) ⟨bytesI_len s, by omega, fun _ => ⟨_, rfl, fun j hj => ?_⟩⟩
 have h1 : j < s.data.toList.length := by rw [Array.length_toList]; exact hj
 have h2 := Lib.bytesWorld_cell w 5 s j hj
 have h3 : (bytesI s).getD j 0 = ((s.data.toList.getD j 0).toNat : Int) := by
  simp only [bytesI, List.getD_eq_getElem?_getD, List.getElem?_map, List.getElem?_eq_getElem h1]
  rfl
 rw [h3]
 have ha : (⟨w.heap.size, 0, none⟩ : Addr).add j = ⟨w.heap.size, j, none⟩ := by unfold Addr.add; split <;> simp_all
 rw [ha]
 exact h2
def spec_l10Text.f (k : Nat) (l0 : List Int) (a1 : ByteArray) : Option (List Int) := (spec_l10Num.f k l0 (a1.size : Int)).bind fun y => if y.length + a1.size < 140737488355328 then some (y ++ bytesI a1) else none
theorem spec_l10Text.mono : ∀ a0 a1 k, LeO (spec_l10Text.f k a0 a1) (spec_l10Text.f (k + 1) a0 a1) := by
 intro a0 a1 k
 unfold spec_l10Text.f
 exact LeO.bind (spec_l10Num.mono _ _ _) (fun _ => LeO.refl _)
theorem spec_l10Text.calls (k : Nat) (P0_ : Nat → Prop) (u9000_ : Value) (l0 : List Int) (a1 : ByteArray) (r : List Int) (w0 w : World) (hB : Below w0.heap.size w0 w) (ho0 : Kd.R (Kd.int .u8) 5 w w0.heap.size P0_ u9000_ l0) (h : spec_l10Text.f k l0 a1 = some r) :
 Calls Tryz.prog 159 #[u9000_, .string a1] w fun e w' => ∃ v0_ : Value, e = .returned (v0_) ∧ Kd.R (Kd.int .u8) 5 w' w0.heap.size (fun k_ => (P0_ k_ ∨ w.heap.size ≤ k_)) v0_ r ∧ Below w0.heap.size w0 w' ∧ Kept w w' (fun k_ => P0_ k_) := by
 obtain ⟨y, A1, h⟩ := Option.bind_eq_some_iff.mp h
 split at h
 case isFalse => exact absurd h (by simp)
 case isTrue hs0 =>
 have hs := Aside0.mk hs0
 clear hs0
 obtain ⟨z, hz⟩ : ∃ z_, z_ = y ++ bytesI a1 := ⟨_, rfl⟩
 rw [← hz] at h
 obtain rfl := Option.some.inj h
 have Nz := Aside0.mk hz
 have A1 := Aside0.mk A1
 have HO0 := Aside0.mk ho0
 have HB := Aside0.mk hB
 clear h hz hB ho0
 go_enter Tryz.func159, Tryz.ntmps159
 go_wp2_with (first | ((with_reducible refine gate_callee (f := 158) rfl ?_); refine goesL_ (some 8) rfl rfl Tryz.func158 (by kernel_rfl) rfl #[u9000_, .int .i64 (a1.size : Int)] rfl (by (try simp only [List.map_toArray, List.map_cons, List.map_nil]); first | done | rfl) ?_; (with_reducible refine (spec_l10Num.calls k P0_ u9000_ l0 _ y w0 _ HB.out HO0.out A1.out).mono ?_); rintro e w1 ⟨v1, rfl, ho1, hb1, hk1⟩; refine ⟨_, rfl, ?_⟩; have hconv := Lib.run_convert_string_bytes (P := Tryz.prog) w1 9 133 5 a1 Tryz.underlying9 Tryz.underlying133 Tryz.underlying5; have n1_ := Aside0.mk ho1; have n2_ := Aside0.mk hb1; have n3_ := Aside0.mk hk1; clear ho1 hb1 hk1 HB HO0; have HO1 := n1_; have HB := n2_; have HK := n3_; clear n1_ n2_ n3_) | ((with_reducible refine gate_builtin (b := .append) (xs := #[.tmp 8, .tmp 10]) rfl ?_); at_builtin; refine Kd.R_append_rows (Kd.int .u8) (Rr := fun (x : Int) cs => cs = [Value.int .u8 x]) (w0 := w0) w0.heap.size rfl (.tmp 8) (.tmp 10) 133 5 (.int .u8 0) 1 rfl Tryz.underlying133 info5 rfl (by decide) (by omega) v1 y (bytesI a1) _ _ _ (fun k_ => (P0_ k_ ∨ w.heap.size ≤ k_)) (fun _ => False) rfl rfl (Kd.R_below HO1.out (bytes_below (Below.refl _ _) (Nat.le_refl _) 5 a1)) (conv_reads _ a1 (by have := hs.out; omega)) (fun _ _ h => h) (fun _ h => h.elim) ?aF ?aB ?aS ?aL ?_; (case aF => exact fun k_ hk => .inr (Nat.le_trans HK.out.1 (Nat.le_trans (bytes_below (Below.refl _ _) (Nat.le_refl _) 5 a1).size hk))); (case aB => exact below_step HB.out (bytes_below (Below.refl _ _) (Nat.le_refl _) 5 a1)); (case aS => exact (below_size (below_step HB.out (bytes_below (Below.refl _ _) (Nat.le_refl _) 5 a1)))); (case aL => have := hs.out; omega); intro v2 w2 ho hb hg hat; rw [← Nz.out] at ho; have n0_ := Aside0.mk hb; have n1_ := Aside0.mk (Kept.of_grown (S := (fun k_ => P0_ k_)) hg (Kept.below HK.out (bytes_below (Below.refl _ _) (Nat.le_refl _) 5 a1)) (fun k_ e_ => (HO1.out.1 k_ e_))); have n2_ := Aside0.mk ho; clear HB HK HO1; have HB := n0_; have HK := n1_; have HO2 := n2_; clear n0_ n1_ n2_; clear ho hb hg hat))
 go_ret
 exact ⟨_, by first | rfl | (simp [*]; done), HO2.out, HB.out, HK.out⟩
end Go.Proofs.YtcekmnclmldmmaaGreatDoor.Q
