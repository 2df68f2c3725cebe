import Derived.Test.YtcekmnclmldmmaaGreatDoorB18
import Derived.Test.YtcekmnclmldmmaaGreatDoorB12
set_option linter.unusedVariables false
set_option linter.unusedSimpArgs false
namespace Go.Proofs.YtcekmnclmldmmaaGreatDoor.Q
open Go.RowKit W1 W2 W3
attribute [local go_sem] max2_int min2_int max_two min_two max_three min_three max_four min_four
attribute [local go_sem high] bl_leq bl_gtr bl_geq
set_option maxHeartbeats 8000000
set_option maxRecDepth 100000
def spec_PackTree.l0 : Nat → List (S96) → List Int → Int → Option (List Int)
 | 0, _, _, _ => none
 | k + 1, x0, x3, x4 => if x4 < (x0.length : Int) then (if 0 ≤ x4 then (if (rd_T96 x0 x4).f3 = true then (if x3.length < 140737488355328 then ((spec_l10Text.f k (x3 ++ [(wrap64 (((rd_T96 x0 x4).f1) + 16)) % 256]) ((rd_T96 x0 x4).f0)).bind fun t198 => ((spec_l10Text.f k t198 ((rd_T96 x0 x4).f2)).bind fun t202 => (spec_PackTree.l0 k x0 t202 (wrap64 (x4 + 1))))) else (none)) else (if x3.length < 140737488355328 then ((spec_l10Text.f k (x3 ++ [((rd_T96 x0 x4).f1) % 256]) ((rd_T96 x0 x4).f0)).bind fun t209 => ((spec_l10Text.f k t209 ((rd_T96 x0 x4).f2)).bind fun t213 => (spec_PackTree.l0 k x0 t213 (wrap64 (x4 + 1))))) else (none))) else (none)) else (some x3)
def spec_PackTree.f (k : Nat) (l0 : List (S96)) : Option (List Int) := (spec_TreeOk.f k l0).bind fun t182 => (if t182 = true then ((spec_l10Num.f k (([76, 65, 82, 49] : List Int)) (l0.length : Int)).bind fun t189 => (spec_PackTree.l0 k l0 t189 0)) else (some (([] : List Int))))
theorem spec_PackTree.mono_l : ∀ k, (∀ y0 y1 y2, LeO (spec_PackTree.l0 k y0 y1 y2) (spec_PackTree.l0 (k + 1) y0 y1 y2))
 | 0 => fun _ _ _ r h => by simp [spec_PackTree.l0] at h
 | k + 1 => by
  have ih0 := spec_PackTree.mono_l k
  ·intro y0 y1 y2
   unfold spec_PackTree.l0
   have m0 := @spec_TreeOk.mono
   have m1 := @spec_l10Num.mono
   have m2 := @spec_l10Text.mono
   exact zM
theorem spec_PackTree.mono : ∀ a0 k, LeO (spec_PackTree.f k a0) (spec_PackTree.f (k + 1) a0) := by
 intro a0 k
 have ih0 := spec_PackTree.mono_l k
 unfold spec_PackTree.f
 have m0 := @spec_TreeOk.mono
 have m1 := @spec_l10Num.mono
 have m2 := @spec_l10Text.mono
 exact zM
def spec_PackTree.T11 : Bool × List (List Nat × List Nat) := (true, [([], []), ([], []), ([], []), ([1, 2], [1, 2]), ([3], [3]), ([4], [4]), ([0, 5], [0, 5]), ([], []), ([], []), ([7, 8], [7, 8]), ([9], [9]), ([10], [10]), ([6, 11, 6], [6, 11]), ([12, 12, 0, 1, 2, 3, 4, 5, 6, 7, 8, 9, 10, 11, 12], [0, 12])])
def spec_PackTree.B11 : List Nat := [0, 0, 0, 6, 14, 30, 63, 0, 0, 384, 896, 1920, 4095, 8191]
theorem spec_PackTree.tab11 : rtab .any (opsOf Tryz.f140 11) = spec_PackTree.T11 := by kernel_rfl
theorem spec_PackTree.bits11 : waitsOk spec_PackTree.T11.2 spec_PackTree.B11 = true := by kernel_rfl
theorem spec_PackTree.calls (k : Nat) (A0 : Option Addr) (c0 : Nat) (l0 : List (S96)) (r : List Int) (w : World) (hr0 : Kd.C k96 w A0 l0.length l0) (hc0 : l0.length ≤ c0) (h : spec_PackTree.f k l0 = some r) :
 Calls Tryz.prog 140 #[.slice A0 l0.length c0] w fun e w' => ∃ v0_ : Value, e = .returned (v0_) ∧ Kd.R (Kd.int .u8) 5 w' w.heap.size (fun _ => True) v0_ r ∧ Below w.heap.size w w' := by
 have HR0 := zz hr0
 have HC0 := zz hc0
 clear hr0 hc0
 have HB := zz (Below.refl w.heap.size w)
 unfold spec_PackTree.f at h
 have H := h
 clear h
 replace H := zf H
 obtain ⟨t182, A20, H⟩ := H
 try dsimp only at H
 have A2 := zz A20
 clear A20
 by_cases c3 : t182 = true
 case neg =>
  replace c3 := Bool.eq_false_iff.mpr c3
  subst c3
  rw [if_neg (show ¬ (false = true) by decide)] at H
  obtain ⟨y183, hy183⟩ : ∃ y_ : List Int, y_ = (([] : List Int)) := ⟨_, rfl⟩
  replace H : (some y183) = some r := by first | (rw [hy183]; with_reducible exact H) | (have H2_ := (Option.bind_some _ _).symm.trans H; rw [hy183]; with_reducible exact H2_) | (have H2_ := (Option.bind_some _ _).symm.trans H; with_reducible exact H2_) | with_reducible exact H | (rw [hy183]; exact H) | exact H
  have Ny183 := zz hy183
  clear hy183
  obtain rfl := zi H
  go_enter Tryz.func140, Tryz.ntmps140
  go_wp2_with (first | (refine zL 81 7 Tryz.func81 #[.slice A0 l0.length c0] ?_; (with_reducible refine (spec_TreeOk.calls k _ _ l0 false _ ?s1 ?s2 A2.out).mono ?_); (case s1 => exact zd HR0.out); (case s2 => exact HC0.out); rintro e w32 ⟨rfl, hb⟩; refine ⟨_, rfl, ?_⟩; replace HB := zz (zv zb hb); (try clear hb); (try clear hb2); (try clear hk); (try clear hi)) | (refine zN 9 ?_; refine Kd.R_lit (Kd.int .u8) _ 5 ?hg (N := 9) ?hd (xs := ([] : List Int)) (inner := []) (ok := fun _ => True) (okp := fun _ => True) ?hr ?hp (fun _ hk => hk) trivial (Below.refl _ _) (Nat.le_refl _) (by simp) ?_; (case hd => rfl); (case hg => rfl); (case hr => first | (go_simp; done) | (go_simp; rfl)); (case hp => exact (Reps.none _ _)); intro v184 w33 ho34 hb hg_ hnew_; clear hg_ hnew_; (first | rw [← Ny183.out] at ho34 | (simp only [Int.reduceToNat] at ho34; rw [← Ny183.out] at ho34)); have HO185 := zz (Kd.R_lower ho34 (below_size zb)); replace HB := zz (zv zb hb); clear hb ho34))
  go_ret
  exact ⟨_, ze, by (with_reducible repeat (first | apply Kd.R_alloc | apply Kd.R_drewN | apply Kd.R_drew)); exact HO185.out, zb⟩
 subst c3
 rw [if_pos rfl] at H
 obtain ⟨y186, hy186⟩ : ∃ y_ : List Int, y_ = (([76, 65, 82, 49] : List Int)) := ⟨_, rfl⟩
 replace H : ((spec_l10Num.f k y186 (l0.length : Int)).bind fun t189 => (spec_PackTree.l0 k l0 t189 0)) = some r := by first | (rw [hy186]; with_reducible exact H) | (have H2_ := (Option.bind_some _ _).symm.trans H; rw [hy186]; with_reducible exact H2_) | (have H2_ := (Option.bind_some _ _).symm.trans H; with_reducible exact H2_) | with_reducible exact H | (rw [hy186]; exact H) | exact H
 have Ny186 := zz hy186
 clear hy186
 replace H := zf H
 obtain ⟨t189, A40, H⟩ := H
 try dsimp only at H
 have A4 := zz A40
 clear A40
 have H' := zz H
 clear H
 go_enter Tryz.func140, Tryz.ntmps140
 go_wp2_with (first | (refine zL 81 7 Tryz.func81 #[.slice A0 l0.length c0] ?_; (with_reducible refine (spec_TreeOk.calls k _ _ l0 true _ ?s1 ?s2 A2.out).mono ?_); (case s1 => exact zd HR0.out); (case s2 => exact HC0.out); rintro e w5 ⟨rfl, hb⟩; refine ⟨_, rfl, ?_⟩; replace HB := zz (zv zb hb); (try clear hb); (try clear hb2); (try clear hk); (try clear hi)) | (refine zN 10 ?_; refine lar_event ?hg (N := 10) ?hd (cs := #[.int .u8 76, .int .u8 65, .int .u8 82, .int .u8 49]) (t := 5) ?hr ?_; (case hd => rfl); (case hg => rfl); (case hr => first | (go_simp; done) | (go_simp; rfl)); intro gl hgl w6 hlb hb; have n1_ := zz (zv zb hb); have hgl2 := zz (Nat.le_trans (below_size zb) hgl); have hlb2 := zz hlb; clear HB hb hgl hlb; have HB := n1_; clear n1_) | (refine zN 11 ?_; refine mark_event rfl rfl Tryz.underlying133 Tryz.underlying5 (g := gl) rfl hlb2.out ?_; intro w7 hlc hb; have n1_ := zz (HB.out.trans (hb.mono hgl2.out)); have hT := zz (show RT 5 w.heap.size w7 (.slice (some ⟨gl, 0, none⟩) 4 4) y186 by rw [Ny186.out]; exact .inr ⟨gl, rfl, _, _, _, hlc, rfl⟩); clear HB hb hlc hlb2; have HB := n1_; clear n1_) | (refine zL 158 14 Tryz.func158 #[.slice (some ⟨gl, 0, none⟩) 4 4, .int .i64 (l0.length : Int)] ?_; (with_reducible refine (spec_l10Num.lar k _ y186 _ _ w _ HB.out hT.out A4.out).mono ?_); rintro e w9 ⟨v190, rfl, ho0, hb⟩; refine ⟨_, rfl, ?_⟩; have n0_ := zz ho0; have n1_ := zz hb; clear HB; have HO191 := n0_; have HB := n1_; clear n0_ n1_ hb ho0))
 go_loopg [3, 4] k (fun kq v3 v4 w' => ∃ (x3_1 : List Int) (x4_1 : Int), v4 = .int .i64 x4_1 ∧ Aside0 (spec_PackTree.l0 kq l0 x3_1 x4_1 = some r) ∧ Aside0 (kq ≤ k) ∧ Aside0 (Kd.R (Kd.int .u8) 5 w' w.heap.size (fun _ => True) v3 x3_1) ∧ Aside0 (Below w.heap.size w w'))
 case atStart => exact ⟨(t189), (0), zr, H', ⟨Nat.le_refl _⟩, ⟨by (with_reducible repeat (first | apply Kd.R_alloc | apply Kd.R_drewN | apply Kd.R_drew)); exact HO191.out⟩, ⟨zb⟩⟩
 case round =>
  clear H'
  try clear c1
  try clear p2
  try clear c3
  try clear c8
  obtain ⟨x3_1, x4_1, rfl, HA, HK1, HO_3, HB⟩ := hrel
  cases gk with
  | zero => exact absurd HA.out (by simp [spec_PackTree.l0])
  | succ k1 =>
   have H := HA.out
   clear HA
   simp only [spec_PackTree.l0] at H
   by_cases c10 : x4_1 < (l0.length : Int)
   case neg =>
    rw [if_neg c10] at H
    have c10b0 := z0 c10
    clear c10
    obtain rfl := zi H
    go_wp2
    go_ret
    exact ⟨_, ze, by (with_reducible repeat (first | apply Kd.R_alloc | apply Kd.R_drewN | apply Kd.R_drew)); exact HO_3.out, zb⟩
   rw [if_pos c10] at H
   have c10b0 := z1 c10
   clear c10
   by_cases c11 : 0 ≤ x4_1
   case neg => exact zno H c11
   rw [if_pos c11] at H
   have c11b0 := z1 c11
   clear c11
   obtain ⟨bq12, hbq12⟩ : ∃ b_ : Bool, b_ = ((rd_T96 l0 x4_1).f3) := ⟨_, rfl⟩
   replace H : (if bq12 = true then (if x3_1.length < 140737488355328 then ((spec_l10Text.f k1 (x3_1 ++ [(wrap64 (((rd_T96 l0 x4_1).f1) + 16)) % 256]) ((rd_T96 l0 x4_1).f0)).bind fun t198 => ((spec_l10Text.f k1 t198 ((rd_T96 l0 x4_1).f2)).bind fun t202 => (spec_PackTree.l0 k1 l0 t202 (wrap64 (x4_1 + 1))))) else (none)) else (if x3_1.length < 140737488355328 then ((spec_l10Text.f k1 (x3_1 ++ [((rd_T96 l0 x4_1).f1) % 256]) ((rd_T96 l0 x4_1).f0)).bind fun t209 => ((spec_l10Text.f k1 t209 ((rd_T96 l0 x4_1).f2)).bind fun t213 => (spec_PackTree.l0 k1 l0 t213 (wrap64 (x4_1 + 1))))) else (none))) = some r := by rw [← hbq12] at H; exact H
   have Nbq12 := zz hbq12
   clear hbq12
   by_cases c13 : bq12 = true
   ·subst c13
    rw [if_pos rfl] at H
    by_cases c14 : x3_1.length < 140737488355328
    case neg => exact zno H c14
    rw [if_pos c14] at H
    have LMc14 := zz c14
    clear c14
    obtain ⟨y194, hy194⟩ : ∃ y_ : List Int, y_ = (x3_1 ++ [(wrap64 (((rd_T96 l0 x4_1).f1) + 16)) % 256]) := ⟨_, rfl⟩
    replace H : ((spec_l10Text.f k1 y194 ((rd_T96 l0 x4_1).f0)).bind fun t198 => ((spec_l10Text.f k1 t198 ((rd_T96 l0 x4_1).f2)).bind fun t202 => (spec_PackTree.l0 k1 l0 t202 (wrap64 (x4_1 + 1))))) = some r := by first | (rw [hy194]; with_reducible exact H) | (have H2_ := (Option.bind_some _ _).symm.trans H; rw [hy194]; with_reducible exact H2_) | (have H2_ := (Option.bind_some _ _).symm.trans H; with_reducible exact H2_) | with_reducible exact H | (rw [hy194]; exact H) | exact H
    have Ny194 := zz hy194
    clear hy194
    replace H := zf H
    obtain ⟨t198, A150, H⟩ := H
    try dsimp only at H
    have A15 := zz A150
    clear A150
    replace H := zf H
    obtain ⟨t202, A160, H⟩ := H
    try dsimp only at H
    have A16 := zz A160
    clear A160
    have H' := zz H
    clear H
    have p192 : 0 ≤ (x4_1 : Int) := z2
    have q192 : x4_1 < (l0.length : Int) := z2
    obtain ⟨ad192, e192, hx192_0, hx192_1, hx192_2, hx192_3⟩ := at_T96 HR0.out x4_1 p192 q192
    (try rw [← Nbq12.out] at hx192_3); (try rw [← Nbq12.out] at hw192_3)
    cases e192
    replace hx192_0 := z3 HB.out hx192_0
    replace hx192_1 := z3 HB.out hx192_1
    replace hx192_2 := z3 HB.out hx192_2
    replace hx192_3 := z3 HB.out hx192_3
    replace p192 := eq_true p192
    replace q192 := eq_true q192
    have p193 : 0 ≤ (x4_1 : Int) := z2
    have q193 : x4_1 < (l0.length : Int) := z2
    obtain ⟨ad193, e193, hx193_0, hx193_1, hx193_2, hx193_3⟩ := at_T96 HR0.out x4_1 p193 q193
    (try rw [← Nbq12.out] at hx193_3); (try rw [← Nbq12.out] at hw193_3)
    obtain rfl : ad192 = ad193 := (by injection e193)
    replace hx193_0 := z3 HB.out hx193_0
    replace hx193_1 := z3 HB.out hx193_1
    replace hx193_2 := z3 HB.out hx193_2
    replace hx193_3 := z3 HB.out hx193_3
    replace p193 := eq_true p193
    replace q193 := eq_true q193
    try go_wp2_with (first | ((with_reducible refine gate_builtin (b := .append) (xs := #[.tmp 33, .tmp 36]) rfl ?_); at_builtin; refine Kd.R_append (Kd.int .u8) (w0 := w) w.heap.size rfl (.tmp 33) (.tmp 36) 133 5 (.int .u8 0) 1 rfl Tryz.underlying133 info5 rfl (by decide) (by omega) u3 x3_1 ((wrap64 (((rd_T96 l0 x4_1).f1) + 16)) % 256) [.int .u8 ((wrap64 (((rd_T96 l0 x4_1).f1) + 16)) % 256)] (fun _ => True) (fun _ => False) rfl rfl ?aP (fun _ hk => hk.elim) ?aF ?aO ?aB ?aS ?aL ?_; (case aP => exact rfl); (case aB => exact zb); (case aF => exact (fun _ _ => trivial)); (case aO => exact (zR HO_3.out)); (case aS => exact (below_size zb)); (case aL => have := LMc14.out; omega); intro v195 w17 ho hb hg hat; rw [← Ny194.out] at ho; replace HB := zz (hb); have HO196 := zz (ho); clear HO_3; clear ho hb hg hat))
    replace HO196 := zz (Kd.R_drew HO196.out)
    replace HB := zz (below_drew1 HB.out)
    have p197 : 0 ≤ (x4_1 : Int) := z2
    have q197 : x4_1 < (l0.length : Int) := z2
    obtain ⟨ad197, e197, hx197_0, hx197_1, hx197_2, hx197_3⟩ := at_T96 HR0.out x4_1 p197 q197
    have hw197_3 := hx197_3
    have hw197_2 := hx197_2
    have hw197_1 := hx197_1
    have hw197_0 := hx197_0
    (try rw [← Nbq12.out] at hx197_3); (try rw [← Nbq12.out] at hw197_3)
    obtain rfl : ad192 = ad197 := (by injection e197)
    replace hx197_0 := z3 HB.out hx197_0
    replace hx197_1 := z3 HB.out hx197_1
    replace hx197_2 := z3 HB.out hx197_2
    replace hx197_3 := z3 HB.out hx197_3
    replace p197 := eq_true p197
    replace q197 := eq_true q197
    have p201 : 0 ≤ (x4_1 : Int) := z2
    have q201 : x4_1 < (l0.length : Int) := z2
    obtain ⟨ad201, e201, hx201_0, hx201_1, hx201_2, hx201_3⟩ := at_T96 HR0.out x4_1 p201 q201
    have hw201_3 := hx201_3
    have hw201_2 := hx201_2
    have hw201_1 := hx201_1
    have hw201_0 := hx201_0
    (try rw [← Nbq12.out] at hx201_3); (try rw [← Nbq12.out] at hw201_3)
    obtain rfl : ad192 = ad201 := (by injection e201)
    replace hx201_0 := z3 HB.out hx201_0
    replace hx201_1 := z3 HB.out hx201_1
    replace hx201_2 := z3 HB.out hx201_2
    replace hx201_3 := z3 HB.out hx201_3
    replace p201 := eq_true p201
    replace q201 := eq_true q201
    obtain ⟨Ao19, co19, eo19⟩ := Kd.R_slice HO196.out
    (first | subst eo19 | (injection eo19 with f1_ f2_ f3_; have f4_ := f1_.symm; have f5_ := f3_.symm; clear f1_ f2_ f3_; subst f4_; subst f5_))
    refine start_ (n := 14) (S := fun w' => w'.cell? (ad192.add ((x4_1).toNat * 4)) = some (.string ((rd_T96 l0 x4_1).f0)) ∧ w'.cell? ⟨(ad192.add ((x4_1).toNat * 4)).block, (ad192.add ((x4_1).toNat * 4)).off + 1, none⟩ = some (.int .i64 ((rd_T96 l0 x4_1).f1)) ∧ w'.cell? ⟨(ad192.add ((x4_1).toNat * 4)).block, (ad192.add ((x4_1).toNat * 4)).off + 2, none⟩ = some (.string ((rd_T96 l0 x4_1).f2)) ∧ w'.cell? ⟨(ad192.add ((x4_1).toNat * 4)).block, (ad192.add ((x4_1).toNat * 4)).off + 3, none⟩ = some (.bool (true)) ∧ w'.cell? (ad192.add ((x4_1).toNat * 4)) = some (.string ((rd_T96 l0 x4_1).f0)) ∧ w'.cell? ⟨(ad192.add ((x4_1).toNat * 4)).block, (ad192.add ((x4_1).toNat * 4)).off + 1, none⟩ = some (.int .i64 ((rd_T96 l0 x4_1).f1)) ∧ w'.cell? ⟨(ad192.add ((x4_1).toNat * 4)).block, (ad192.add ((x4_1).toNat * 4)).off + 2, none⟩ = some (.string ((rd_T96 l0 x4_1).f2)) ∧ w'.cell? ⟨(ad192.add ((x4_1).toNat * 4)).block, (ad192.add ((x4_1).toNat * 4)).off + 3, none⟩ = some (.bool (true))) (ds := []) (bp 0 14) zk rfl rfl ⟨(z3 HB.out hw197_0), (z3 HB.out hw197_1), (z3 HB.out hw197_2), (z3 HB.out hw197_3), (z3 HB.out hw201_0), (z3 HB.out hw201_1), (z3 HB.out hw201_2), (z3 HB.out hw201_3)⟩ (fun hHeld => ?_); refine with_tabW spec_PackTree.tab11 spec_PackTree.bits11 (fun HT_ HW_ => ?_)
    generalize w17.drew = w18 at HO196 HB hx197_0 hx197_1 hx197_2 hx197_3 hx201_0 hx201_1 hx201_2 hx201_3 hHeld ⊢
    refine zp 0 38 (bp 1 13) ?_
    refine zp 1 39 (bp 2 12) ?_
    refine zp 2 40 (bp 3 11) ?_
    refine zp 3 41 (bp 4 10) ?_
    refine zp 4 42 (bp 5 9) ?_
    refine zp 7 45 (bm 14 159) ?_
    refine zp 8 46 (bm 14 415) ?_
    refine zp 9 47 (bm 14 927) ?_
    refine zp 10 48 (bm 14 1951) ?_
    refine zt 5 43 (bm 14 1983) ?_
    refine zt 11 49 (bm 14 4031) ?_
    refine zo 6 44 (bp 12 2) fun K hK => ?_
    refine zh Tryz.func159 #[.slice Ao19 y194.length co19, .string ((rd_T96 l0 x4_1).f0)] ?_
    with_reducible refine (spec_l10Text.calls k1 (fun k_ => some k_ = (.slice Ao19 y194.length co19 : Value).ownBlock) (.slice Ao19 y194.length co19) y194 ((rd_T96 l0 x4_1).f0) t198 w _ ?s1 ?s2 A15.out).mono ?_
    (case s1 => repeat (first | (with_reducible first | exact HB.out | apply below_alloc | apply pw_below_drewN | apply below_drew1) | exact HB.out))
    (case s2 => exact Kd.R_tight rfl HO196.out)
    rintro e w20 ⟨v199, rfl, ho0, hb, hkp⟩
    refine ⟨_, rfl, ?_⟩
    have HO200 := zz (Kd.R_mono (ok' := fun k_ => True) ho0 (fun k_ hk_ => trivial))
    replace HB := zz (hb)
    clear HO196
    (try clear hb)
    (try clear hkp)
    (try clear ho0)
    obtain ⟨Ao21, co21, eo21⟩ := Kd.R_slice HO200.out
    (first | subst eo21 | (injection eo21 with f1_ f2_ f3_; have f4_ := f1_.symm; have f5_ := f3_.symm; clear f1_ f2_ f3_; subst f4_; subst f5_))
    refine hK.out _ _ ⟨(z3 HB.out hw197_0), (z3 HB.out hw197_1), (z3 HB.out hw197_2), (z3 HB.out hw197_3), (z3 HB.out hw201_0), (z3 HB.out hw201_1), (z3 HB.out hw201_2), (z3 HB.out hw201_3)⟩ (fun hHeld => ?_)
    clear hK K
    refine zn 44 ?_
    refine zo 12 50 (bp 13 1) fun K hK => ?_
    refine zh Tryz.func159 #[.slice Ao21 t198.length co21, .string ((rd_T96 l0 x4_1).f2)] ?_
    with_reducible refine (spec_l10Text.calls k1 (fun k_ => some k_ = (.slice Ao21 t198.length co21 : Value).ownBlock) (.slice Ao21 t198.length co21) t198 ((rd_T96 l0 x4_1).f2) t202 w _ ?s1 ?s2 A16.out).mono ?_
    (case s1 => repeat (first | (with_reducible first | exact HB.out | apply below_alloc | apply pw_below_drewN | apply below_drew1) | exact HB.out))
    (case s2 => exact Kd.R_tight rfl HO200.out)
    rintro e w22 ⟨v203, rfl, ho0, hb, hkp⟩
    refine ⟨_, rfl, ?_⟩
    have HO204 := zz (Kd.R_mono (ok' := fun k_ => True) ho0 (fun k_ hk_ => trivial))
    replace HB := zz (hb)
    clear HO200
    (try clear hb)
    (try clear hkp)
    (try clear ho0)
    refine hK.out _ _ ⟨(z3 HB.out hw197_0), (z3 HB.out hw197_1), (z3 HB.out hw197_2), (z3 HB.out hw197_3), (z3 HB.out hw201_0), (z3 HB.out hw201_1), (z3 HB.out hw201_2), (z3 HB.out hw201_3)⟩ (fun hHeld => ?_)
    clear hK K
    refine zn 50 ?_
    refine zp 13 3 (bp 14 0) ?_
    refine done_ (done_of HT_.out zk) ?_
    try go_wp2
    go_roundg k1
    case measure => have := HK1.out; omega
    case rel => exact ⟨(t202), (wrap64 (x4_1 + 1)), zr, H', ⟨by have := HK1.out; omega⟩, ⟨by (with_reducible repeat (first | apply Kd.R_alloc | apply Kd.R_drewN | apply Kd.R_drew)); exact HO204.out⟩, ⟨zb⟩⟩
   replace c13 := Bool.eq_false_iff.mpr c13
   subst c13
   rw [if_neg (show ¬ (false = true) by decide)] at H
   by_cases c23 : x3_1.length < 140737488355328
   case neg => exact zno H c23
   rw [if_pos c23] at H
   have LMc23 := zz c23
   clear c23
   obtain ⟨y205, hy205⟩ : ∃ y_ : List Int, y_ = (x3_1 ++ [((rd_T96 l0 x4_1).f1) % 256]) := ⟨_, rfl⟩
   replace H : ((spec_l10Text.f k1 y205 ((rd_T96 l0 x4_1).f0)).bind fun t209 => ((spec_l10Text.f k1 t209 ((rd_T96 l0 x4_1).f2)).bind fun t213 => (spec_PackTree.l0 k1 l0 t213 (wrap64 (x4_1 + 1))))) = some r := by first | (rw [hy205]; with_reducible exact H) | (have H2_ := (Option.bind_some _ _).symm.trans H; rw [hy205]; with_reducible exact H2_) | (have H2_ := (Option.bind_some _ _).symm.trans H; with_reducible exact H2_) | with_reducible exact H | (rw [hy205]; exact H) | exact H
   have Ny205 := zz hy205
   clear hy205
   replace H := zf H
   obtain ⟨t209, A240, H⟩ := H
   try dsimp only at H
   have A24 := zz A240
   clear A240
   replace H := zf H
   obtain ⟨t213, A250, H⟩ := H
   try dsimp only at H
   have A25 := zz A250
   clear A250
   have H' := zz H
   clear H
   have p192 : 0 ≤ (x4_1 : Int) := z2
   have q192 : x4_1 < (l0.length : Int) := z2
   obtain ⟨ad192, e192, hx192_0, hx192_1, hx192_2, hx192_3⟩ := at_T96 HR0.out x4_1 p192 q192
   (try rw [← Nbq12.out] at hx192_3); (try rw [← Nbq12.out] at hw192_3)
   cases e192
   replace hx192_0 := z3 HB.out hx192_0
   replace hx192_1 := z3 HB.out hx192_1
   replace hx192_2 := z3 HB.out hx192_2
   replace hx192_3 := z3 HB.out hx192_3
   replace p192 := eq_true p192
   replace q192 := eq_true q192
   have p193 : 0 ≤ (x4_1 : Int) := z2
   have q193 : x4_1 < (l0.length : Int) := z2
   obtain ⟨ad193, e193, hx193_0, hx193_1, hx193_2, hx193_3⟩ := at_T96 HR0.out x4_1 p193 q193
   (try rw [← Nbq12.out] at hx193_3); (try rw [← Nbq12.out] at hw193_3)
   obtain rfl : ad192 = ad193 := (by injection e193)
   replace hx193_0 := z3 HB.out hx193_0
   replace hx193_1 := z3 HB.out hx193_1
   replace hx193_2 := z3 HB.out hx193_2
   replace hx193_3 := z3 HB.out hx193_3
   replace p193 := eq_true p193
   replace q193 := eq_true q193
   try go_wp2_with (first | ((with_reducible refine gate_builtin (b := .append) (xs := #[.tmp 33, .tmp 36]) rfl ?_); at_builtin; refine Kd.R_append (Kd.int .u8) (w0 := w) w.heap.size rfl (.tmp 33) (.tmp 36) 133 5 (.int .u8 0) 1 rfl Tryz.underlying133 info5 rfl (by decide) (by omega) u3 x3_1 (((rd_T96 l0 x4_1).f1) % 256) [.int .u8 (((rd_T96 l0 x4_1).f1) % 256)] (fun _ => True) (fun _ => False) rfl rfl ?aP (fun _ hk => hk.elim) ?aF ?aO ?aB ?aS ?aL ?_; (case aP => exact rfl); (case aB => exact zb); (case aF => exact (fun _ _ => trivial)); (case aO => exact (zR HO_3.out)); (case aS => exact (below_size zb)); (case aL => have := LMc23.out; omega); intro v206 w26 ho hb hg hat; rw [← Ny205.out] at ho; replace HB := zz (hb); have HO207 := zz (ho); clear HO_3; clear ho hb hg hat))
   replace HO207 := zz (Kd.R_drew HO207.out)
   replace HB := zz (below_drew1 HB.out)
   have p208 : 0 ≤ (x4_1 : Int) := z2
   have q208 : x4_1 < (l0.length : Int) := z2
   obtain ⟨ad208, e208, hx208_0, hx208_1, hx208_2, hx208_3⟩ := at_T96 HR0.out x4_1 p208 q208
   have hw208_3 := hx208_3
   have hw208_2 := hx208_2
   have hw208_1 := hx208_1
   have hw208_0 := hx208_0
   (try rw [← Nbq12.out] at hx208_3); (try rw [← Nbq12.out] at hw208_3)
   obtain rfl : ad192 = ad208 := (by injection e208)
   replace hx208_0 := z3 HB.out hx208_0
   replace hx208_1 := z3 HB.out hx208_1
   replace hx208_2 := z3 HB.out hx208_2
   replace hx208_3 := z3 HB.out hx208_3
   replace p208 := eq_true p208
   replace q208 := eq_true q208
   have p212 : 0 ≤ (x4_1 : Int) := z2
   have q212 : x4_1 < (l0.length : Int) := z2
   obtain ⟨ad212, e212, hx212_0, hx212_1, hx212_2, hx212_3⟩ := at_T96 HR0.out x4_1 p212 q212
   have hw212_3 := hx212_3
   have hw212_2 := hx212_2
   have hw212_1 := hx212_1
   have hw212_0 := hx212_0
   (try rw [← Nbq12.out] at hx212_3); (try rw [← Nbq12.out] at hw212_3)
   obtain rfl : ad192 = ad212 := (by injection e212)
   replace hx212_0 := z3 HB.out hx212_0
   replace hx212_1 := z3 HB.out hx212_1
   replace hx212_2 := z3 HB.out hx212_2
   replace hx212_3 := z3 HB.out hx212_3
   replace p212 := eq_true p212
   replace q212 := eq_true q212
   obtain ⟨Ao28, co28, eo28⟩ := Kd.R_slice HO207.out
   (first | subst eo28 | (injection eo28 with f1_ f2_ f3_; have f4_ := f1_.symm; have f5_ := f3_.symm; clear f1_ f2_ f3_; subst f4_; subst f5_))
   refine start_ (n := 14) (S := fun w' => w'.cell? (ad192.add ((x4_1).toNat * 4)) = some (.string ((rd_T96 l0 x4_1).f0)) ∧ w'.cell? ⟨(ad192.add ((x4_1).toNat * 4)).block, (ad192.add ((x4_1).toNat * 4)).off + 1, none⟩ = some (.int .i64 ((rd_T96 l0 x4_1).f1)) ∧ w'.cell? ⟨(ad192.add ((x4_1).toNat * 4)).block, (ad192.add ((x4_1).toNat * 4)).off + 2, none⟩ = some (.string ((rd_T96 l0 x4_1).f2)) ∧ w'.cell? ⟨(ad192.add ((x4_1).toNat * 4)).block, (ad192.add ((x4_1).toNat * 4)).off + 3, none⟩ = some (.bool (false)) ∧ w'.cell? (ad192.add ((x4_1).toNat * 4)) = some (.string ((rd_T96 l0 x4_1).f0)) ∧ w'.cell? ⟨(ad192.add ((x4_1).toNat * 4)).block, (ad192.add ((x4_1).toNat * 4)).off + 1, none⟩ = some (.int .i64 ((rd_T96 l0 x4_1).f1)) ∧ w'.cell? ⟨(ad192.add ((x4_1).toNat * 4)).block, (ad192.add ((x4_1).toNat * 4)).off + 2, none⟩ = some (.string ((rd_T96 l0 x4_1).f2)) ∧ w'.cell? ⟨(ad192.add ((x4_1).toNat * 4)).block, (ad192.add ((x4_1).toNat * 4)).off + 3, none⟩ = some (.bool (false))) (ds := []) (bp 0 14) zk rfl rfl ⟨(z3 HB.out hw208_0), (z3 HB.out hw208_1), (z3 HB.out hw208_2), (z3 HB.out hw208_3), (z3 HB.out hw212_0), (z3 HB.out hw212_1), (z3 HB.out hw212_2), (z3 HB.out hw212_3)⟩ (fun hHeld => ?_); refine with_tabW spec_PackTree.tab11 spec_PackTree.bits11 (fun HT_ HW_ => ?_)
   generalize w26.drew = w27 at HO207 HB hx208_0 hx208_1 hx208_2 hx208_3 hx212_0 hx212_1 hx212_2 hx212_3 hHeld ⊢
   refine zp 0 38 (bp 1 13) ?_
   refine zp 1 39 (bp 2 12) ?_
   refine zp 2 40 (bp 3 11) ?_
   refine zp 3 41 (bp 4 10) ?_
   refine zp 4 42 (bp 5 9) ?_
   refine zp 7 45 (bm 14 159) ?_
   refine zp 8 46 (bm 14 415) ?_
   refine zp 9 47 (bm 14 927) ?_
   refine zp 10 48 (bm 14 1951) ?_
   refine zt 5 43 (bm 14 1983) ?_
   refine zt 11 49 (bm 14 4031) ?_
   refine zo 6 44 (bp 12 2) fun K hK => ?_
   refine zh Tryz.func159 #[.slice Ao28 y205.length co28, .string ((rd_T96 l0 x4_1).f0)] ?_
   with_reducible refine (spec_l10Text.calls k1 (fun k_ => some k_ = (.slice Ao28 y205.length co28 : Value).ownBlock) (.slice Ao28 y205.length co28) y205 ((rd_T96 l0 x4_1).f0) t209 w _ ?s1 ?s2 A24.out).mono ?_
   (case s1 => repeat (first | (with_reducible first | exact HB.out | apply below_alloc | apply pw_below_drewN | apply below_drew1) | exact HB.out))
   (case s2 => exact Kd.R_tight rfl HO207.out)
   rintro e w29 ⟨v210, rfl, ho0, hb, hkp⟩
   refine ⟨_, rfl, ?_⟩
   have HO211 := zz (Kd.R_mono (ok' := fun k_ => True) ho0 (fun k_ hk_ => trivial))
   replace HB := zz (hb)
   clear HO207
   (try clear hb)
   (try clear hkp)
   (try clear ho0)
   obtain ⟨Ao30, co30, eo30⟩ := Kd.R_slice HO211.out
   (first | subst eo30 | (injection eo30 with f1_ f2_ f3_; have f4_ := f1_.symm; have f5_ := f3_.symm; clear f1_ f2_ f3_; subst f4_; subst f5_))
   refine hK.out _ _ ⟨(z3 HB.out hw208_0), (z3 HB.out hw208_1), (z3 HB.out hw208_2), (z3 HB.out hw208_3), (z3 HB.out hw212_0), (z3 HB.out hw212_1), (z3 HB.out hw212_2), (z3 HB.out hw212_3)⟩ (fun hHeld => ?_)
   clear hK K
   refine zn 44 ?_
   refine zo 12 50 (bp 13 1) fun K hK => ?_
   refine zh Tryz.func159 #[.slice Ao30 t209.length co30, .string ((rd_T96 l0 x4_1).f2)] ?_
   with_reducible refine (spec_l10Text.calls k1 (fun k_ => some k_ = (.slice Ao30 t209.length co30 : Value).ownBlock) (.slice Ao30 t209.length co30) t209 ((rd_T96 l0 x4_1).f2) t213 w _ ?s1 ?s2 A25.out).mono ?_
   (case s1 => repeat (first | (with_reducible first | exact HB.out | apply below_alloc | apply pw_below_drewN | apply below_drew1) | exact HB.out))
   (case s2 => exact Kd.R_tight rfl HO211.out)
   rintro e w31 ⟨v214, rfl, ho0, hb, hkp⟩
   refine ⟨_, rfl, ?_⟩
   have HO215 := zz (Kd.R_mono (ok' := fun k_ => True) ho0 (fun k_ hk_ => trivial))
   replace HB := zz (hb)
   clear HO211
   (try clear hb)
   (try clear hkp)
   (try clear ho0)
   refine hK.out _ _ ⟨(z3 HB.out hw208_0), (z3 HB.out hw208_1), (z3 HB.out hw208_2), (z3 HB.out hw208_3), (z3 HB.out hw212_0), (z3 HB.out hw212_1), (z3 HB.out hw212_2), (z3 HB.out hw212_3)⟩ (fun hHeld => ?_)
   clear hK K
   refine zn 50 ?_
   refine zp 13 3 (bp 14 0) ?_
   refine done_ (done_of HT_.out zk) ?_
   try go_wp2
   go_roundg k1
   case measure => have := HK1.out; omega
   case rel => exact ⟨(t213), (wrap64 (x4_1 + 1)), zr, H', ⟨by have := HK1.out; omega⟩, ⟨by (with_reducible repeat (first | apply Kd.R_alloc | apply Kd.R_drewN | apply Kd.R_drew)); exact HO215.out⟩, ⟨zb⟩⟩
def spec_TreeSum.f (k : Nat) (l0 : List (S96)) : Option (ByteArray) := (spec_TreeOk.f k l0).bind fun t216 => (if t216 = true then ((spec_PackTree.f k l0).bind fun t217 => ((spec_Sum.f k t217).bind fun t220 => ((spec_Word32.f k t220).bind fun t221 => (some t221)))) else (some (⟨#[]⟩ : ByteArray)))
theorem spec_TreeSum.mono : ∀ a0 k, LeO (spec_TreeSum.f k a0) (spec_TreeSum.f (k + 1) a0) := by
 intro a0 k
 unfold spec_TreeSum.f
 have m0 := @spec_PackTree.mono
 have m1 := @spec_Sum.mono
 have m2 := @spec_TreeOk.mono
 have m3 := @spec_Word32.mono
 exact zM
theorem spec_TreeSum.calls (k : Nat) (A0 : Option Addr) (c0 : Nat) (l0 : List (S96)) (r : ByteArray) (w : World) (hr0 : Kd.C k96 w A0 l0.length l0) (hc0 : l0.length ≤ c0) (h : spec_TreeSum.f k l0 = some r) :
 Calls Tryz.prog 116 #[.slice A0 l0.length c0] w fun e w' => e = .returned (.string r) ∧ Below w.heap.size w w' := by
 have HR0 := zz hr0
 have HC0 := zz hc0
 clear hr0 hc0
 have HB := zz (Below.refl w.heap.size w)
 unfold spec_TreeSum.f at h
 have H := h
 clear h
 replace HB := HB.out
 have HW := zz (Below.refl w.heap.size w)
 go_enter Tryz.func116, Tryz.ntmps116
 replace H := zf H
 obtain ⟨t216, A2, H⟩ := H
 try dsimp only at H
 replace A2 := zz A2
 by_cases c3 : t216 = true
 case neg =>
  replace c3 := Bool.eq_false_iff.mpr c3
  subst c3
  rw [if_neg (by decide)] at H
  go_wp2_with (fail)
  refine (spec_TreeOk.calls k _ _ _ _ _ (Kd.C_below HR0.out HB) HC0.out A2.out).mono ?_
  rintro e w15 ⟨rfl, hb⟩
  replace HB := zv HB hb
  clear hb
  obtain rfl := zi H
  go_wp2_with (fail)
  go_ret
  exact ⟨ze, zv HW.out HB⟩
 subst c3
 rw [if_pos rfl] at H
 go_wp2_with (fail)
 refine (spec_TreeOk.calls k _ _ _ _ _ (Kd.C_below HR0.out HB) HC0.out A2.out).mono ?_
 rintro e w5 ⟨rfl, hb⟩
 replace HB := zv HB hb
 clear hb
 replace H := zf H
 obtain ⟨t217, A6, H⟩ := H
 try dsimp only at H
 replace A6 := zz A6
 go_wp2_with (fail)
 refine (spec_PackTree.calls k _ _ _ _ _ (Kd.C_below HR0.out HB) HC0.out A6.out).mono ?_
 rintro e w7 ⟨vHO219, rfl, hHO219, hb⟩
 replace HB := zv HB hb
 clear hb
 have hst := HB
 replace HW := zz (zv HW.out hst)
 replace HR0 := zz (Kd.C_below HR0.out hst)
 clear hst
 replace HB := Below.refl w7.heap.size w7
 obtain ⟨AHRo8, cHRo8, rfl, hl_, hC_⟩ := Kd.R_reads hHO219
 have HRo8 := zz hC_
 have HCo8 := zz hl_
 clear hl_ hC_ hHO219
 replace H := zf H
 obtain ⟨t220, A9, H⟩ := H
 try dsimp only at H
 replace A9 := zz A9
 go_wp2_with (fail)
 refine (spec_Sum.calls k _ _ _ _ _ (Kd.C_below HRo8.out HB) HCo8.out A9.out).mono ?_
 rintro e w10 ⟨rfl, hd⟩
 replace HB := zv HB hd.below
 clear hd
 replace H := zf H
 obtain ⟨t221, A11, H⟩ := H
 try dsimp only at H
 replace A11 := zz A11
 go_wp2_with (fail)
 refine (spec_Word32.calls k _ _ _  A11.out).mono ?_
 rintro e w13 ⟨rfl, hb⟩
 replace HB := zv HB hb
 clear hb
 obtain rfl := zi H
 go_wp2_with (fail)
 go_ret
 exact ⟨ze, zv HW.out HB⟩
end Go.Proofs.YtcekmnclmldmmaaGreatDoor.Q
