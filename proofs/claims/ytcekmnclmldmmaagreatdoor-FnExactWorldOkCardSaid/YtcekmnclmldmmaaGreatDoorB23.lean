import Derived.Test.YtcekmnclmldmmaaGreatDoorB22
import Derived.Test.YtcekmnclmldmmaaGreatDoorB07
set_option linter.unusedVariables false
set_option linter.unusedSimpArgs false
namespace Go.Proofs.YtcekmnclmldmmaaGreatDoor.Q
open Go.RowKit W1 W2 W3
attribute [local go_sem] max2_int min2_int max_two min_two max_three min_three max_four min_four
attribute [local go_sem high] bl_leq bl_gtr bl_geq
set_option maxHeartbeats 8000000
set_option maxRecDepth 100000
def spec_l10Has.l0 : Nat → ByteArray → ByteArray → Int → Option (Bool)
 | 0, _, _, _ => none
 | k + 1, x0, x1, x5 => if (wrap64 (x5 + (x1.size : Int))) ≤ (x0.size : Int) then (if 0 ≤ x5 then (if x5 ≤ (wrap64 (x5 + (x1.size : Int))) then (if (x0.extract (x5 : Int).toNat ((wrap64 (x5 + (x1.size : Int))) : Int).toNat).toList = x1.toList then (some true) else (spec_l10Has.l0 k x0 x1 (wrap64 (x5 + 1)))) else (none)) else (none)) else (some false)
def spec_l10Has.f (k : Nat) (a0 : ByteArray) (a1 : ByteArray) : Option (Bool) := spec_l10Has.l0 k a0 a1 0
theorem spec_l10Has.mono_l : ∀ k, (∀ y0 y1 y2, LeO (spec_l10Has.l0 k y0 y1 y2) (spec_l10Has.l0 (k + 1) y0 y1 y2))
 | 0 => fun _ _ _ r h => by simp [spec_l10Has.l0] at h
 | k + 1 => by
  have ih0 := spec_l10Has.mono_l k
  ·intro y0 y1 y2
   unfold spec_l10Has.l0
   exact zM
theorem spec_l10Has.mono : ∀ a0 a1 k, LeO (spec_l10Has.f k a0 a1) (spec_l10Has.f (k + 1) a0 a1) := by
 intro a0 a1 k
 have ih0 := spec_l10Has.mono_l k
 unfold spec_l10Has.f
 exact zM
theorem spec_l10Has.calls (k : Nat) (a0 : ByteArray) (a1 : ByteArray) (r : Bool) (w : World) (h : spec_l10Has.f k a0 a1 = some r) :
 Calls Tryz.prog 141 #[.string a0, .string a1] w fun e w' => e = .returned (.bool r) ∧ Drawn0 w w' := by
 unfold spec_l10Has.f at h
 have H := h
 clear h
 have H' := zz H
 clear H
 go_enter Tryz.func141, Tryz.ntmps141
 go_wp2
 go_loopg [5] k (fun kq v5 w' => ∃ (x5_1 : Int), v5 = .int .i64 x5_1 ∧ Aside0 (spec_l10Has.l0 kq a0 a1 x5_1 = some r) ∧ Aside0 (kq ≤ k) ∧ Drawn0 w w')
 case atStart => exact ⟨(0), zr, H', ⟨Nat.le_refl _⟩, by repeat (first | exact Drawn0.refl _ | apply Drawn0.step)⟩
 case round =>
  clear H'
  try clear c1
  try clear p2
  obtain ⟨x5_1, rfl, HA, HK1, ⟨m1, rfl⟩⟩ := hrel
  cases gk with
  | zero => exact absurd HA.out (by simp [spec_l10Has.l0])
  | succ k1 =>
   have H := HA.out
   clear HA
   simp only [spec_l10Has.l0] at H
   by_cases c3 : (wrap64 (x5_1 + (a1.size : Int))) ≤ (a0.size : Int)
   case neg =>
    rw [if_neg c3] at H
    have c3b0 := z0 c3
    clear c3
    obtain rfl := zi H
    go_wp2
    go_ret
    exact ⟨zr, by repeat (first | exact Drawn0.refl _ | apply Drawn0.step)⟩
   rw [if_pos c3] at H
   have c3b0 := z1 c3
   clear c3
   by_cases c4 : 0 ≤ x5_1
   case neg => exact zno H c4
   rw [if_pos c4] at H
   have c4b0 := eq_true c4
   have c4b1 := z1 c4
   clear c4
   by_cases c5 : x5_1 ≤ (wrap64 (x5_1 + (a1.size : Int)))
   case neg => exact zno H c5
   rw [if_pos c5] at H
   have c5b0 := eq_true c5
   have c5b1 := z1 c5
   have c6b0 := eq_true (z2 : (wrap64 (x5_1 + (a1.size : Int))) ≤ (a0.size : Int))
   by_cases c7 : (a0.extract (x5_1 : Int).toNat ((wrap64 (x5_1 + (a1.size : Int))) : Int).toNat).toList = a1.toList
   ·rw [if_pos c7] at H
    obtain ⟨c7b0, c7b1⟩ := zq c7
    clear c7
    obtain rfl := zi H
    go_wp2
    go_ret
    exact ⟨zr, by repeat (first | exact Drawn0.refl _ | apply Drawn0.step)⟩
   rw [if_neg c7] at H
   obtain ⟨c7b0, c7b1⟩ := zw c7
   have H' := zz H
   clear H
   go_wp2
   go_roundg k1
   case measure => have := HK1.out; omega
   case rel => exact ⟨(wrap64 (x5_1 + 1)), zr, H', ⟨by have := HK1.out; omega⟩, by repeat (first | exact Drawn0.refl _ | apply Drawn0.step)⟩
mutual
def spec_l10Refs.l0 : Nat → List (S96) → List ByteArray → List ByteArray → Int → Option (List ByteArray)
 | 0, _, _, _, _ => none
 | k + 1, x0, x1, x5, x6 => if x6 < (x1.length : Int) then (if 0 ≤ x6 then ((spec_AddressOk.f k (rdOf ByteArray.empty x1 x6)).bind fun t270 => (if t270 = true then (spec_l10Refs.l1 k x0 x1 x5 x6 0) else (spec_l10Refs.l0 k x0 x1 x5 (wrap64 (x6 + 1))))) else (none)) else (some x5)
def spec_l10Refs.l1 : Nat → List (S96) → List ByteArray → List ByteArray → Int → Int → Option (List ByteArray)
 | 0, _, _, _, _, _ => none
 | k + 1, x0, x1, x5, x6, x7 => if x7 < (x0.length : Int) then (if 0 ≤ x7 then (if 0 ≤ x6 then (if x6 < (x1.length : Int) then (if 0 ≤ 13 then (if 13 ≤ ((rdOf ByteArray.empty x1 x6).size : Int) then ((spec_l10Has.f k ((rd_T96 x0 x7).f2) ((rdOf ByteArray.empty x1 x6).extract 0 13)).bind fun t273 => (if t273 = true then ((spec_l3Add.f k x5 (rdOf ByteArray.empty x1 x6)).bind fun t275 => (spec_l10Refs.l0 k x0 x1 t275 (wrap64 (x6 + 1)))) else (spec_l10Refs.l1 k x0 x1 x5 x6 (wrap64 (x7 + 1))))) else (none)) else (none)) else (none)) else (none)) else (none)) else (spec_l10Refs.l0 k x0 x1 x5 (wrap64 (x6 + 1)))
end
def spec_l10Refs.f (k : Nat) (l0 : List (S96)) (l1 : List ByteArray) : Option (List ByteArray) := spec_l10Refs.l0 k l0 l1 (([] : List ByteArray)) 0
theorem spec_l10Refs.mono_l : ∀ k, (∀ y0 y1 y2 y3, LeO (spec_l10Refs.l0 k y0 y1 y2 y3) (spec_l10Refs.l0 (k + 1) y0 y1 y2 y3)) ∧ (∀ y0 y1 y2 y3 y4, LeO (spec_l10Refs.l1 k y0 y1 y2 y3 y4) (spec_l10Refs.l1 (k + 1) y0 y1 y2 y3 y4))
 | 0 => ⟨fun _ _ _ _ r h => by simp [spec_l10Refs.l0] at h, fun _ _ _ _ _ r h => by simp [spec_l10Refs.l1] at h⟩
 | k + 1 => by
  obtain ⟨ih0, ih1⟩ := spec_l10Refs.mono_l k
  refine ⟨?_, ?_⟩
  ·intro y0 y1 y2 y3
   unfold spec_l10Refs.l0
   have m0 := @spec_AddressOk.mono
   have m1 := @spec_l10Has.mono
   have m2 := @spec_l3Add.mono
   exact zM
  ·intro y0 y1 y2 y3 y4
   unfold spec_l10Refs.l1
   have m0 := @spec_AddressOk.mono
   have m1 := @spec_l10Has.mono
   have m2 := @spec_l3Add.mono
   exact zM
theorem spec_l10Refs.mono : ∀ a0 a1 k, LeO (spec_l10Refs.f k a0 a1) (spec_l10Refs.f (k + 1) a0 a1) := by
 intro a0 a1 k
 obtain ⟨ih0, ih1⟩ := spec_l10Refs.mono_l k
 unfold spec_l10Refs.f
 have m0 := @spec_AddressOk.mono
 have m1 := @spec_l10Has.mono
 have m2 := @spec_l3Add.mono
 exact zM
theorem spec_l10Refs.calls (k : Nat) (A0 : Option Addr) (c0 : Nat) (l0 : List (S96)) (A1 : Option Addr) (c1 : Nat) (l1 : List ByteArray) (r : List ByteArray) (w : World) (hr0 : Kd.C k96 w A0 l0.length l0) (hc0 : l0.length ≤ c0) (hr1 : Kd.C Kd.string w A1 l1.length l1) (hc1 : l1.length ≤ c1) (h : spec_l10Refs.f k l0 l1 = some r) :
 Calls Tryz.prog 118 #[.slice A0 l0.length c0, .slice A1 l1.length c1] w fun e w' => ∃ v0_ : Value, e = .returned (v0_) ∧ Kd.R Kd.string 9 w' w.heap.size (fun _ => True) v0_ r ∧ Below w.heap.size w w' := by
 have HR0 := zz hr0
 have HC0 := zz hc0
 clear hr0 hc0
 have HR1 := zz hr1
 have HC1 := zz hc1
 clear hr1 hc1
 have HB := zz (Below.refl w.heap.size w)
 unfold spec_l10Refs.f at h
 have H := h
 clear h
 obtain ⟨y266, hy266⟩ : ∃ y_ : List ByteArray, y_ = (([] : List ByteArray)) := ⟨_, rfl⟩
 replace H : (spec_l10Refs.l0 k l0 l1 y266 0) = some r := by first | (rw [hy266]; with_reducible exact H) | (have H2_ := (Option.bind_some _ _).symm.trans H; rw [hy266]; with_reducible exact H2_) | (have H2_ := (Option.bind_some _ _).symm.trans H; with_reducible exact H2_) | with_reducible exact H | (rw [hy266]; exact H) | exact H
 have Ny266 := zz hy266
 clear hy266
 have H' := zz H
 clear H
 go_enter Tryz.func118, Tryz.ntmps118
 go_wp2_with (first | (refine zN 8 ?_; refine Kd.R_lit Kd.string _ 9 ?hg (N := 8) ?hd (xs := ([] : List ByteArray)) (inner := []) (ok := fun _ => True) (okp := fun _ => True) ?hr ?hp (fun _ hk => hk) trivial (Below.refl _ _) (Nat.le_refl _) (by simp) ?_; (case hd => rfl); (case hg => rfl); (case hr => first | (go_simp; done) | (go_simp; rfl)); (case hp => exact (Reps.none _ _)); intro v267 w3 ho4 hb hg_ hnew_; clear hg_ hnew_; (first | rw [← Ny266.out] at ho4 | (simp only [Int.reduceToNat] at ho4; rw [← Ny266.out] at ho4)); have HO268 := zz (Kd.R_lower ho4 (below_size zb)); replace HB := zz (zv zb hb); clear hb ho4))
 repeat (go_quiet (first | (refine zN 8 ?_; refine Kd.R_lit Kd.string _ 9 ?hg (N := 8) ?hd (xs := ([] : List ByteArray)) (inner := []) (ok := fun _ => True) (okp := fun _ => True) ?hr ?hp (fun _ hk => hk) trivial (Below.refl _ _) (Nat.le_refl _) (by simp) ?_; (case hd => rfl); (case hg => rfl); (case hr => first | (go_simp; done) | (go_simp; rfl)); (case hp => exact (Reps.none _ _)); intro v267 w3 ho4 hb hg_ hnew_; clear hg_ hnew_; (first | rw [← Ny266.out] at ho4 | (simp only [Int.reduceToNat] at ho4; rw [← Ny266.out] at ho4)); have HO268 := zz (Kd.R_lower ho4 (below_size zb)); replace HB := zz (zv zb hb); clear hb ho4)); try go_wp2_with (first | (refine zN 8 ?_; refine Kd.R_lit Kd.string _ 9 ?hg (N := 8) ?hd (xs := ([] : List ByteArray)) (inner := []) (ok := fun _ => True) (okp := fun _ => True) ?hr ?hp (fun _ hk => hk) trivial (Below.refl _ _) (Nat.le_refl _) (by simp) ?_; (case hd => rfl); (case hg => rfl); (case hr => first | (go_simp; done) | (go_simp; rfl)); (case hp => exact (Reps.none _ _)); intro v267 w3 ho4 hb hg_ hnew_; clear hg_ hnew_; (first | rw [← Ny266.out] at ho4 | (simp only [Int.reduceToNat] at ho4; rw [← Ny266.out] at ho4)); have HO268 := zz (Kd.R_lower ho4 (below_size zb)); replace HB := zz (zv zb hb); clear hb ho4)))
 go_loopg [5, 6] k (fun kq v5 v6 w' => ∃ (x5_1 : List ByteArray) (x6_1 : Int), v6 = .int .i64 x6_1 ∧ Aside0 (spec_l10Refs.l0 kq l0 l1 x5_1 x6_1 = some r) ∧ Aside0 (kq ≤ k) ∧ Aside0 (Kd.R Kd.string 9 w' w.heap.size (fun _ => True) v5 x5_1) ∧ Aside0 (Below w.heap.size w w'))
 case atStart => exact ⟨(y266), (0), zr, H', ⟨Nat.le_refl _⟩, ⟨by (with_reducible repeat (first | apply Kd.R_alloc | apply Kd.R_drewN | apply Kd.R_drew)); exact HO268.out⟩, ⟨zb⟩⟩
 case round =>
  clear H'
  try clear c1
  try clear p2
  obtain ⟨x5_1, x6_1, rfl, HA, HK1, HO_5, HB⟩ := hrel
  cases gk with
  | zero => exact absurd HA.out (by simp [spec_l10Refs.l0])
  | succ k1 =>
   have H := HA.out
   clear HA
   simp only [spec_l10Refs.l0] at H
   by_cases c5 : x6_1 < (l1.length : Int)
   case neg =>
    rw [if_neg c5] at H
    have c5b0 := z0 c5
    clear c5
    obtain rfl := zi H
    go_wp2
    repeat (go_quiet (fail); try go_wp2)
    go_ret
    exact ⟨_, ze, by (with_reducible repeat (first | apply Kd.R_alloc | apply Kd.R_drewN | apply Kd.R_drew)); exact HO_5.out, zb⟩
   rw [if_pos c5] at H
   have c5b0 := z1 c5
   clear c5
   by_cases c6 : 0 ≤ x6_1
   case neg => exact zno H c6
   rw [if_pos c6] at H
   have c6b0 := z1 c6
   clear c6
   replace H := zf H
   obtain ⟨t270, A70, H⟩ := H
   try dsimp only at H
   have A7 := zz A70
   clear A70
   by_cases c8 : t270 = true
   case neg =>
    replace c8 := Bool.eq_false_iff.mpr c8
    subst c8
    rw [if_neg (show ¬ (false = true) by decide)] at H
    have H' := zz H
    clear H
    have p269 : 0 ≤ (x6_1 : Int) := z2
    have q269 : x6_1 < (l1.length : Int) := z2
    obtain ⟨ad269, e269, hx269_0⟩ := Kd.at_string HR1.out x6_1 p269 q269
    cases e269
    replace hx269_0 := z3 HB.out hx269_0
    replace p269 := eq_true p269
    replace q269 := eq_true q269
    go_wp2_with (first | (go_at_call 36; (with_reducible refine (spec_AddressOk.calls k1 (rdOf ByteArray.empty l1 x6_1) false _ A7.out).mono ?_); rintro e w' ⟨rfl, ⟨nd, rfl⟩⟩; (try first | exact ⟨rfl, _, World.drewN_drewN _ _ _⟩ | exact ⟨rfl, _, Eq.trans (World.drewN_drewN _ _ _) (congrArg (World.drewN _) (Nat.add_assoc _ _ _))⟩)))
    repeat (go_quiet (first | (go_at_call 36; (with_reducible refine (spec_AddressOk.calls k1 (rdOf ByteArray.empty l1 x6_1) false _ A7.out).mono ?_); rintro e w' ⟨rfl, ⟨nd, rfl⟩⟩; (try first | exact ⟨rfl, _, World.drewN_drewN _ _ _⟩ | exact ⟨rfl, _, Eq.trans (World.drewN_drewN _ _ _) (congrArg (World.drewN _) (Nat.add_assoc _ _ _))⟩))); try go_wp2_with (first | (go_at_call 36; (with_reducible refine (spec_AddressOk.calls k1 (rdOf ByteArray.empty l1 x6_1) false _ A7.out).mono ?_); rintro e w' ⟨rfl, ⟨nd, rfl⟩⟩; (try first | exact ⟨rfl, _, World.drewN_drewN _ _ _⟩ | exact ⟨rfl, _, Eq.trans (World.drewN_drewN _ _ _) (congrArg (World.drewN _) (Nat.add_assoc _ _ _))⟩))))
    go_roundg k1
    case measure => have := HK1.out; omega
    case rel => exact ⟨(x5_1), (wrap64 (x6_1 + 1)), zr, H', ⟨by have := HK1.out; omega⟩, ⟨by (with_reducible repeat (first | apply Kd.R_alloc | apply Kd.R_drewN | apply Kd.R_drew)); exact HO_5.out⟩, ⟨zb⟩⟩
   subst c8
   rw [if_pos rfl] at H
   have H' := zz H
   clear H
   have p269 : 0 ≤ (x6_1 : Int) := z2
   have q269 : x6_1 < (l1.length : Int) := z2
   obtain ⟨ad269, e269, hx269_0⟩ := Kd.at_string HR1.out x6_1 p269 q269
   cases e269
   replace hx269_0 := z3 HB.out hx269_0
   replace p269 := eq_true p269
   replace q269 := eq_true q269
   go_wp2_with (first | (go_at_call 36; (with_reducible refine (spec_AddressOk.calls k1 (rdOf ByteArray.empty l1 x6_1) true _ A7.out).mono ?_); rintro e w' ⟨rfl, ⟨nd, rfl⟩⟩; (try first | exact ⟨rfl, _, World.drewN_drewN _ _ _⟩ | exact ⟨rfl, _, Eq.trans (World.drewN_drewN _ _ _) (congrArg (World.drewN _) (Nat.add_assoc _ _ _))⟩)))
   repeat (go_quiet (first | (go_at_call 36; (with_reducible refine (spec_AddressOk.calls k1 (rdOf ByteArray.empty l1 x6_1) true _ A7.out).mono ?_); rintro e w' ⟨rfl, ⟨nd, rfl⟩⟩; (try first | exact ⟨rfl, _, World.drewN_drewN _ _ _⟩ | exact ⟨rfl, _, Eq.trans (World.drewN_drewN _ _ _) (congrArg (World.drewN _) (Nat.add_assoc _ _ _))⟩))); try go_wp2_with (first | (go_at_call 36; (with_reducible refine (spec_AddressOk.calls k1 (rdOf ByteArray.empty l1 x6_1) true _ A7.out).mono ?_); rintro e w' ⟨rfl, ⟨nd, rfl⟩⟩; (try first | exact ⟨rfl, _, World.drewN_drewN _ _ _⟩ | exact ⟨rfl, _, Eq.trans (World.drewN_drewN _ _ _) (congrArg (World.drewN _) (Nat.add_assoc _ _ _))⟩))))
   go_loopg [5, 7] k1 (fun kq v5 v7 w' => ∃ (x5_2 : List ByteArray) (x7_2 : Int), v7 = .int .i64 x7_2 ∧ Aside0 (spec_l10Refs.l1 kq l0 l1 x5_2 x6_1 x7_2 = some r) ∧ Aside0 (kq ≤ k1) ∧ Aside0 (Kd.R Kd.string 9 w' w.heap.size (fun _ => True) v5 x5_2) ∧ Aside0 (Below w.heap.size w w'))
   case atStart => exact ⟨(x5_1), (0), zr, H', ⟨Nat.le_refl _⟩, ⟨by (with_reducible repeat (first | apply Kd.R_alloc | apply Kd.R_drewN | apply Kd.R_drew)); exact HO_5.out⟩, ⟨zb⟩⟩
   case round =>
    clear H'
    try clear c1
    try clear p2
    try clear q2
    try clear hx2
    try clear c5
    try clear c5b0
    try clear c6
    try clear c6b0
    try clear p6
    try clear c8
    try clear hx269_0
    try clear p2
    try clear p269
    try clear q269
    obtain ⟨x5_2, x7_2, rfl, HA, HK2, HO_5, HB⟩ := hrel
    cases gk with
    | zero => exact absurd HA.out (by simp [spec_l10Refs.l1])
    | succ k2 =>
     have H := HA.out
     clear HA
     simp only [spec_l10Refs.l1] at H
     by_cases c9 : x7_2 < (l0.length : Int)
     case neg =>
      rw [if_neg c9] at H
      have c9b0 := z0 c9
      clear c9
      have H' := zz H
      clear H
      go_wp2
      repeat (go_quiet (fail); try go_wp2)
      go_roundg k2
      case measure => have := HK1.out; have := HK2.out; omega
      case rel => exact ⟨(x5_2), (wrap64 (x6_1 + 1)), zr, H', ⟨by have := HK1.out; have := HK2.out; omega⟩, ⟨by (with_reducible repeat (first | apply Kd.R_alloc | apply Kd.R_drewN | apply Kd.R_drew)); exact HO_5.out⟩, ⟨zb⟩⟩
     rw [if_pos c9] at H
     have c9b0 := z1 c9
     clear c9
     by_cases c10 : 0 ≤ x7_2
     case neg => exact zno H c10
     rw [if_pos c10] at H
     have c10b0 := z1 c10
     clear c10
     by_cases c11 : 0 ≤ x6_1
     case neg => exact zno H c11
     rw [if_pos c11] at H
     have c11b0 := z1 c11
     clear c11
     by_cases c12 : x6_1 < (l1.length : Int)
     case neg => exact zno H c12
     rw [if_pos c12] at H
     have c12b0 := z1 c12
     clear c12
     by_cases c13 : 0 ≤ 13
     case neg => exact zno H c13
     rw [if_pos c13] at H
     have c13b0 := eq_true c13
     have c13b1 := z1 c13
     clear c13
     by_cases c14 : 13 ≤ ((rdOf ByteArray.empty l1 x6_1).size : Int)
     case neg => exact zno H c14
     rw [if_pos c14] at H
     have c14b0 := eq_true c14
     have c14b1 := z1 c14
     clear c14
     replace H := zf H
     obtain ⟨t273, A150, H⟩ := H
     try dsimp only at H
     have A15 := zz A150
     clear A150
     by_cases c16 : t273 = true
     case neg =>
      replace c16 := Bool.eq_false_iff.mpr c16
      subst c16
      rw [if_neg (show ¬ (false = true) by decide)] at H
      have H' := zz H
      clear H
      have p271 : 0 ≤ (x7_2 : Int) := z2
      have q271 : x7_2 < (l0.length : Int) := z2
      obtain ⟨ad271, e271, hx271_0, hx271_1, hx271_2, hx271_3⟩ := at_T96 HR0.out x7_2 p271 q271
      cases e271
      replace hx271_0 := z3 HB.out hx271_0
      replace hx271_1 := z3 HB.out hx271_1
      replace hx271_2 := z3 HB.out hx271_2
      replace hx271_3 := z3 HB.out hx271_3
      replace p271 := eq_true p271
      replace q271 := eq_true q271
      have p272 : 0 ≤ (x6_1 : Int) := z2
      have q272 : x6_1 < (l1.length : Int) := z2
      obtain ⟨ad272, e272, hx272_0⟩ := Kd.at_string HR1.out x6_1 p272 q272
      obtain rfl : ad269 = ad272 := (by injection e272)
      replace hx272_0 := z3 HB.out hx272_0
      replace p272 := eq_true p272
      replace q272 := eq_true q272
      go_wp2_with (first | (go_at_call 141; (with_reducible refine (spec_l10Has.calls k2 ((rd_T96 l0 x7_2).f2) ((rdOf ByteArray.empty l1 x6_1).extract 0 13) false _ A15.out).mono ?_); rintro e w' ⟨rfl, ⟨nd, rfl⟩⟩; (try first | exact ⟨rfl, _, World.drewN_drewN _ _ _⟩ | exact ⟨rfl, _, Eq.trans (World.drewN_drewN _ _ _) (congrArg (World.drewN _) (Nat.add_assoc _ _ _))⟩)))
      repeat (go_quiet (first | (go_at_call 141; (with_reducible refine (spec_l10Has.calls k2 ((rd_T96 l0 x7_2).f2) ((rdOf ByteArray.empty l1 x6_1).extract 0 13) false _ A15.out).mono ?_); rintro e w' ⟨rfl, ⟨nd, rfl⟩⟩; (try first | exact ⟨rfl, _, World.drewN_drewN _ _ _⟩ | exact ⟨rfl, _, Eq.trans (World.drewN_drewN _ _ _) (congrArg (World.drewN _) (Nat.add_assoc _ _ _))⟩))); try go_wp2_with (first | (go_at_call 141; (with_reducible refine (spec_l10Has.calls k2 ((rd_T96 l0 x7_2).f2) ((rdOf ByteArray.empty l1 x6_1).extract 0 13) false _ A15.out).mono ?_); rintro e w' ⟨rfl, ⟨nd, rfl⟩⟩; (try first | exact ⟨rfl, _, World.drewN_drewN _ _ _⟩ | exact ⟨rfl, _, Eq.trans (World.drewN_drewN _ _ _) (congrArg (World.drewN _) (Nat.add_assoc _ _ _))⟩))))
      go_roundg k2
      case measure => have := HK1.out; have := HK2.out; omega
      case rel => exact ⟨(x5_2), (wrap64 (x7_2 + 1)), zr, H', ⟨by have := HK1.out; have := HK2.out; omega⟩, ⟨by (with_reducible repeat (first | apply Kd.R_alloc | apply Kd.R_drewN | apply Kd.R_drew)); exact HO_5.out⟩, ⟨zb⟩⟩
     subst c16
     rw [if_pos rfl] at H
     replace H := zf H
     obtain ⟨t275, A170, H⟩ := H
     try dsimp only at H
     have A17 := zz A170
     clear A170
     have H' := zz H
     clear H
     have p271 : 0 ≤ (x7_2 : Int) := z2
     have q271 : x7_2 < (l0.length : Int) := z2
     obtain ⟨ad271, e271, hx271_0, hx271_1, hx271_2, hx271_3⟩ := at_T96 HR0.out x7_2 p271 q271
     cases e271
     replace hx271_0 := z3 HB.out hx271_0
     replace hx271_1 := z3 HB.out hx271_1
     replace hx271_2 := z3 HB.out hx271_2
     replace hx271_3 := z3 HB.out hx271_3
     replace p271 := eq_true p271
     replace q271 := eq_true q271
     have p272 : 0 ≤ (x6_1 : Int) := z2
     have q272 : x6_1 < (l1.length : Int) := z2
     obtain ⟨ad272, e272, hx272_0⟩ := Kd.at_string HR1.out x6_1 p272 q272
     obtain rfl : ad269 = ad272 := (by injection e272)
     replace hx272_0 := z3 HB.out hx272_0
     replace p272 := eq_true p272
     replace q272 := eq_true q272
     go_wp2_with (first | (go_at_call 141; (with_reducible refine (spec_l10Has.calls k2 ((rd_T96 l0 x7_2).f2) ((rdOf ByteArray.empty l1 x6_1).extract 0 13) true _ A15.out).mono ?_); rintro e w' ⟨rfl, ⟨nd, rfl⟩⟩; (try first | exact ⟨rfl, _, World.drewN_drewN _ _ _⟩ | exact ⟨rfl, _, Eq.trans (World.drewN_drewN _ _ _) (congrArg (World.drewN _) (Nat.add_assoc _ _ _))⟩); have p274 : 0 ≤ (x6_1 : Int) := z2; have q274 : x6_1 < (l1.length : Int) := z2; obtain ⟨ad274, e274, hx274_0⟩ := Kd.at_string HR1.out x6_1 p274 q274; obtain rfl : ad269 = ad274 := (by injection e274); replace hx274_0 := z3 HB.out hx274_0; replace p274 := eq_true p274; replace q274 := eq_true q274; obtain ⟨Ao18, co18, eo18⟩ := Kd.R_slice HO_5.out; subst eo18) | (go_at_call 101; (with_reducible refine (spec_l3Add.calls k2 (fun k_ => some k_ = (.slice Ao18 x5_2.length co18 : Value).ownBlock) (.slice Ao18 x5_2.length co18) x5_2 (rdOf ByteArray.empty l1 x6_1) t275 w _ ?s1 ?s2 A17.out).mono ?_); (case s1 => repeat (first | (with_reducible first | exact HB.out | apply below_alloc | apply pw_below_drewN | apply below_drew1) | exact HB.out)); (case s2 => exact Kd.R_tight rfl HO_5.out); rintro e w19 ⟨v276, rfl, ho0, hb, hkp⟩; have HO277 := zz (Kd.R_mono (ok' := fun k_ => True) ho0 (fun k_ hk_ => trivial)); replace HB := zz (hb); clear HO_5; (try clear hb); (try clear hkp); (try clear ho0)))
     repeat (go_quiet (first | (go_at_call 141; (with_reducible refine (spec_l10Has.calls k2 ((rd_T96 l0 x7_2).f2) ((rdOf ByteArray.empty l1 x6_1).extract 0 13) true _ A15.out).mono ?_); rintro e w' ⟨rfl, ⟨nd, rfl⟩⟩; (try first | exact ⟨rfl, _, World.drewN_drewN _ _ _⟩ | exact ⟨rfl, _, Eq.trans (World.drewN_drewN _ _ _) (congrArg (World.drewN _) (Nat.add_assoc _ _ _))⟩); have p274 : 0 ≤ (x6_1 : Int) := z2; have q274 : x6_1 < (l1.length : Int) := z2; obtain ⟨ad274, e274, hx274_0⟩ := Kd.at_string HR1.out x6_1 p274 q274; obtain rfl : ad269 = ad274 := (by injection e274); replace hx274_0 := z3 HB.out hx274_0; replace p274 := eq_true p274; replace q274 := eq_true q274; obtain ⟨Ao18, co18, eo18⟩ := Kd.R_slice HO_5.out; subst eo18) | (go_at_call 101; (with_reducible refine (spec_l3Add.calls k2 (fun k_ => some k_ = (.slice Ao18 x5_2.length co18 : Value).ownBlock) (.slice Ao18 x5_2.length co18) x5_2 (rdOf ByteArray.empty l1 x6_1) t275 w _ ?s1 ?s2 A17.out).mono ?_); (case s1 => repeat (first | (with_reducible first | exact HB.out | apply below_alloc | apply pw_below_drewN | apply below_drew1) | exact HB.out)); (case s2 => exact Kd.R_tight rfl HO_5.out); rintro e w19 ⟨v276, rfl, ho0, hb, hkp⟩; have HO277 := zz (Kd.R_mono (ok' := fun k_ => True) ho0 (fun k_ hk_ => trivial)); replace HB := zz (hb); clear HO_5; (try clear hb); (try clear hkp); (try clear ho0))); try go_wp2_with (first | (go_at_call 141; (with_reducible refine (spec_l10Has.calls k2 ((rd_T96 l0 x7_2).f2) ((rdOf ByteArray.empty l1 x6_1).extract 0 13) true _ A15.out).mono ?_); rintro e w' ⟨rfl, ⟨nd, rfl⟩⟩; (try first | exact ⟨rfl, _, World.drewN_drewN _ _ _⟩ | exact ⟨rfl, _, Eq.trans (World.drewN_drewN _ _ _) (congrArg (World.drewN _) (Nat.add_assoc _ _ _))⟩); have p274 : 0 ≤ (x6_1 : Int) := z2; have q274 : x6_1 < (l1.length : Int) := z2; obtain ⟨ad274, e274, hx274_0⟩ := Kd.at_string HR1.out x6_1 p274 q274; obtain rfl : ad269 = ad274 := (by injection e274); replace hx274_0 := z3 HB.out hx274_0; replace p274 := eq_true p274; replace q274 := eq_true q274; obtain ⟨Ao18, co18, eo18⟩ := Kd.R_slice HO_5.out; subst eo18) | (go_at_call 101; (with_reducible refine (spec_l3Add.calls k2 (fun k_ => some k_ = (.slice Ao18 x5_2.length co18 : Value).ownBlock) (.slice Ao18 x5_2.length co18) x5_2 (rdOf ByteArray.empty l1 x6_1) t275 w _ ?s1 ?s2 A17.out).mono ?_); (case s1 => repeat (first | (with_reducible first | exact HB.out | apply below_alloc | apply pw_below_drewN | apply below_drew1) | exact HB.out)); (case s2 => exact Kd.R_tight rfl HO_5.out); rintro e w19 ⟨v276, rfl, ho0, hb, hkp⟩; have HO277 := zz (Kd.R_mono (ok' := fun k_ => True) ho0 (fun k_ hk_ => trivial)); replace HB := zz (hb); clear HO_5; (try clear hb); (try clear hkp); (try clear ho0))))
     go_roundg k2
     case measure => have := HK1.out; have := HK2.out; omega
     case rel => exact ⟨(t275), (wrap64 (x6_1 + 1)), zr, H', ⟨by have := HK1.out; have := HK2.out; omega⟩, ⟨by (with_reducible repeat (first | apply Kd.R_alloc | apply Kd.R_drewN | apply Kd.R_drew)); exact HO277.out⟩, ⟨zb⟩⟩
end Go.Proofs.YtcekmnclmldmmaaGreatDoor.Q
