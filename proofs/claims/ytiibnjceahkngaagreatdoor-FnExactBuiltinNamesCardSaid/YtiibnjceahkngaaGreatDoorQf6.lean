import Derived.Test.YtiibnjceahkngaaGreatDoorQ0
namespace Go.Proofs.YtiibnjceahkngaaGreatDoor.Q
open Go.RowKit Go.Proofs.YtiibnjceahkngaaGreatDoorW.PrintWords Go.Proofs.YtiibnjceahkngaaGreatDoorW.PrintLast Go.Proofs.YtiibnjceahkngaaGreatDoorW.PrintMore
attribute [local go_sem] max2_int min2_int max_two min_two max_three min_three max_four min_four
attribute [local go_sem high] bl_leq bl_gtr bl_geq
set_option linter.unusedVariables false
set_option linter.unusedSimpArgs false

/-! ### laws_eqStringS: function 6 -/
def laws_eqStringS.l0 : Nat → List ByteArray → List ByteArray → Int → Option (Bool)
  | 0, _, _, _ => none
  | k + 1, x0, x1, x5 => if x5 < (x0.length : Int) then (if 0 ≤ x5 then (if x5 < (x1.length : Int) then (if (rdOf ByteArray.empty x0 x5).toList = (rdOf ByteArray.empty x1 x5).toList then (laws_eqStringS.l0 k x0 x1 (wrap64 (x5 + 1))) else (some false)) else (none)) else (none)) else (some true)
def laws_eqStringS.f (k : Nat) (l0 : List ByteArray) (l1 : List ByteArray) : Option (Bool) := if (l0.length : Int) = (l1.length : Int) then (laws_eqStringS.l0 k l0 l1 0) else (some false)
theorem laws_eqStringS.mono_l : ∀ k, (∀ y0 y1 y2, LeO (laws_eqStringS.l0 k y0 y1 y2) (laws_eqStringS.l0 (k + 1) y0 y1 y2))
  | 0 => fun _ _ _ r h => by simp [laws_eqStringS.l0] at h
  | k + 1 => by
    have ih0 := laws_eqStringS.mono_l k
    · intro y0 y1 y2
      unfold laws_eqStringS.l0
      repeat' first
      | (with_reducible exact ih0 _ _ _)
      | (with_reducible exact LeO.refl _)
      | (with_reducible exact LeO.none _)
      | (with_reducible refine LeO.ite ?_ ?_)
      | (with_reducible refine LeO.bind ?_ (fun _ => ?_))
      | exact ih0 _ _ _
      | exact LeO.none _
      | refine LeO.ite ?_ ?_
      | refine LeO.bind ?_ (fun _ => ?_)
theorem laws_eqStringS.mono : ∀ a0 a1 k, LeO (laws_eqStringS.f k a0 a1) (laws_eqStringS.f (k + 1) a0 a1) := by
  intro a0 a1 k
  have ih0 := laws_eqStringS.mono_l k
  unfold laws_eqStringS.f
  repeat' first
      | (with_reducible exact ih0 _ _ _)
      | (with_reducible exact LeO.refl _)
      | (with_reducible exact LeO.none _)
      | (with_reducible refine LeO.ite ?_ ?_)
      | (with_reducible refine LeO.bind ?_ (fun _ => ?_))
      | exact ih0 _ _ _
      | exact LeO.none _
      | refine LeO.ite ?_ ?_
      | refine LeO.bind ?_ (fun _ => ?_)
set_option maxHeartbeats 8000000 in
set_option maxRecDepth 100000 in
theorem laws_eqStringS.calls (k : Nat) (A0 : Option Addr) (c0 : Nat) (l0 : List ByteArray) (A1 : Option Addr) (c1 : Nat) (l1 : List ByteArray) (r : Bool) (w : World) (hr0 : Kd.C Kd.string w A0 l0.length l0) (hc0 : l0.length ≤ c0) (hr1 : Kd.C Kd.string w A1 l1.length l1) (hc1 : l1.length ≤ c1) (h : laws_eqStringS.f k l0 l1 = some r) :
    Calls Tryz.prog 6 #[.slice A0 l0.length c0, .slice A1 l1.length c1] w fun e w' => e = .returned (.bool r) ∧ Below w.heap.size w w' := by
  have HR0 := Aside0.mk hr0
  have HC0 := Aside0.mk hc0
  clear hr0 hc0
  have HR1 := Aside0.mk hr1
  have HC1 := Aside0.mk hc1
  clear hr1 hc1
  have HB := Aside0.mk (Below.refl w.heap.size w)
  have H : (if (l0.length : Int) = (l1.length : Int) then (laws_eqStringS.l0 k l0 l1 0) else (some false)) = some r := h
  clear h
  replace HB := HB.out
  have HW := Aside0.mk (Below.refl w.heap.size w)
  go_enter Tryz.func6, Tryz.ntmps6
  by_cases c3 : (l0.length : Int) = (l1.length : Int)
  · rw [if_pos c3] at H
    have c3b0 : ((l0.length : Int) == (l1.length : Int)) = true := beq_iff_eq.mpr c3
    have c3b1 : ((l0.length : Int) != (l1.length : Int)) = false := bne_eq_false_iff_eq.mpr c3
    have c3b2 : (l0.length == l1.length) = true := by first | simpa using c3 | (simp at c3 ⊢; omega)
    clear c3
    go_wp2_with (fail)
    go_loopg [5] k (fun kq v5 w' => ∃ (x5_kl4 : Int), v5 = .int .i64 x5_kl4 ∧ Aside0 (laws_eqStringS.l0 kq l0 l1 x5_kl4 = some r) ∧ Aside0 (kq ≤ k) ∧ Aside0 (Below w.heap.size w w'))
    case atStart => exact ⟨(0), (by first | rfl | (simp; done) | (simp [*]; done)), ⟨H⟩, ⟨Nat.le_refl _⟩, ⟨HB⟩⟩
    case round =>
      clear H HB
      obtain ⟨x5_kl4, rfl, H, HKkl4, HB⟩ := hrel
      replace HB := HB.out
      replace H := H.out
      have HLkl4 := Aside0.mk (Below.refl w.heap.size w)
      cases gk with
      | zero => exact absurd H (by simp [laws_eqStringS.l0])
      | succ kl4 =>
        simp only [laws_eqStringS.l0] at H
        by_cases c5 : x5_kl4 < (l0.length : Int)
        · rw [if_pos c5] at H
          have c5b0 : decide (x5_kl4 < (l0.length : Int)) = true := decide_eq_true c5
          clear c5
          go_wp2_with (fail)
          try simp only [Act.put, List.setIfInBounds_toArray, List.set_cons_zero, List.set_cons_succ]
          refine wp_region_inv_lit (C := fun W_ => Below w.heap.size w W_) (by kernel_rfl) (by kernel_rfl) (below_drew1 HB) ?_
          by_cases c6 : 0 ≤ x5_kl4
          · rw [if_pos c6] at H
            have c6b0 : decide (0 ≤ x5_kl4) = true := decide_eq_true c6
            clear c6
            have p104 : 0 ≤ (x5_kl4 : Int) := of_decide_eq_true (by first | (with_reducible assumption) | assumption)
            have q104 : (x5_kl4 : Int) < (l0.length : Int) := of_decide_eq_true (by first | (with_reducible assumption) | assumption)
            obtain ⟨ad104, e104, hx104_0⟩ := Kd.at_string HR0.out x5_kl4 p104 q104
            cases e104
            replace hx104_0 := cellB hx104_0
            replace p104 := eq_true p104
            replace q104 := eq_true q104
            by_cases c7 : x5_kl4 < (l1.length : Int)
            · rw [if_pos c7] at H
              have c7b0 : decide (x5_kl4 < (l1.length : Int)) = true := decide_eq_true c7
              clear c7
              have p105 : 0 ≤ (x5_kl4 : Int) := of_decide_eq_true (by first | (with_reducible assumption) | assumption)
              have q105 : (x5_kl4 : Int) < (l1.length : Int) := of_decide_eq_true (by first | (with_reducible assumption) | assumption)
              obtain ⟨ad105, e105, hx105_0⟩ := Kd.at_string HR1.out x5_kl4 p105 q105
              cases e105
              replace hx105_0 := cellB hx105_0
              replace p105 := eq_true p105
              replace q105 := eq_true q105
              by_cases c8 : (rdOf ByteArray.empty l0 x5_kl4).toList = (rdOf ByteArray.empty l1 x5_kl4).toList
              · rw [if_pos c8] at H
                have c8b0 : ((rdOf ByteArray.empty l0 x5_kl4).toList == (rdOf ByteArray.empty l1 x5_kl4).toList) = true := beq_iff_eq.mpr c8
                have c8b1 : ((rdOf ByteArray.empty l0 x5_kl4).toList != (rdOf ByteArray.empty l1 x5_kl4).toList) = false := bne_eq_false_iff_eq.mpr c8
                clear c8
                repeat (first | go_big_quiet_skip | (go_big_quiet_want; go_big_quiet_op; first | go_big_quiet_on | (with_reducible apply Exists.intro; refine ⟨fun W hW => ?_, ?_⟩; (first | with_reducible rfl | (go_simp; with_reducible rfl)); go_big_quiet_on)))
                with_reducible refine wpQuiet_nil ?_
                intro w9 hb
                replace HB : Below w.heap.size w w9 := hb
                clear hb
                go_wp2_with (fail)
                go_roundg kl4
                case measure => have := HKkl4.out; omega
                case rel => exact ⟨(wrap64 (x5_kl4 + 1)), (by first | rfl | (simp; done) | (simp [*]; done)), ⟨H⟩, ⟨by have := HKkl4.out; omega⟩, ⟨below_step HLkl4.out HB⟩⟩
              · rw [if_neg c8] at H
                have c8b0 : ((rdOf ByteArray.empty l0 x5_kl4).toList == (rdOf ByteArray.empty l1 x5_kl4).toList) = false := beq_eq_false_iff_ne.mpr c8
                have c8b1 : ((rdOf ByteArray.empty l0 x5_kl4).toList != (rdOf ByteArray.empty l1 x5_kl4).toList) = true := bne_iff_ne.mpr c8
                obtain rfl := Option.some.inj H
                repeat (first | go_big_quiet_skip | (go_big_quiet_want; go_big_quiet_op; first | go_big_quiet_on | (with_reducible apply Exists.intro; refine ⟨fun W hW => ?_, ?_⟩; (first | with_reducible rfl | (go_simp; with_reducible rfl)); go_big_quiet_on)))
                with_reducible refine wpQuiet_nil ?_
                intro w10 hb
                replace HB : Below w.heap.size w w10 := hb
                clear hb
                go_wp2_with (fail)
                go_ret
                exact ⟨by first | rfl | (simp [errW_none, errW_some] <;> rfl) | (simp [*, errW_none, errW_some] <;> rfl), below_step HW.out HB⟩
            · rw [if_neg c7] at H
              exact absurd H (by simp)
          · rw [if_neg c6] at H
            exact absurd H (by simp)
        · rw [if_neg c5] at H
          have c5b0 : decide (x5_kl4 < (l0.length : Int)) = false := decide_eq_false c5
          clear c5
          obtain rfl := Option.some.inj H
          go_wp2_with (fail)
          go_ret
          exact ⟨by first | rfl | (simp [errW_none, errW_some] <;> rfl) | (simp [*, errW_none, errW_some] <;> rfl), below_step HW.out HB⟩
  · rw [if_neg c3] at H
    have c3b0 : ((l0.length : Int) == (l1.length : Int)) = false := beq_eq_false_iff_ne.mpr c3
    have c3b1 : ((l0.length : Int) != (l1.length : Int)) = true := bne_iff_ne.mpr c3
    have c3b2 : (l0.length == l1.length) = false := by first | simpa using c3 | (simp at c3 ⊢; omega)
    obtain rfl := Option.some.inj H
    go_wp2_with (fail)
    go_ret
    exact ⟨by first | rfl | (simp [errW_none, errW_some] <;> rfl) | (simp [*, errW_none, errW_some] <;> rfl), below_step HW.out HB⟩

end Go.Proofs.YtiibnjceahkngaaGreatDoor.Q
