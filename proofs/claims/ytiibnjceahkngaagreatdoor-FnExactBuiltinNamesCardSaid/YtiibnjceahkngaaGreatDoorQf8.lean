import Derived.Test.YtiibnjceahkngaaGreatDoorQ0
import Derived.Test.YtiibnjceahkngaaGreatDoorQf11
namespace Go.Proofs.YtiibnjceahkngaaGreatDoor.Q
open Go.RowKit Go.Proofs.YtiibnjceahkngaaGreatDoorW.PrintWords Go.Proofs.YtiibnjceahkngaaGreatDoorW.PrintLast Go.Proofs.YtiibnjceahkngaaGreatDoorW.PrintMore
attribute [local go_sem] max2_int min2_int max_two min_two max_three min_three max_four min_four
attribute [local go_sem high] bl_leq bl_gtr bl_geq
set_option linter.unusedVariables false
set_option linter.unusedSimpArgs false

/-! ### laws_heldStringS: function 8 -/
def laws_heldStringS.l0 : Nat → List ByteArray → Int → Int → Option (Int)
  | 0, _, _, _ => none
  | k + 1, x0, x1, x5 => if x5 < (x0.length : Int) then (if 0 ≤ x5 then ((laws_markText.f k x1).bind fun t112 => (if (rdOf ByteArray.empty x0 x5).toList = t112.toList then (laws_heldStringS.l0 k x0 (wrap64 (x1 + 1)) (wrap64 (x5 + 1))) else (some (-1)))) else (none)) else (some x1)
def laws_heldStringS.f (k : Nat) (l0 : List ByteArray) (a1 : Int) : Option (Int) := laws_heldStringS.l0 k l0 a1 0
theorem laws_heldStringS.mono_l : ∀ k, (∀ y0 y1 y2, LeO (laws_heldStringS.l0 k y0 y1 y2) (laws_heldStringS.l0 (k + 1) y0 y1 y2))
  | 0 => fun _ _ _ r h => by simp [laws_heldStringS.l0] at h
  | k + 1 => by
    have ih0 := laws_heldStringS.mono_l k
    · intro y0 y1 y2
      unfold laws_heldStringS.l0
      repeat' first
      | (with_reducible exact ih0 _ _ _)
      | (with_reducible exact laws_markText.mono _ _)
      | (with_reducible exact LeO.refl _)
      | (with_reducible exact LeO.none _)
      | (with_reducible refine LeO.ite ?_ ?_)
      | (with_reducible refine LeO.bind ?_ (fun _ => ?_))
      | exact ih0 _ _ _
      | exact laws_markText.mono _ _
      | exact LeO.none _
      | refine LeO.ite ?_ ?_
      | refine LeO.bind ?_ (fun _ => ?_)
theorem laws_heldStringS.mono : ∀ a0 a1 k, LeO (laws_heldStringS.f k a0 a1) (laws_heldStringS.f (k + 1) a0 a1) := by
  intro a0 a1 k
  have ih0 := laws_heldStringS.mono_l k
  unfold laws_heldStringS.f
  repeat' first
      | (with_reducible exact ih0 _ _ _)
      | (with_reducible exact laws_markText.mono _ _)
      | (with_reducible exact LeO.refl _)
      | (with_reducible exact LeO.none _)
      | (with_reducible refine LeO.ite ?_ ?_)
      | (with_reducible refine LeO.bind ?_ (fun _ => ?_))
      | exact ih0 _ _ _
      | exact laws_markText.mono _ _
      | exact LeO.none _
      | refine LeO.ite ?_ ?_
      | refine LeO.bind ?_ (fun _ => ?_)
set_option maxHeartbeats 8000000 in
set_option maxRecDepth 100000 in
theorem laws_heldStringS.calls (k : Nat) (A0 : Option Addr) (c0 : Nat) (l0 : List ByteArray) (a1 : Int) (r : Int) (w : World) (hr0 : Kd.C Kd.string w A0 l0.length l0) (hc0 : l0.length ≤ c0) (h : laws_heldStringS.f k l0 a1 = some r) :
    Calls Tryz.prog 8 #[.slice A0 l0.length c0, .int .i64 a1] w fun e w' => e = .returned (.int .i64 r) ∧ Below w.heap.size w w' := by
  have HR0 := Aside0.mk hr0
  have HC0 := Aside0.mk hc0
  clear hr0 hc0
  have HB := Aside0.mk (Below.refl w.heap.size w)
  have H : (laws_heldStringS.l0 k l0 a1 0) = some r := h
  clear h
  replace HB := HB.out
  have HW := Aside0.mk (Below.refl w.heap.size w)
  go_enter Tryz.func8, Tryz.ntmps8
  go_wp2_with (fail)
  go_loopg [1, 5] k (fun kq v1 v5 w' => ∃ (x1_kl3 : Int) (x5_kl3 : Int), v1 = .int .i64 x1_kl3 ∧ v5 = .int .i64 x5_kl3 ∧ Aside0 (laws_heldStringS.l0 kq l0 x1_kl3 x5_kl3 = some r) ∧ Aside0 (kq ≤ k) ∧ Aside0 (Below w.heap.size w w'))
  case atStart => exact ⟨(a1), (0), (by first | rfl | (simp; done) | (simp [*]; done)), (by first | rfl | (simp; done) | (simp [*]; done)), ⟨H⟩, ⟨Nat.le_refl _⟩, ⟨HB⟩⟩
  case round =>
    clear H HB
    obtain ⟨x1_kl3, x5_kl3, rfl, rfl, H, HKkl3, HB⟩ := hrel
    replace HB := HB.out
    replace H := H.out
    have HLkl3 := Aside0.mk (Below.refl w.heap.size w)
    cases gk with
    | zero => exact absurd H (by simp [laws_heldStringS.l0])
    | succ kl3 =>
      simp only [laws_heldStringS.l0] at H
      by_cases c4 : x5_kl3 < (l0.length : Int)
      · rw [if_pos c4] at H
        have c4b0 : decide (x5_kl3 < (l0.length : Int)) = true := decide_eq_true c4
        clear c4
        go_wp2_with (fail)
        try simp only [Act.put, List.setIfInBounds_toArray, List.set_cons_zero, List.set_cons_succ]
        refine wp_region_inv_lit (C := fun W_ => Below w.heap.size w W_) (by kernel_rfl) (by kernel_rfl) (below_drew1 HB) ?_
        by_cases c5 : 0 ≤ x5_kl3
        · rw [if_pos c5] at H
          have c5b0 : decide (0 ≤ x5_kl3) = true := decide_eq_true c5
          clear c5
          have p111 : 0 ≤ (x5_kl3 : Int) := of_decide_eq_true (by first | (with_reducible assumption) | assumption)
          have q111 : (x5_kl3 : Int) < (l0.length : Int) := of_decide_eq_true (by first | (with_reducible assumption) | assumption)
          obtain ⟨ad111, e111, hx111_0⟩ := Kd.at_string HR0.out x5_kl3 p111 q111
          cases e111
          replace hx111_0 := cellB hx111_0
          replace p111 := eq_true p111
          replace q111 := eq_true q111
          replace H := Option.bind_eq_some_iff.mp H
          obtain ⟨t112, A6, H⟩ := H
          try dsimp only at H
          replace A6 := Aside0.mk A6
          by_cases c7 : (rdOf ByteArray.empty l0 x5_kl3).toList = t112.toList
          · rw [if_pos c7] at H
            have c7b0 : ((rdOf ByteArray.empty l0 x5_kl3).toList == t112.toList) = true := beq_iff_eq.mpr c7
            have c7b1 : ((rdOf ByteArray.empty l0 x5_kl3).toList != t112.toList) = false := bne_eq_false_iff_eq.mpr c7
            clear c7
            repeat (first | go_big_quiet_skip | (go_big_quiet_want; go_big_quiet_op; first | go_big_quiet_on | (with_reducible apply Exists.intro; refine ⟨fun W hW => ?_, ?_⟩; (first | with_reducible rfl | (go_at_call 11; exact callB (laws_markText.calls kl3 _ _ _  A6.out) hW) | (go_simp; with_reducible rfl)); go_big_quiet_on)))
            with_reducible refine wpQuiet_nil ?_
            intro w8 hb
            replace HB : Below w.heap.size w w8 := hb
            clear hb
            go_wp2_with (fail)
            go_roundg kl3
            case measure => have := HKkl3.out; omega
            case rel => exact ⟨(wrap64 (x1_kl3 + 1)), (wrap64 (x5_kl3 + 1)), (by first | rfl | (simp; done) | (simp [*]; done)), (by first | rfl | (simp; done) | (simp [*]; done)), ⟨H⟩, ⟨by have := HKkl3.out; omega⟩, ⟨below_step HLkl3.out HB⟩⟩
          · rw [if_neg c7] at H
            have c7b0 : ((rdOf ByteArray.empty l0 x5_kl3).toList == t112.toList) = false := beq_eq_false_iff_ne.mpr c7
            have c7b1 : ((rdOf ByteArray.empty l0 x5_kl3).toList != t112.toList) = true := bne_iff_ne.mpr c7
            obtain rfl := Option.some.inj H
            repeat (first | go_big_quiet_skip | (go_big_quiet_want; go_big_quiet_op; first | go_big_quiet_on | (with_reducible apply Exists.intro; refine ⟨fun W hW => ?_, ?_⟩; (first | with_reducible rfl | (go_at_call 11; exact callB (laws_markText.calls kl3 _ _ _  A6.out) hW) | (go_simp; with_reducible rfl)); go_big_quiet_on)))
            with_reducible refine wpQuiet_nil ?_
            intro w9 hb
            replace HB : Below w.heap.size w w9 := hb
            clear hb
            go_wp2_with (fail)
            go_ret
            exact ⟨by first | rfl | (simp [errW_none, errW_some] <;> rfl) | (simp [*, errW_none, errW_some] <;> rfl), below_step HW.out HB⟩
        · rw [if_neg c5] at H
          exact absurd H (by simp)
      · rw [if_neg c4] at H
        have c4b0 : decide (x5_kl3 < (l0.length : Int)) = false := decide_eq_false c4
        clear c4
        obtain rfl := Option.some.inj H
        go_wp2_with (fail)
        go_ret
        exact ⟨by first | rfl | (simp [errW_none, errW_some] <;> rfl) | (simp [*, errW_none, errW_some] <;> rfl), below_step HW.out HB⟩

end Go.Proofs.YtiibnjceahkngaaGreatDoor.Q
