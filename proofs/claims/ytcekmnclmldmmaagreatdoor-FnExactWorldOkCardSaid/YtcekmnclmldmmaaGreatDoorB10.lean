import Derived.Test.YtcekmnclmldmmaaGreatDoorB09
set_option linter.unusedVariables false
set_option linter.unusedSimpArgs false
namespace Go.Proofs.YtcekmnclmldmmaaGreatDoor.Q
open Go.RowKit W1 W2 W3
attribute [local go_sem] max2_int min2_int max_two min_two max_three min_three max_four min_four
attribute [local go_sem high] bl_leq bl_gtr bl_geq
set_option maxHeartbeats 8000000
set_option maxRecDepth 100000
mutual
def impl_TreeOk.l0 : Nat → List (S96) → List ByteArray → List (S96) → Int → Int → Option (Bool)
 | 0, _, _, _, _, _ => none
 | k + 1, x0, x3, x14, x15, x16 => if x16 < x15 then (if 0 ≤ x16 then (if x16 < (x14.length : Int) then ((impl_pathOk.f k ((rd_T96 x14 x16).f0)).bind fun t465 => (if t465 = true then (if x16 > 0 then (if 0 ≤ (wrap64 (x16 - 1)) then (if (wrap64 (x16 - 1)) < (x0.length : Int) then (if ((Op.bytesLess (((rd_T96 x0 (wrap64 (x16 - 1))).f0).toList) (((rd_T96 x14 x16).f0).toList)) = true) then (if (rd_T96 x14 x16).f3 = true then (if ((rd_T96 x14 x16).f1) = 2 then (if ((rd_T96 x14 x16).f1) = 1 then (if ((rd_T96 x14 x16).f2).toList = ([] : List UInt8) then ((MapSet.put x3 ((rd_T96 x14 x16).f0)).bind fun t467 => (impl_TreeOk.l0 k x0 t467 x14 x15 (wrap64 (x16 + 1)))) else (some false)) else (if (((rd_T96 x14 x16).f2).size : Int) > 20000 then (some false) else (impl_TreeOk.l0 k x0 x3 x14 x15 (wrap64 (x16 + 1))))) else (some false)) else (if ((rd_T96 x14 x16).f1) = 1 then (if ((rd_T96 x14 x16).f2).toList = ([] : List UInt8) then ((MapSet.put x3 ((rd_T96 x14 x16).f0)).bind fun t468 => (impl_TreeOk.l0 k x0 t468 x14 x15 (wrap64 (x16 + 1)))) else (some false)) else (if ((rd_T96 x14 x16).f1) = 2 then (if (((rd_T96 x14 x16).f2).size : Int) > 20000 then (some false) else (impl_TreeOk.l0 k x0 x3 x14 x15 (wrap64 (x16 + 1)))) else (if ((rd_T96 x14 x16).f1) = 3 then (if (((rd_T96 x14 x16).f2).size : Int) < 1 then (some false) else (if (((rd_T96 x14 x16).f2).size : Int) > 20000 then (some false) else (impl_TreeOk.l0 k x0 x3 x14 x15 (wrap64 (x16 + 1))))) else (some false))))) else (some false)) else (none)) else (none)) else (if (rd_T96 x14 x16).f3 = true then (if ((rd_T96 x14 x16).f1) = 2 then (if ((rd_T96 x14 x16).f1) = 1 then (if ((rd_T96 x14 x16).f2).toList = ([] : List UInt8) then ((MapSet.put x3 ((rd_T96 x14 x16).f0)).bind fun t469 => (impl_TreeOk.l0 k x0 t469 x14 x15 (wrap64 (x16 + 1)))) else (some false)) else (if (((rd_T96 x14 x16).f2).size : Int) > 20000 then (some false) else (impl_TreeOk.l0 k x0 x3 x14 x15 (wrap64 (x16 + 1))))) else (some false)) else (if ((rd_T96 x14 x16).f1) = 1 then (if ((rd_T96 x14 x16).f2).toList = ([] : List UInt8) then ((MapSet.put x3 ((rd_T96 x14 x16).f0)).bind fun t470 => (impl_TreeOk.l0 k x0 t470 x14 x15 (wrap64 (x16 + 1)))) else (some false)) else (if ((rd_T96 x14 x16).f1) = 2 then (if (((rd_T96 x14 x16).f2).size : Int) > 20000 then (some false) else (impl_TreeOk.l0 k x0 x3 x14 x15 (wrap64 (x16 + 1)))) else (if ((rd_T96 x14 x16).f1) = 3 then (if (((rd_T96 x14 x16).f2).size : Int) < 1 then (some false) else (if (((rd_T96 x14 x16).f2).size : Int) > 20000 then (some false) else (impl_TreeOk.l0 k x0 x3 x14 x15 (wrap64 (x16 + 1))))) else (some false)))))) else (some false))) else (none)) else (none)) else (impl_TreeOk.l1 k x3 x0 (x0.length : Int) 0)
def impl_TreeOk.l1 : Nat → List ByteArray → List (S96) → Int → Int → Option (Bool)
 | 0, _, _, _, _ => none
 | k + 1, x3, x78, x79, x80 => if x80 < x79 then (if 0 ≤ x80 then (if x80 < (x78.length : Int) then ((impl_upper.f k ((rd_T96 x78 x80).f0)).bind fun bt473 => (if bt473.2 = true then ((MapSet.get x3 bt473.1).bind fun t475 => (if t475 = 0 then (some false) else (impl_TreeOk.l1 k x3 x78 x79 (wrap64 (x80 + 1))))) else (impl_TreeOk.l1 k x3 x78 x79 (wrap64 (x80 + 1))))) else (none)) else (none)) else (some true)
end
def impl_TreeOk.f (k : Nat) (l0 : List (S96)) : Option (Bool) := if (l0.length : Int) > 500 then (some false) else (impl_TreeOk.l0 k l0 ([] : List ByteArray) l0 (l0.length : Int) 0)
theorem impl_TreeOk.mono_l : ∀ k, (∀ y0 y1 y2 y3 y4, LeO (impl_TreeOk.l0 k y0 y1 y2 y3 y4) (impl_TreeOk.l0 (k + 1) y0 y1 y2 y3 y4)) ∧ (∀ y0 y1 y2 y3, LeO (impl_TreeOk.l1 k y0 y1 y2 y3) (impl_TreeOk.l1 (k + 1) y0 y1 y2 y3))
 | 0 => ⟨fun _ _ _ _ _ r h => by simp [impl_TreeOk.l0] at h, fun _ _ _ _ r h => by simp [impl_TreeOk.l1] at h⟩
 | k + 1 => by
  obtain ⟨ih0, ih1⟩ := impl_TreeOk.mono_l k
  refine ⟨?_, ?_⟩
  ·intro y0 y1 y2 y3 y4
   unfold impl_TreeOk.l0
   have m0 := @impl_pathOk.mono
   have m1 := @impl_upper.mono
   exact zM
  ·intro y0 y1 y2 y3
   unfold impl_TreeOk.l1
   have m0 := @impl_pathOk.mono
   have m1 := @impl_upper.mono
   exact zM
theorem impl_TreeOk.mono : ∀ a0 k, LeO (impl_TreeOk.f k a0) (impl_TreeOk.f (k + 1) a0) := by
 intro a0 k
 obtain ⟨ih0, ih1⟩ := impl_TreeOk.mono_l k
 unfold impl_TreeOk.f
 have m0 := @impl_pathOk.mono
 have m1 := @impl_upper.mono
 exact zM
theorem impl_TreeOk.calls (k : Nat) (A0 : Option Addr) (c0 : Nat) (l0 : List (S96)) (r : Bool) (w : World) (hr0 : Kd.C k96 w A0 l0.length l0) (hc0 : l0.length ≤ c0) (hG_ : GOK w) (h : impl_TreeOk.f k l0 = some r) :
 Calls Tryz.prog 66 #[.slice A0 l0.length c0] w fun e w' => e = .returned (.bool r) ∧ Below w.heap.size w w' := by
 have hu96 := Tryz.underlying96
 have HG := zz hG_
 clear hG_
 have HR0 := zz hr0
 have HC0 := zz hc0
 clear hr0 hc0
 have HB := zz (Below.refl w.heap.size w)
 unfold impl_TreeOk.f at h
 have H := h
 clear h
 replace HB := HB.out
 have HW := zz (Below.refl w.heap.size w)
 go_enter Tryz.func66, Tryz.ntmps66
 by_cases c2 : (l0.length : Int) > 500
 ·rw [if_pos c2] at H
  have c2b0 := zgt c2
  have c2b1 : decide (500 < l0.length) = true := z1 (by omega)
  clear c2
  obtain rfl := zi H
  go_wp2_with (fail)
  go_ret
  exact ⟨ze, zv HW.out HB⟩
 rw [if_neg c2] at H
 have c2b0 := zgtn c2
 have c2b1 : decide (500 < l0.length) = false := z0 (by omega)
 clear c2
 go_wp2_with (first | (refine zN 13 ?_; refine MapSet.make_event ?hg (N := 13) ?hd (t := 136) ?ho ?_; (case hd => rfl); (case hg => rfl); (case ho => rfl); intro bm wm hbm hms hb; have HBM := zz (Nat.le_trans (below_size HB) hbm); have HM := zz hms; have HLm := zz (Below.refl wm.heap.size wm); replace HB := zv HB hb; clear hb hbm hms))
 go_loopg [16] k (fun kq v16 w' => ∃ (x3_kl3 : List ByteArray) (x16_kl3 : Int), v16 = .int .i64 x16_kl3 ∧ Aside0 (impl_TreeOk.l0 kq l0 x3_kl3 l0 (l0.length : Int) x16_kl3 = some r) ∧ Aside0 (kq ≤ k) ∧ Aside0 (Below w.heap.size w w') ∧ Aside0 (MapSet.MS w' bm x3_kl3))
 case atStart => exact ⟨([] : List ByteArray), (0), zr, ⟨H⟩, ⟨Nat.le_refl _⟩, ⟨HB⟩, HM⟩
 case round =>
  clear H HB
  try clear HM
  obtain ⟨x3_kl3, x16_kl3, rfl, H, HKkl3, HB, HM_⟩ := hrel
  have HM := HM_
  clear HM_
  replace HB := HB.out
  replace H := H.out
  rename World => w
  have HLkl3 := zz HB
  replace HW := zz (zv HW.out HB)
  replace HR0 := zz (Kd.C_below HR0.out HB)
  have HLm := zz (Below.refl w.heap.size w)
  replace HB := Below.refl w.heap.size w
  cases gk with
  | zero => exact absurd H (by simp [impl_TreeOk.l0])
  | succ kl3 =>
   simp only [impl_TreeOk.l0] at H
   by_cases c4 : x16_kl3 < (l0.length : Int)
   ·rw [if_pos c4] at H
    have c4b0 := z1 c4
    clear c4
    by_cases c5 : 0 ≤ x16_kl3
    case neg => exact zno H c5
    rw [if_pos c5] at H
    have c5b0 := z1 c5
    clear c5
    by_cases c6 : x16_kl3 < (l0.length : Int)
    case neg => exact zno H c6
    rw [if_pos c6] at H
    have c6b0 := z1 c6
    clear c6
    have p463 : 0 ≤ (x16_kl3 : Int) := z2
    have q463 : (x16_kl3 : Int) < (l0.length : Int) := z2
    obtain ⟨ad463, e463, hx463_0, hx463_1, hx463_2, hx463_3⟩ := at_T96 HR0.out x16_kl3 p463 q463
    cases e463
    replace hx463_0 := cellB hx463_0
    replace hx463_1 := cellB hx463_1
    replace hx463_2 := cellB hx463_2
    replace hx463_3 := cellB hx463_3
    replace p463 := eq_true p463
    replace q463 := eq_true q463
    go_wp2_with (first | (refine zN 5 ?_; (try (refine z4 ?_; dsimp only)); refine zX 5 96 #[.string (⟨#[]⟩ : ByteArray), .int .i64 0, .string (⟨#[]⟩ : ByteArray), .bool false] ?_; intro gb464 hg w7 hbox hb; have hge : w.heap.size ≤ gb464 := (by rw [hg]; exact below_size HB); clear hg; have hst : Below w.heap.size w ((((w7.setCell ⟨gb464, 0, none⟩ (.string ((rd_T96 l0 x16_kl3).f0))).setCell ⟨gb464, 1, none⟩ (.int .i64 ((rd_T96 l0 x16_kl3).f1))).setCell ⟨gb464, 2, none⟩ (.string ((rd_T96 l0 x16_kl3).f2))).setCell ⟨gb464, 3, none⟩ (.bool ((rd_T96 l0 x16_kl3).f3))) := (below_set (below_set (below_set (below_set (zv HB hb) hge) hge) hge) hge); have hbx : ((((w7.setCell ⟨gb464, 0, none⟩ (.string ((rd_T96 l0 x16_kl3).f0))).setCell ⟨gb464, 1, none⟩ (.int .i64 ((rd_T96 l0 x16_kl3).f1))).setCell ⟨gb464, 2, none⟩ (.string ((rd_T96 l0 x16_kl3).f2))).setCell ⟨gb464, 3, none⟩ (.bool ((rd_T96 l0 x16_kl3).f3))).heap[gb464]? = some (.cells #[.string ((rd_T96 l0 x16_kl3).f0), .int .i64 ((rd_T96 l0 x16_kl3).f1), .string ((rd_T96 l0 x16_kl3).f2), .bool ((rd_T96 l0 x16_kl3).f3)] 96 (0, 0)) := (blk_put (cs := #[.string ((rd_T96 l0 x16_kl3).f0), .int .i64 ((rd_T96 l0 x16_kl3).f1), .string ((rd_T96 l0 x16_kl3).f2), .bool false]) (blk_put (cs := #[.string ((rd_T96 l0 x16_kl3).f0), .int .i64 ((rd_T96 l0 x16_kl3).f1), .string (⟨#[]⟩ : ByteArray), .bool false]) (blk_put (cs := #[.string ((rd_T96 l0 x16_kl3).f0), .int .i64 0, .string (⟨#[]⟩ : ByteArray), .bool false]) (blk_put (cs := #[.string (⟨#[]⟩ : ByteArray), .int .i64 0, .string (⟨#[]⟩ : ByteArray), .bool false]) hbox 0 _ rfl) 1 _ rfl) 2 _ rfl) 3 _ rfl); obtain ⟨hs464_0, hs464_1, hs464_2, hs464_3, hf464_0, hf464_1, hf464_2, hf464_3⟩ := zc4 hbox) | ((with_reducible refine gate_store (t := 96) (p := 5) rfl ?_); (try (refine z4 ?_; dsimp only)); refine store_event (t := 96) (p := 5) (v := ?vo_w8) (w1 := ((((w7.setCell ⟨gb464, 0, none⟩ (.string ((rd_T96 l0 x16_kl3).f0))).setCell ⟨gb464, 1, none⟩ (.int .i64 ((rd_T96 l0 x16_kl3).f1))).setCell ⟨gb464, 2, none⟩ (.string ((rd_T96 l0 x16_kl3).f2))).setCell ⟨gb464, 3, none⟩ (.bool ((rd_T96 l0 x16_kl3).f3)))) ?hg ?ho ?hn ?hr ?_; (case ho => rfl); (case hg => rfl); (case hn => rfl); (case hr => first | (go_simp; done) | (go_simp; rfl)); intro w8 hw; replace hst := hst; rw [← hw] at hst hbx; clear hw hb hbox hge HB hs464_0 hf464_0 hs464_1 hf464_1 hs464_2 hf464_2 hs464_3 hf464_3; replace HW := zz (zv HW.out hst); replace HLm := zz (zv HLm.out hst); replace HLkl3 := zz (zv HLkl3.out hst); replace HR0 := zz (Kd.C_below HR0.out hst); replace hx463_0 := rebase hx463_0 hst; replace hx463_1 := rebase hx463_1 hst; replace hx463_2 := rebase hx463_2 hst; replace hx463_3 := rebase hx463_3 hst; obtain ⟨hbx464_0, hbx464_1, hbx464_2, hbx464_3⟩ := zx4 hbx; have HB := Below.refl w8.heap.size w8; clear hbx hst))
    try simp only [Act.put, List.setIfInBounds_toArray, List.set_cons_zero, List.set_cons_succ]
    refine wp_region_inv_lit (C := fun W_ => Below w8.heap.size w8 W_) zk zk (below_drew1 HB) ?_
    replace H := zf H
    obtain ⟨t465, A9, H⟩ := H
    try dsimp only at H
    replace A9 := zz A9
    by_cases c10 : t465 = true
    case neg =>
     replace c10 := Bool.eq_false_iff.mpr c10
     subst c10
     rw [if_neg (by decide)] at H
     obtain rfl := zi H
     repeat (first | go_big_quiet_skip | (go_big_quiet_want; go_big_quiet_op; first | go_big_quiet_on | (with_reducible apply Exists.intro; refine ⟨fun W hW => ?_, ?_⟩; (first | with_reducible rfl | (go_at_call 105; exact callB (impl_pathOk.calls kl3 _ _ _  (GOK.below HG.out (zv HW.out hW)) A9.out) hW) | (go_simp; with_reducible rfl)); go_big_quiet_on)))
     clear HB
     refine zW fun w75 (HB : Below w8.heap.size w8 w75) => ?_
     go_wp2_with (fail)
     go_ret
     exact ⟨ze, zv HW.out HB⟩
    subst c10
    rw [if_pos rfl] at H
    by_cases c11 : x16_kl3 > 0
    case neg =>
     rw [if_neg c11] at H
     have c11b0 := zgtn c11
     clear c11
     by_cases c46 : (rd_T96 l0 x16_kl3).f3 = true
     ·rw [if_pos c46] at H
      have c46b0 : (rd_T96 l0 x16_kl3).f3 = true := c46
      clear c46
      by_cases c47 : ((rd_T96 l0 x16_kl3).f1) = 2
      case neg =>
       rw [if_neg c47] at H
       obtain ⟨c47b0, c47b1⟩ := zw c47
       obtain rfl := zi H
       repeat (first | go_big_quiet_skip | (go_big_quiet_want; go_big_quiet_op; first | go_big_quiet_on | (with_reducible apply Exists.intro; refine ⟨fun W hW => ?_, ?_⟩; (first | with_reducible rfl | (go_at_call 105; exact callB (impl_pathOk.calls kl3 _ _ _  (GOK.below HG.out (zv HW.out hW)) A9.out) hW) | (go_simp; with_reducible rfl)); go_big_quiet_on)))
       clear HB
       refine zW fun w57 (HB : Below w8.heap.size w8 w57) => ?_
       go_wp2_with (fail)
       go_ret
       exact ⟨ze, zv HW.out HB⟩
      rw [if_pos c47] at H
      obtain ⟨c47b0, c47b1⟩ := zq c47
      clear c47
      by_cases c48 : ((rd_T96 l0 x16_kl3).f1) = 1
      case neg =>
       rw [if_neg c48] at H
       obtain ⟨c48b0, c48b1⟩ := zw c48
       by_cases c54 : (((rd_T96 l0 x16_kl3).f2).size : Int) > 20000
       ·rw [if_pos c54] at H
        have c54b0 := zgt c54
        have c54b1 : decide (20000 < ((rd_T96 l0 x16_kl3).f2).size) = true := z1 (by omega)
        clear c54
        obtain rfl := zi H
        repeat (first | go_big_quiet_skip | (go_big_quiet_want; go_big_quiet_op; first | go_big_quiet_on | (with_reducible apply Exists.intro; refine ⟨fun W hW => ?_, ?_⟩; (first | with_reducible rfl | (go_at_call 105; exact callB (impl_pathOk.calls kl3 _ _ _  (GOK.below HG.out (zv HW.out hW)) A9.out) hW) | (go_simp; with_reducible rfl)); go_big_quiet_on)))
        clear HB
        refine zW fun w55 (HB : Below w8.heap.size w8 w55) => ?_
        go_wp2_with (fail)
        go_ret
        exact ⟨ze, zv HW.out HB⟩
       rw [if_neg c54] at H
       have c54b0 := zgtn c54
       have c54b1 : decide (20000 < ((rd_T96 l0 x16_kl3).f2).size) = false := z0 (by omega)
       clear c54
       repeat (first | go_big_quiet_skip | (go_big_quiet_want; go_big_quiet_op; first | go_big_quiet_on | (with_reducible apply Exists.intro; refine ⟨fun W hW => ?_, ?_⟩; (first | with_reducible rfl | (go_at_call 105; exact callB (impl_pathOk.calls kl3 _ _ _  (GOK.below HG.out (zv HW.out hW)) A9.out) hW) | (go_simp; with_reducible rfl)); go_big_quiet_on)))
       clear HB
       refine zW fun w56 (HB : Below w8.heap.size w8 w56) => ?_
       go_wp2_with (fail)
       go_roundg kl3
       case measure => have := HKkl3.out; omega
       case rel => exact ⟨(x3_kl3), (wrap64 (x16_kl3 + 1)), zr, ⟨H⟩, ⟨by have := HKkl3.out; omega⟩, ⟨zv HLkl3.out HB⟩, ⟨HM.out.below (zv HLm.out HB)⟩⟩
      rw [if_pos c48] at H
      obtain ⟨c48b0, c48b1⟩ := zq c48
      clear c48
      by_cases c49 : ((rd_T96 l0 x16_kl3).f2).toList = ([] : List UInt8)
      case neg =>
       rw [if_neg c49] at H
       obtain ⟨c49b0, c49b1⟩ := zw c49
       obtain rfl := zi H
       repeat (first | go_big_quiet_skip | (go_big_quiet_want; go_big_quiet_op; first | go_big_quiet_on | (with_reducible apply Exists.intro; refine ⟨fun W hW => ?_, ?_⟩; (first | with_reducible rfl | (go_at_call 105; exact callB (impl_pathOk.calls kl3 _ _ _  (GOK.below HG.out (zv HW.out hW)) A9.out) hW) | (go_simp; with_reducible rfl)); go_big_quiet_on)))
       clear HB
       refine zW fun w53 (HB : Below w8.heap.size w8 w53) => ?_
       go_wp2_with (fail)
       go_ret
       exact ⟨ze, zv HW.out HB⟩
      rw [if_pos c49] at H
      obtain ⟨c49b0, c49b1⟩ := zq c49
      clear c49
      replace H := zf H
      obtain ⟨t469, A50, H⟩ := H
      try dsimp only at H
      replace A50 := zz A50
      repeat (first | go_big_quiet_skip | (go_big_quiet_want; go_big_quiet_op; first | go_big_quiet_on | (with_reducible apply Exists.intro; refine ⟨fun W hW => ?_, ?_⟩; (first | with_reducible rfl | (go_at_call 105; exact callB (impl_pathOk.calls kl3 _ _ _  (GOK.below HG.out (zv HW.out hW)) A9.out) hW) | (go_simp; with_reducible rfl)); go_big_quiet_on)))
      clear HB
      refine zW fun w51 (HB : Below w8.heap.size w8 w51) => ?_
      go_wp2_with (first | ((with_reducible refine MapSet.gate_put (t := 136) (m := 56) (k := 58) rfl ?_); refine MapSet.put_event rfl rfl rfl rfl (HM.out.below (zv HLm.out HB)) A50.out ?_; intro w52 hms hg; have n1_ := zz hms; have n2_ := zz (MapSet.grown (zv HLkl3.out HB) hg HBM.out); have n3_ := zz (MapSet.grown (zv HW.out HB) hg HBM.out); clear HM HB HLm HW HLkl3 hms hg; have HM := n1_; have HLkl3 := n2_; have HW := n3_; have HB := Below.refl w52.heap.size w52; have HLm := zz (Below.refl w52.heap.size w52); clear n1_ n2_ n3_))
      go_roundg kl3
      case measure => have := HKkl3.out; omega
      case rel => exact ⟨(t469), (wrap64 (x16_kl3 + 1)), zr, ⟨H⟩, ⟨by have := HKkl3.out; omega⟩, ⟨zv HLkl3.out HB⟩, ⟨HM.out.below (zv HLm.out HB)⟩⟩
     rw [if_neg c46] at H
     have c46b0 : (rd_T96 l0 x16_kl3).f3 = false := by simpa using c46
     clear c46
     by_cases c58 : ((rd_T96 l0 x16_kl3).f1) = 1
     case neg =>
      rw [if_neg c58] at H
      obtain ⟨c58b0, c58b1⟩ := zw c58
      by_cases c64 : ((rd_T96 l0 x16_kl3).f1) = 2
      case neg =>
       rw [if_neg c64] at H
       obtain ⟨c64b0, c64b1⟩ := zw c64
       by_cases c68 : ((rd_T96 l0 x16_kl3).f1) = 3
       case neg =>
        rw [if_neg c68] at H
        obtain ⟨c68b0, c68b1⟩ := zw c68
        obtain rfl := zi H
        repeat (first | go_big_quiet_skip | (go_big_quiet_want; go_big_quiet_op; first | go_big_quiet_on | (with_reducible apply Exists.intro; refine ⟨fun W hW => ?_, ?_⟩; (first | with_reducible rfl | (go_at_call 105; exact callB (impl_pathOk.calls kl3 _ _ _  (GOK.below HG.out (zv HW.out hW)) A9.out) hW) | (go_simp; with_reducible rfl)); go_big_quiet_on)))
        clear HB
        refine zW fun w74 (HB : Below w8.heap.size w8 w74) => ?_
        go_wp2_with (fail)
        go_ret
        exact ⟨ze, zv HW.out HB⟩
       rw [if_pos c68] at H
       obtain ⟨c68b0, c68b1⟩ := zq c68
       clear c68
       by_cases c69 : (((rd_T96 l0 x16_kl3).f2).size : Int) < 1
       ·rw [if_pos c69] at H
        have c69b0 := z1 c69
        have c69b1 : decide (((rd_T96 l0 x16_kl3).f2).size < 1) = true := z1 (by omega)
        clear c69
        obtain rfl := zi H
        repeat (first | go_big_quiet_skip | (go_big_quiet_want; go_big_quiet_op; first | go_big_quiet_on | (with_reducible apply Exists.intro; refine ⟨fun W hW => ?_, ?_⟩; (first | with_reducible rfl | (go_at_call 105; exact callB (impl_pathOk.calls kl3 _ _ _  (GOK.below HG.out (zv HW.out hW)) A9.out) hW) | (go_simp; with_reducible rfl)); go_big_quiet_on)))
        clear HB
        refine zW fun w70 (HB : Below w8.heap.size w8 w70) => ?_
        go_wp2_with (fail)
        go_ret
        exact ⟨ze, zv HW.out HB⟩
       rw [if_neg c69] at H
       have c69b0 := z0 c69
       have c69b1 : decide (((rd_T96 l0 x16_kl3).f2).size < 1) = false := z0 (by omega)
       clear c69
       by_cases c71 : (((rd_T96 l0 x16_kl3).f2).size : Int) > 20000
       ·rw [if_pos c71] at H
        have c71b0 := zgt c71
        have c71b1 : decide (20000 < ((rd_T96 l0 x16_kl3).f2).size) = true := z1 (by omega)
        clear c71
        obtain rfl := zi H
        repeat (first | go_big_quiet_skip | (go_big_quiet_want; go_big_quiet_op; first | go_big_quiet_on | (with_reducible apply Exists.intro; refine ⟨fun W hW => ?_, ?_⟩; (first | with_reducible rfl | (go_at_call 105; exact callB (impl_pathOk.calls kl3 _ _ _  (GOK.below HG.out (zv HW.out hW)) A9.out) hW) | (go_simp; with_reducible rfl)); go_big_quiet_on)))
        clear HB
        refine zW fun w72 (HB : Below w8.heap.size w8 w72) => ?_
        go_wp2_with (fail)
        go_ret
        exact ⟨ze, zv HW.out HB⟩
       rw [if_neg c71] at H
       have c71b0 := zgtn c71
       have c71b1 : decide (20000 < ((rd_T96 l0 x16_kl3).f2).size) = false := z0 (by omega)
       clear c71
       repeat (first | go_big_quiet_skip | (go_big_quiet_want; go_big_quiet_op; first | go_big_quiet_on | (with_reducible apply Exists.intro; refine ⟨fun W hW => ?_, ?_⟩; (first | with_reducible rfl | (go_at_call 105; exact callB (impl_pathOk.calls kl3 _ _ _  (GOK.below HG.out (zv HW.out hW)) A9.out) hW) | (go_simp; with_reducible rfl)); go_big_quiet_on)))
       clear HB
       refine zW fun w73 (HB : Below w8.heap.size w8 w73) => ?_
       go_wp2_with (fail)
       go_roundg kl3
       case measure => have := HKkl3.out; omega
       case rel => exact ⟨(x3_kl3), (wrap64 (x16_kl3 + 1)), zr, ⟨H⟩, ⟨by have := HKkl3.out; omega⟩, ⟨zv HLkl3.out HB⟩, ⟨HM.out.below (zv HLm.out HB)⟩⟩
      rw [if_pos c64] at H
      obtain ⟨c64b0, c64b1⟩ := zq c64
      clear c64
      by_cases c65 : (((rd_T96 l0 x16_kl3).f2).size : Int) > 20000
      ·rw [if_pos c65] at H
       have c65b0 := zgt c65
       have c65b1 : decide (20000 < ((rd_T96 l0 x16_kl3).f2).size) = true := z1 (by omega)
       clear c65
       obtain rfl := zi H
       repeat (first | go_big_quiet_skip | (go_big_quiet_want; go_big_quiet_op; first | go_big_quiet_on | (with_reducible apply Exists.intro; refine ⟨fun W hW => ?_, ?_⟩; (first | with_reducible rfl | (go_at_call 105; exact callB (impl_pathOk.calls kl3 _ _ _  (GOK.below HG.out (zv HW.out hW)) A9.out) hW) | (go_simp; with_reducible rfl)); go_big_quiet_on)))
       clear HB
       refine zW fun w66 (HB : Below w8.heap.size w8 w66) => ?_
       go_wp2_with (fail)
       go_ret
       exact ⟨ze, zv HW.out HB⟩
      rw [if_neg c65] at H
      have c65b0 := zgtn c65
      have c65b1 : decide (20000 < ((rd_T96 l0 x16_kl3).f2).size) = false := z0 (by omega)
      clear c65
      repeat (first | go_big_quiet_skip | (go_big_quiet_want; go_big_quiet_op; first | go_big_quiet_on | (with_reducible apply Exists.intro; refine ⟨fun W hW => ?_, ?_⟩; (first | with_reducible rfl | (go_at_call 105; exact callB (impl_pathOk.calls kl3 _ _ _  (GOK.below HG.out (zv HW.out hW)) A9.out) hW) | (go_simp; with_reducible rfl)); go_big_quiet_on)))
      clear HB
      refine zW fun w67 (HB : Below w8.heap.size w8 w67) => ?_
      go_wp2_with (fail)
      go_roundg kl3
      case measure => have := HKkl3.out; omega
      case rel => exact ⟨(x3_kl3), (wrap64 (x16_kl3 + 1)), zr, ⟨H⟩, ⟨by have := HKkl3.out; omega⟩, ⟨zv HLkl3.out HB⟩, ⟨HM.out.below (zv HLm.out HB)⟩⟩
     rw [if_pos c58] at H
     obtain ⟨c58b0, c58b1⟩ := zq c58
     clear c58
     by_cases c59 : ((rd_T96 l0 x16_kl3).f2).toList = ([] : List UInt8)
     case neg =>
      rw [if_neg c59] at H
      obtain ⟨c59b0, c59b1⟩ := zw c59
      obtain rfl := zi H
      repeat (first | go_big_quiet_skip | (go_big_quiet_want; go_big_quiet_op; first | go_big_quiet_on | (with_reducible apply Exists.intro; refine ⟨fun W hW => ?_, ?_⟩; (first | with_reducible rfl | (go_at_call 105; exact callB (impl_pathOk.calls kl3 _ _ _  (GOK.below HG.out (zv HW.out hW)) A9.out) hW) | (go_simp; with_reducible rfl)); go_big_quiet_on)))
      clear HB
      refine zW fun w63 (HB : Below w8.heap.size w8 w63) => ?_
      go_wp2_with (fail)
      go_ret
      exact ⟨ze, zv HW.out HB⟩
     rw [if_pos c59] at H
     obtain ⟨c59b0, c59b1⟩ := zq c59
     clear c59
     replace H := zf H
     obtain ⟨t470, A60, H⟩ := H
     try dsimp only at H
     replace A60 := zz A60
     repeat (first | go_big_quiet_skip | (go_big_quiet_want; go_big_quiet_op; first | go_big_quiet_on | (with_reducible apply Exists.intro; refine ⟨fun W hW => ?_, ?_⟩; (first | with_reducible rfl | (go_at_call 105; exact callB (impl_pathOk.calls kl3 _ _ _  (GOK.below HG.out (zv HW.out hW)) A9.out) hW) | (go_simp; with_reducible rfl)); go_big_quiet_on)))
     clear HB
     refine zW fun w61 (HB : Below w8.heap.size w8 w61) => ?_
     go_wp2_with (first | ((with_reducible refine MapSet.gate_put (t := 136) (m := 56) (k := 58) rfl ?_); refine MapSet.put_event rfl rfl rfl rfl (HM.out.below (zv HLm.out HB)) A60.out ?_; intro w62 hms hg; have n1_ := zz hms; have n2_ := zz (MapSet.grown (zv HLkl3.out HB) hg HBM.out); have n3_ := zz (MapSet.grown (zv HW.out HB) hg HBM.out); clear HM HB HLm HW HLkl3 hms hg; have HM := n1_; have HLkl3 := n2_; have HW := n3_; have HB := Below.refl w62.heap.size w62; have HLm := zz (Below.refl w62.heap.size w62); clear n1_ n2_ n3_))
     go_roundg kl3
     case measure => have := HKkl3.out; omega
     case rel => exact ⟨(t470), (wrap64 (x16_kl3 + 1)), zr, ⟨H⟩, ⟨by have := HKkl3.out; omega⟩, ⟨zv HLkl3.out HB⟩, ⟨HM.out.below (zv HLm.out HB)⟩⟩
    rw [if_pos c11] at H
    have c11b0 := zgt c11
    clear c11
    obtain ⟨ji12, hji12⟩ : ∃ j_ : Int, (wrap64 (x16_kl3 - 1)) = j_ := ⟨_, rfl⟩
    (first | rw [hji12] at H | simp only [hji12] at H)
    have hji12w : (IntKind.i64.wrap (x16_kl3 - 1)) = ji12 := (i64_w _).trans hji12
    (try rw [hji12] at A9)
    by_cases c13 : 0 ≤ (ji12)
    case neg => exact zno H c13
    rw [if_pos c13] at H
    have c13b0 := z1 c13
    clear c13
    by_cases c14 : (ji12) < (l0.length : Int)
    case neg => exact zno H c14
    rw [if_pos c14] at H
    have c14b0 := z1 c14
    clear c14
    have p466 : 0 ≤ ((ji12) : Int) := z2
    have q466 : ((ji12) : Int) < (l0.length : Int) := z2
    obtain ⟨ad466, e466, hx466_0, hx466_1, hx466_2, hx466_3⟩ := at_T96 HR0.out (ji12) p466 q466
    obtain rfl : ad463 = ad466 := (by injection e466)
    replace hx466_0 := cellB hx466_0
    replace hx466_1 := cellB hx466_1
    replace hx466_2 := cellB hx466_2
    replace hx466_3 := cellB hx466_3
    replace p466 := eq_true p466
    replace q466 := eq_true q466
    by_cases c15 : ((Op.bytesLess (((rd_T96 l0 (ji12)).f0).toList) (((rd_T96 l0 x16_kl3).f0).toList)) = true)
    case neg =>
     rw [if_neg c15] at H
     have c15b0 : (Op.bytesLess (((rd_T96 l0 (ji12)).f0).toList) (((rd_T96 l0 x16_kl3).f0).toList)) = false := by simpa using c15
     clear c15
     obtain rfl := zi H
     repeat (first | go_big_quiet_skip | (go_big_quiet_want; go_big_quiet_op; first | go_big_quiet_on | (with_reducible apply Exists.intro; refine ⟨fun W hW => ?_, ?_⟩; (first | with_reducible rfl | (go_at_call 105; exact callB (impl_pathOk.calls kl3 _ _ _  (GOK.below HG.out (zv HW.out hW)) A9.out) hW) | (go_simp; with_reducible rfl)); go_big_quiet_on)))
     clear HB
     refine zW fun w45 (HB : Below w8.heap.size w8 w45) => ?_
     go_wp2_with (fail)
     go_ret
     exact ⟨ze, zv HW.out HB⟩
    rw [if_pos c15] at H
    have c15b0 : (Op.bytesLess (((rd_T96 l0 (ji12)).f0).toList) (((rd_T96 l0 x16_kl3).f0).toList)) = true := c15
    clear c15
    by_cases c16 : (rd_T96 l0 x16_kl3).f3 = true
    ·rw [if_pos c16] at H
     have c16b0 : (rd_T96 l0 x16_kl3).f3 = true := c16
     clear c16
     by_cases c17 : ((rd_T96 l0 x16_kl3).f1) = 2
     case neg =>
      rw [if_neg c17] at H
      obtain ⟨c17b0, c17b1⟩ := zw c17
      obtain rfl := zi H
      repeat (first | go_big_quiet_skip | (go_big_quiet_want; go_big_quiet_op; first | go_big_quiet_on | (with_reducible apply Exists.intro; refine ⟨fun W hW => ?_, ?_⟩; (first | with_reducible rfl | (go_at_call 105; exact callB (impl_pathOk.calls kl3 _ _ _  (GOK.below HG.out (zv HW.out hW)) A9.out) hW) | (go_simp; with_reducible rfl)); go_big_quiet_on)))
      clear HB
      refine zW fun w27 (HB : Below w8.heap.size w8 w27) => ?_
      go_wp2_with (fail)
      go_ret
      exact ⟨ze, zv HW.out HB⟩
     rw [if_pos c17] at H
     obtain ⟨c17b0, c17b1⟩ := zq c17
     clear c17
     by_cases c18 : ((rd_T96 l0 x16_kl3).f1) = 1
     case neg =>
      rw [if_neg c18] at H
      obtain ⟨c18b0, c18b1⟩ := zw c18
      by_cases c24 : (((rd_T96 l0 x16_kl3).f2).size : Int) > 20000
      ·rw [if_pos c24] at H
       have c24b0 := zgt c24
       have c24b1 : decide (20000 < ((rd_T96 l0 x16_kl3).f2).size) = true := z1 (by omega)
       clear c24
       obtain rfl := zi H
       repeat (first | go_big_quiet_skip | (go_big_quiet_want; go_big_quiet_op; first | go_big_quiet_on | (with_reducible apply Exists.intro; refine ⟨fun W hW => ?_, ?_⟩; (first | with_reducible rfl | (go_at_call 105; exact callB (impl_pathOk.calls kl3 _ _ _  (GOK.below HG.out (zv HW.out hW)) A9.out) hW) | (go_simp; with_reducible rfl)); go_big_quiet_on)))
       clear HB
       refine zW fun w25 (HB : Below w8.heap.size w8 w25) => ?_
       go_wp2_with (fail)
       go_ret
       exact ⟨ze, zv HW.out HB⟩
      rw [if_neg c24] at H
      have c24b0 := zgtn c24
      have c24b1 : decide (20000 < ((rd_T96 l0 x16_kl3).f2).size) = false := z0 (by omega)
      clear c24
      repeat (first | go_big_quiet_skip | (go_big_quiet_want; go_big_quiet_op; first | go_big_quiet_on | (with_reducible apply Exists.intro; refine ⟨fun W hW => ?_, ?_⟩; (first | with_reducible rfl | (go_at_call 105; exact callB (impl_pathOk.calls kl3 _ _ _  (GOK.below HG.out (zv HW.out hW)) A9.out) hW) | (go_simp; with_reducible rfl)); go_big_quiet_on)))
      clear HB
      refine zW fun w26 (HB : Below w8.heap.size w8 w26) => ?_
      go_wp2_with (fail)
      go_roundg kl3
      case measure => have := HKkl3.out; omega
      case rel => exact ⟨(x3_kl3), (wrap64 (x16_kl3 + 1)), zr, ⟨H⟩, ⟨by have := HKkl3.out; omega⟩, ⟨zv HLkl3.out HB⟩, ⟨HM.out.below (zv HLm.out HB)⟩⟩
     rw [if_pos c18] at H
     obtain ⟨c18b0, c18b1⟩ := zq c18
     clear c18
     by_cases c19 : ((rd_T96 l0 x16_kl3).f2).toList = ([] : List UInt8)
     case neg =>
      rw [if_neg c19] at H
      obtain ⟨c19b0, c19b1⟩ := zw c19
      obtain rfl := zi H
      repeat (first | go_big_quiet_skip | (go_big_quiet_want; go_big_quiet_op; first | go_big_quiet_on | (with_reducible apply Exists.intro; refine ⟨fun W hW => ?_, ?_⟩; (first | with_reducible rfl | (go_at_call 105; exact callB (impl_pathOk.calls kl3 _ _ _  (GOK.below HG.out (zv HW.out hW)) A9.out) hW) | (go_simp; with_reducible rfl)); go_big_quiet_on)))
      clear HB
      refine zW fun w23 (HB : Below w8.heap.size w8 w23) => ?_
      go_wp2_with (fail)
      go_ret
      exact ⟨ze, zv HW.out HB⟩
     rw [if_pos c19] at H
     obtain ⟨c19b0, c19b1⟩ := zq c19
     clear c19
     replace H := zf H
     obtain ⟨t467, A20, H⟩ := H
     try dsimp only at H
     replace A20 := zz A20
     repeat (first | go_big_quiet_skip | (go_big_quiet_want; go_big_quiet_op; first | go_big_quiet_on | (with_reducible apply Exists.intro; refine ⟨fun W hW => ?_, ?_⟩; (first | with_reducible rfl | (go_at_call 105; exact callB (impl_pathOk.calls kl3 _ _ _  (GOK.below HG.out (zv HW.out hW)) A9.out) hW) | (go_simp; with_reducible rfl)); go_big_quiet_on)))
     clear HB
     refine zW fun w21 (HB : Below w8.heap.size w8 w21) => ?_
     go_wp2_with (first | ((with_reducible refine MapSet.gate_put (t := 136) (m := 56) (k := 58) rfl ?_); refine MapSet.put_event rfl rfl rfl rfl (HM.out.below (zv HLm.out HB)) A20.out ?_; intro w22 hms hg; have n1_ := zz hms; have n2_ := zz (MapSet.grown (zv HLkl3.out HB) hg HBM.out); have n3_ := zz (MapSet.grown (zv HW.out HB) hg HBM.out); clear HM HB HLm HW HLkl3 hms hg; have HM := n1_; have HLkl3 := n2_; have HW := n3_; have HB := Below.refl w22.heap.size w22; have HLm := zz (Below.refl w22.heap.size w22); clear n1_ n2_ n3_))
     go_roundg kl3
     case measure => have := HKkl3.out; omega
     case rel => exact ⟨(t467), (wrap64 (x16_kl3 + 1)), zr, ⟨H⟩, ⟨by have := HKkl3.out; omega⟩, ⟨zv HLkl3.out HB⟩, ⟨HM.out.below (zv HLm.out HB)⟩⟩
    rw [if_neg c16] at H
    have c16b0 : (rd_T96 l0 x16_kl3).f3 = false := by simpa using c16
    clear c16
    by_cases c28 : ((rd_T96 l0 x16_kl3).f1) = 1
    case neg =>
     rw [if_neg c28] at H
     obtain ⟨c28b0, c28b1⟩ := zw c28
     by_cases c34 : ((rd_T96 l0 x16_kl3).f1) = 2
     case neg =>
      rw [if_neg c34] at H
      obtain ⟨c34b0, c34b1⟩ := zw c34
      by_cases c38 : ((rd_T96 l0 x16_kl3).f1) = 3
      case neg =>
       rw [if_neg c38] at H
       obtain ⟨c38b0, c38b1⟩ := zw c38
       obtain rfl := zi H
       repeat (first | go_big_quiet_skip | (go_big_quiet_want; go_big_quiet_op; first | go_big_quiet_on | (with_reducible apply Exists.intro; refine ⟨fun W hW => ?_, ?_⟩; (first | with_reducible rfl | (go_at_call 105; exact callB (impl_pathOk.calls kl3 _ _ _  (GOK.below HG.out (zv HW.out hW)) A9.out) hW) | (go_simp; with_reducible rfl)); go_big_quiet_on)))
       clear HB
       refine zW fun w44 (HB : Below w8.heap.size w8 w44) => ?_
       go_wp2_with (fail)
       go_ret
       exact ⟨ze, zv HW.out HB⟩
      rw [if_pos c38] at H
      obtain ⟨c38b0, c38b1⟩ := zq c38
      clear c38
      by_cases c39 : (((rd_T96 l0 x16_kl3).f2).size : Int) < 1
      ·rw [if_pos c39] at H
       have c39b0 := z1 c39
       have c39b1 : decide (((rd_T96 l0 x16_kl3).f2).size < 1) = true := z1 (by omega)
       clear c39
       obtain rfl := zi H
       repeat (first | go_big_quiet_skip | (go_big_quiet_want; go_big_quiet_op; first | go_big_quiet_on | (with_reducible apply Exists.intro; refine ⟨fun W hW => ?_, ?_⟩; (first | with_reducible rfl | (go_at_call 105; exact callB (impl_pathOk.calls kl3 _ _ _  (GOK.below HG.out (zv HW.out hW)) A9.out) hW) | (go_simp; with_reducible rfl)); go_big_quiet_on)))
       clear HB
       refine zW fun w40 (HB : Below w8.heap.size w8 w40) => ?_
       go_wp2_with (fail)
       go_ret
       exact ⟨ze, zv HW.out HB⟩
      rw [if_neg c39] at H
      have c39b0 := z0 c39
      have c39b1 : decide (((rd_T96 l0 x16_kl3).f2).size < 1) = false := z0 (by omega)
      clear c39
      by_cases c41 : (((rd_T96 l0 x16_kl3).f2).size : Int) > 20000
      ·rw [if_pos c41] at H
       have c41b0 := zgt c41
       have c41b1 : decide (20000 < ((rd_T96 l0 x16_kl3).f2).size) = true := z1 (by omega)
       clear c41
       obtain rfl := zi H
       repeat (first | go_big_quiet_skip | (go_big_quiet_want; go_big_quiet_op; first | go_big_quiet_on | (with_reducible apply Exists.intro; refine ⟨fun W hW => ?_, ?_⟩; (first | with_reducible rfl | (go_at_call 105; exact callB (impl_pathOk.calls kl3 _ _ _  (GOK.below HG.out (zv HW.out hW)) A9.out) hW) | (go_simp; with_reducible rfl)); go_big_quiet_on)))
       clear HB
       refine zW fun w42 (HB : Below w8.heap.size w8 w42) => ?_
       go_wp2_with (fail)
       go_ret
       exact ⟨ze, zv HW.out HB⟩
      rw [if_neg c41] at H
      have c41b0 := zgtn c41
      have c41b1 : decide (20000 < ((rd_T96 l0 x16_kl3).f2).size) = false := z0 (by omega)
      clear c41
      repeat (first | go_big_quiet_skip | (go_big_quiet_want; go_big_quiet_op; first | go_big_quiet_on | (with_reducible apply Exists.intro; refine ⟨fun W hW => ?_, ?_⟩; (first | with_reducible rfl | (go_at_call 105; exact callB (impl_pathOk.calls kl3 _ _ _  (GOK.below HG.out (zv HW.out hW)) A9.out) hW) | (go_simp; with_reducible rfl)); go_big_quiet_on)))
      clear HB
      refine zW fun w43 (HB : Below w8.heap.size w8 w43) => ?_
      go_wp2_with (fail)
      go_roundg kl3
      case measure => have := HKkl3.out; omega
      case rel => exact ⟨(x3_kl3), (wrap64 (x16_kl3 + 1)), zr, ⟨H⟩, ⟨by have := HKkl3.out; omega⟩, ⟨zv HLkl3.out HB⟩, ⟨HM.out.below (zv HLm.out HB)⟩⟩
     rw [if_pos c34] at H
     obtain ⟨c34b0, c34b1⟩ := zq c34
     clear c34
     by_cases c35 : (((rd_T96 l0 x16_kl3).f2).size : Int) > 20000
     ·rw [if_pos c35] at H
      have c35b0 := zgt c35
      have c35b1 : decide (20000 < ((rd_T96 l0 x16_kl3).f2).size) = true := z1 (by omega)
      clear c35
      obtain rfl := zi H
      repeat (first | go_big_quiet_skip | (go_big_quiet_want; go_big_quiet_op; first | go_big_quiet_on | (with_reducible apply Exists.intro; refine ⟨fun W hW => ?_, ?_⟩; (first | with_reducible rfl | (go_at_call 105; exact callB (impl_pathOk.calls kl3 _ _ _  (GOK.below HG.out (zv HW.out hW)) A9.out) hW) | (go_simp; with_reducible rfl)); go_big_quiet_on)))
      clear HB
      refine zW fun w36 (HB : Below w8.heap.size w8 w36) => ?_
      go_wp2_with (fail)
      go_ret
      exact ⟨ze, zv HW.out HB⟩
     rw [if_neg c35] at H
     have c35b0 := zgtn c35
     have c35b1 : decide (20000 < ((rd_T96 l0 x16_kl3).f2).size) = false := z0 (by omega)
     clear c35
     repeat (first | go_big_quiet_skip | (go_big_quiet_want; go_big_quiet_op; first | go_big_quiet_on | (with_reducible apply Exists.intro; refine ⟨fun W hW => ?_, ?_⟩; (first | with_reducible rfl | (go_at_call 105; exact callB (impl_pathOk.calls kl3 _ _ _  (GOK.below HG.out (zv HW.out hW)) A9.out) hW) | (go_simp; with_reducible rfl)); go_big_quiet_on)))
     clear HB
     refine zW fun w37 (HB : Below w8.heap.size w8 w37) => ?_
     go_wp2_with (fail)
     go_roundg kl3
     case measure => have := HKkl3.out; omega
     case rel => exact ⟨(x3_kl3), (wrap64 (x16_kl3 + 1)), zr, ⟨H⟩, ⟨by have := HKkl3.out; omega⟩, ⟨zv HLkl3.out HB⟩, ⟨HM.out.below (zv HLm.out HB)⟩⟩
    rw [if_pos c28] at H
    obtain ⟨c28b0, c28b1⟩ := zq c28
    clear c28
    by_cases c29 : ((rd_T96 l0 x16_kl3).f2).toList = ([] : List UInt8)
    case neg =>
     rw [if_neg c29] at H
     obtain ⟨c29b0, c29b1⟩ := zw c29
     obtain rfl := zi H
     repeat (first | go_big_quiet_skip | (go_big_quiet_want; go_big_quiet_op; first | go_big_quiet_on | (with_reducible apply Exists.intro; refine ⟨fun W hW => ?_, ?_⟩; (first | with_reducible rfl | (go_at_call 105; exact callB (impl_pathOk.calls kl3 _ _ _  (GOK.below HG.out (zv HW.out hW)) A9.out) hW) | (go_simp; with_reducible rfl)); go_big_quiet_on)))
     clear HB
     refine zW fun w33 (HB : Below w8.heap.size w8 w33) => ?_
     go_wp2_with (fail)
     go_ret
     exact ⟨ze, zv HW.out HB⟩
    rw [if_pos c29] at H
    obtain ⟨c29b0, c29b1⟩ := zq c29
    clear c29
    replace H := zf H
    obtain ⟨t468, A30, H⟩ := H
    try dsimp only at H
    replace A30 := zz A30
    repeat (first | go_big_quiet_skip | (go_big_quiet_want; go_big_quiet_op; first | go_big_quiet_on | (with_reducible apply Exists.intro; refine ⟨fun W hW => ?_, ?_⟩; (first | with_reducible rfl | (go_at_call 105; exact callB (impl_pathOk.calls kl3 _ _ _  (GOK.below HG.out (zv HW.out hW)) A9.out) hW) | (go_simp; with_reducible rfl)); go_big_quiet_on)))
    clear HB
    refine zW fun w31 (HB : Below w8.heap.size w8 w31) => ?_
    go_wp2_with (first | ((with_reducible refine MapSet.gate_put (t := 136) (m := 56) (k := 58) rfl ?_); refine MapSet.put_event rfl rfl rfl rfl (HM.out.below (zv HLm.out HB)) A30.out ?_; intro w32 hms hg; have n1_ := zz hms; have n2_ := zz (MapSet.grown (zv HLkl3.out HB) hg HBM.out); have n3_ := zz (MapSet.grown (zv HW.out HB) hg HBM.out); clear HM HB HLm HW HLkl3 hms hg; have HM := n1_; have HLkl3 := n2_; have HW := n3_; have HB := Below.refl w32.heap.size w32; have HLm := zz (Below.refl w32.heap.size w32); clear n1_ n2_ n3_))
    go_roundg kl3
    case measure => have := HKkl3.out; omega
    case rel => exact ⟨(t468), (wrap64 (x16_kl3 + 1)), zr, ⟨H⟩, ⟨by have := HKkl3.out; omega⟩, ⟨zv HLkl3.out HB⟩, ⟨HM.out.below (zv HLm.out HB)⟩⟩
   rw [if_neg c4] at H
   have c4b0 := z0 c4
   clear c4
   go_wp2_with (fail)
   go_loopg [80] kl3 (fun kq v80 w' => ∃ (x80_kl76 : Int), v80 = .int .i64 x80_kl76 ∧ Aside0 (impl_TreeOk.l1 kq x3_kl3 l0 (l0.length : Int) x80_kl76 = some r) ∧ Aside0 (kq ≤ kl3) ∧ Aside0 (Below w.heap.size w w') ∧ Aside0 (MapSet.MS w' bm x3_kl3))
   case atStart => exact ⟨(0), zr, ⟨H⟩, ⟨Nat.le_refl _⟩, ⟨HB⟩, ⟨HM.out.below (zv HLm.out HB)⟩⟩
   case round =>
    clear H HB
    try clear HM
    obtain ⟨x80_kl76, rfl, H, HKkl76, HB, HM_⟩ := hrel
    have HM := HM_
    clear HM_
    replace HB := HB.out
    replace H := H.out
    rename World => w
    have HLkl76 := zz HB
    replace HW := zz (zv HW.out HB)
    replace HLkl3 := zz (zv HLkl3.out HB)
    replace HR0 := zz (Kd.C_below HR0.out HB)
    have HLm := zz (Below.refl w.heap.size w)
    replace HB := Below.refl w.heap.size w
    cases gk with
    | zero => exact absurd H (by simp [impl_TreeOk.l1])
    | succ kl76 =>
     simp only [impl_TreeOk.l1] at H
     by_cases c77 : x80_kl76 < (l0.length : Int)
     case neg =>
      rw [if_neg c77] at H
      have c77b0 := z0 c77
      clear c77
      obtain rfl := zi H
      go_wp2_with (fail)
      go_ret
      exact ⟨ze, zv HW.out HB⟩
     rw [if_pos c77] at H
     have c77b0 := z1 c77
     clear c77
     by_cases c78 : 0 ≤ x80_kl76
     case neg => exact zno H c78
     rw [if_pos c78] at H
     have c78b0 := z1 c78
     clear c78
     by_cases c79 : x80_kl76 < (l0.length : Int)
     case neg => exact zno H c79
     rw [if_pos c79] at H
     have c79b0 := z1 c79
     clear c79
     have p471 : 0 ≤ (x80_kl76 : Int) := z2
     have q471 : (x80_kl76 : Int) < (l0.length : Int) := z2
     obtain ⟨ad471, e471, hx471_0, hx471_1, hx471_2, hx471_3⟩ := at_T96 HR0.out x80_kl76 p471 q471
     cases e471
     replace hx471_0 := cellB hx471_0
     replace hx471_1 := cellB hx471_1
     replace hx471_2 := cellB hx471_2
     replace hx471_3 := cellB hx471_3
     replace p471 := eq_true p471
     replace q471 := eq_true q471
     replace H := zf H
     obtain ⟨⟨t473, t474⟩, A80, H⟩ := H
     try dsimp only at H
     replace A80 := zz A80
     go_wp2_with (first | (refine zN 7 ?_; (try (refine z4 ?_; dsimp only)); refine zX 7 96 #[.string (⟨#[]⟩ : ByteArray), .int .i64 0, .string (⟨#[]⟩ : ByteArray), .bool false] ?_; intro gb472 hg w82 hbox hb; have hge : w.heap.size ≤ gb472 := (by rw [hg]; exact below_size HB); clear hg; have hst : Below w.heap.size w ((((w82.setCell ⟨gb472, 0, none⟩ (.string ((rd_T96 l0 x80_kl76).f0))).setCell ⟨gb472, 1, none⟩ (.int .i64 ((rd_T96 l0 x80_kl76).f1))).setCell ⟨gb472, 2, none⟩ (.string ((rd_T96 l0 x80_kl76).f2))).setCell ⟨gb472, 3, none⟩ (.bool ((rd_T96 l0 x80_kl76).f3))) := (below_set (below_set (below_set (below_set (zv HB hb) hge) hge) hge) hge); have hbx : ((((w82.setCell ⟨gb472, 0, none⟩ (.string ((rd_T96 l0 x80_kl76).f0))).setCell ⟨gb472, 1, none⟩ (.int .i64 ((rd_T96 l0 x80_kl76).f1))).setCell ⟨gb472, 2, none⟩ (.string ((rd_T96 l0 x80_kl76).f2))).setCell ⟨gb472, 3, none⟩ (.bool ((rd_T96 l0 x80_kl76).f3))).heap[gb472]? = some (.cells #[.string ((rd_T96 l0 x80_kl76).f0), .int .i64 ((rd_T96 l0 x80_kl76).f1), .string ((rd_T96 l0 x80_kl76).f2), .bool ((rd_T96 l0 x80_kl76).f3)] 96 (0, 0)) := (blk_put (cs := #[.string ((rd_T96 l0 x80_kl76).f0), .int .i64 ((rd_T96 l0 x80_kl76).f1), .string ((rd_T96 l0 x80_kl76).f2), .bool false]) (blk_put (cs := #[.string ((rd_T96 l0 x80_kl76).f0), .int .i64 ((rd_T96 l0 x80_kl76).f1), .string (⟨#[]⟩ : ByteArray), .bool false]) (blk_put (cs := #[.string ((rd_T96 l0 x80_kl76).f0), .int .i64 0, .string (⟨#[]⟩ : ByteArray), .bool false]) (blk_put (cs := #[.string (⟨#[]⟩ : ByteArray), .int .i64 0, .string (⟨#[]⟩ : ByteArray), .bool false]) hbox 0 _ rfl) 1 _ rfl) 2 _ rfl) 3 _ rfl); obtain ⟨hs472_0, hs472_1, hs472_2, hs472_3, hf472_0, hf472_1, hf472_2, hf472_3⟩ := zc4 hbox) | ((with_reducible refine gate_store (t := 96) (p := 7) rfl ?_); (try (refine z4 ?_; dsimp only)); refine store_event (t := 96) (p := 7) (v := ?vo_w83) (w1 := ((((w82.setCell ⟨gb472, 0, none⟩ (.string ((rd_T96 l0 x80_kl76).f0))).setCell ⟨gb472, 1, none⟩ (.int .i64 ((rd_T96 l0 x80_kl76).f1))).setCell ⟨gb472, 2, none⟩ (.string ((rd_T96 l0 x80_kl76).f2))).setCell ⟨gb472, 3, none⟩ (.bool ((rd_T96 l0 x80_kl76).f3)))) ?hg ?ho ?hn ?hr ?_; (case ho => rfl); (case hg => rfl); (case hn => rfl); (case hr => first | (go_simp; done) | (go_simp; rfl)); intro w83 hw; replace hst := hst; rw [← hw] at hst hbx; clear hw hb hbox hge HB hs472_0 hf472_0 hs472_1 hf472_1 hs472_2 hf472_2 hs472_3 hf472_3; replace HW := zz (zv HW.out hst); replace HLm := zz (zv HLm.out hst); replace HLkl3 := zz (zv HLkl3.out hst); replace HLkl76 := zz (zv HLkl76.out hst); replace HR0 := zz (Kd.C_below HR0.out hst); replace hx471_0 := rebase hx471_0 hst; replace hx471_1 := rebase hx471_1 hst; replace hx471_2 := rebase hx471_2 hst; replace hx471_3 := rebase hx471_3 hst; obtain ⟨hbx472_0, hbx472_1, hbx472_2, hbx472_3⟩ := zx4 hbx; have HB := Below.refl w83.heap.size w83; clear hbx hst))
     refine (impl_upper.calls kl76 _ _ _ _  A80.out).mono ?_
     rintro e w84 ⟨rfl, hd⟩
     replace HB := zv HB hd.below
     clear hd
     by_cases c81 : t474 = true
     case neg =>
      replace c81 := Bool.eq_false_iff.mpr c81
      subst c81
      rw [if_neg (by decide)] at H
      go_wp2_with (fail)
      go_roundg kl76
      case measure => have := HKkl3.out; have := HKkl76.out; omega
      case rel => exact ⟨(wrap64 (x80_kl76 + 1)), zr, ⟨H⟩, ⟨by have := HKkl3.out; have := HKkl76.out; omega⟩, ⟨zv HLkl76.out HB⟩, ⟨HM.out.below (zv HLm.out HB)⟩⟩
     subst c81
     rw [if_pos rfl] at H
     replace H := zf H
     obtain ⟨t475, A85, H⟩ := H
     try dsimp only at H
     replace A85 := zz A85
     by_cases c86 : t475 = 0
     case neg =>
      rw [if_neg c86] at H
      obtain ⟨c86b0, c86b1⟩ := zw c86
      go_wp2_with (first | ((with_reducible refine MapSet.gate_get (t := 136) (m := 92) (k := 93) rfl ?_); (try (refine z4 ?_; dsimp only)); refine MapSet.get_event rfl rfl rfl rfl (HM.out.below (zv HLm.out HB)) A85.out ?_))
      go_roundg kl76
      case measure => have := HKkl3.out; have := HKkl76.out; omega
      case rel => exact ⟨(wrap64 (x80_kl76 + 1)), zr, ⟨H⟩, ⟨by have := HKkl3.out; have := HKkl76.out; omega⟩, ⟨zv HLkl76.out HB⟩, ⟨HM.out.below (zv HLm.out HB)⟩⟩
     rw [if_pos c86] at H
     obtain ⟨c86b0, c86b1⟩ := zq c86
     clear c86
     obtain rfl := zi H
     go_wp2_with (first | ((with_reducible refine MapSet.gate_get (t := 136) (m := 92) (k := 93) rfl ?_); (try (refine z4 ?_; dsimp only)); refine MapSet.get_event rfl rfl rfl rfl (HM.out.below (zv HLm.out HB)) A85.out ?_))
     go_ret
     exact ⟨ze, zv HW.out HB⟩
end Go.Proofs.YtcekmnclmldmmaaGreatDoor.Q
