import Derived.Test.YtcekmnclmldmmaaGreatDoorB07
import Derived.Test.YtcekmnclmldmmaaGreatDoorB30
set_option linter.unusedVariables false
set_option linter.unusedSimpArgs false
namespace Go.Proofs.YtcekmnclmldmmaaGreatDoor.Q
open Go.RowKit W1 W2 W3
attribute [local go_sem] max2_int min2_int max_two min_two max_three min_three max_four min_four
attribute [local go_sem high] bl_leq bl_gtr bl_geq
set_option maxHeartbeats 8000000
set_option maxRecDepth 100000
mutual
def spec_ProfilesOk.l0 : Nat → List (S67) → Int → Option (Bool)
 | 0, _, _ => none
 | k + 1, x0, x3 => if x3 < (x0.length : Int) then (if 0 ≤ x3 then ((spec_NameOk.f k ((rd_T67 x0 x3).f0)).bind fun t304 => (if t304 = true then (if x3 > 0 then (if 0 ≤ (wrap64 (x3 - 1)) then (if (wrap64 (x3 - 1)) < (x0.length : Int) then (if ((Op.bytesLess (((rd_T67 x0 (wrap64 (x3 - 1))).f0).toList) (((rd_T67 x0 x3).f0).toList)) = true) then (if (((rd_T67 x0 x3).f2).length : Int) > 50 then (some false) else (if ((rd_T67 x0 x3).f1) = 0 then (spec_ProfilesOk.l1 k x0 x3 0 ((rd_T67 x0 x3).f0) ((rd_T67 x0 x3).f1) ((rd_T67 x0 x3).f2)) else ((spec_l13Gen.f k ((rd_T67 x0 x3).f0) ((rd_T67 x0 x3).f1) ((rd_T67 x0 x3).f2) ((rd_T67 x0 x3).f1)).bind fun t311 => (if t311 < 0 then (some false) else (spec_ProfilesOk.l1 k x0 x3 0 ((rd_T67 x0 x3).f0) ((rd_T67 x0 x3).f1) ((rd_T67 x0 x3).f2)))))) else (some false)) else (none)) else (none)) else (if (((rd_T67 x0 x3).f2).length : Int) > 50 then (some false) else (if ((rd_T67 x0 x3).f1) = 0 then (spec_ProfilesOk.l1 k x0 x3 0 ((rd_T67 x0 x3).f0) ((rd_T67 x0 x3).f1) ((rd_T67 x0 x3).f2)) else ((spec_l13Gen.f k ((rd_T67 x0 x3).f0) ((rd_T67 x0 x3).f1) ((rd_T67 x0 x3).f2) ((rd_T67 x0 x3).f1)).bind fun t312 => (if t312 < 0 then (some false) else (spec_ProfilesOk.l1 k x0 x3 0 ((rd_T67 x0 x3).f0) ((rd_T67 x0 x3).f1) ((rd_T67 x0 x3).f2))))))) else (some false))) else (none)) else (some true)
def spec_ProfilesOk.l1 : Nat → List (S67) → Int → Int → ByteArray → Int → List (S70) → Option (Bool)
 | 0, _, _, _, _, _, _ => none
 | k + 1, x0, x3, x5, x304000, x304001, x304002 => if x5 < (x304002.length : Int) then (if 0 ≤ x5 then (if ((rd_T70 x304002 x5).f0) < 1 then (some false) else (if ((rd_T70 x304002 x5).f0) > 9007199254740992 then (some false) else (if x5 > 0 then (if 0 ≤ (wrap64 (x5 - 1)) then (if (wrap64 (x5 - 1)) < (x304002.length : Int) then (if ((rd_T70 x304002 (wrap64 (x5 - 1))).f0) ≥ ((rd_T70 x304002 x5).f0) then (some false) else ((spec_AddressOk.f k ((rd_T70 x304002 x5).f1)).bind fun t309 => (if t309 = true then (spec_ProfilesOk.l1 k x0 x3 (wrap64 (x5 + 1)) x304000 x304001 x304002) else (some false)))) else (none)) else (none)) else ((spec_AddressOk.f k ((rd_T70 x304002 x5).f1)).bind fun t310 => (if t310 = true then (spec_ProfilesOk.l1 k x0 x3 (wrap64 (x5 + 1)) x304000 x304001 x304002) else (some false)))))) else (none)) else (spec_ProfilesOk.l0 k x0 (wrap64 (x3 + 1)))
end
def spec_ProfilesOk.f (k : Nat) (l0 : List (S67)) : Option (Bool) := if (l0.length : Int) > 20 then (some false) else (spec_ProfilesOk.l0 k l0 0)
theorem spec_ProfilesOk.mono_l : ∀ k, (∀ y0 y1, LeO (spec_ProfilesOk.l0 k y0 y1) (spec_ProfilesOk.l0 (k + 1) y0 y1)) ∧ (∀ y0 y1 y2 y3 y4 y5, LeO (spec_ProfilesOk.l1 k y0 y1 y2 y3 y4 y5) (spec_ProfilesOk.l1 (k + 1) y0 y1 y2 y3 y4 y5))
 | 0 => ⟨fun _ _ r h => by simp [spec_ProfilesOk.l0] at h, fun _ _ _ _ _ _ r h => by simp [spec_ProfilesOk.l1] at h⟩
 | k + 1 => by
  obtain ⟨ih0, ih1⟩ := spec_ProfilesOk.mono_l k
  refine ⟨?_, ?_⟩
  ·intro y0 y1
   unfold spec_ProfilesOk.l0
   have m0 := @spec_AddressOk.mono
   have m1 := @spec_NameOk.mono
   have m2 := @spec_l13Gen.mono
   exact zM
  ·intro y0 y1 y2 y3 y4 y5
   unfold spec_ProfilesOk.l1
   have m0 := @spec_AddressOk.mono
   have m1 := @spec_NameOk.mono
   have m2 := @spec_l13Gen.mono
   exact zM
theorem spec_ProfilesOk.mono : ∀ a0 k, LeO (spec_ProfilesOk.f k a0) (spec_ProfilesOk.f (k + 1) a0) := by
 intro a0 k
 obtain ⟨ih0, ih1⟩ := spec_ProfilesOk.mono_l k
 unfold spec_ProfilesOk.f
 have m0 := @spec_AddressOk.mono
 have m1 := @spec_NameOk.mono
 have m2 := @spec_l13Gen.mono
 exact zM
theorem spec_ProfilesOk.calls (k : Nat) (A0 : Option Addr) (c0 : Nat) (l0 : List (S67)) (r : Bool) (w : World) (hr0 : Kd.C k67 w A0 l0.length l0) (hc0 : l0.length ≤ c0) (h : spec_ProfilesOk.f k l0 = some r) :
 Calls Tryz.prog 33 #[.slice A0 l0.length c0] w fun e w' => e = .returned (.bool r) ∧ Below w.heap.size w w' := by
 have hu67 := Tryz.underlying67
 have hu70 := Tryz.underlying70
 have HR0 := zz hr0
 have HC0 := zz hc0
 clear hr0 hc0
 have HB := zz (Below.refl w.heap.size w)
 unfold spec_ProfilesOk.f at h
 have H := h
 clear h
 replace HB := HB.out
 have HW := zz (Below.refl w.heap.size w)
 go_enter Tryz.func33, Tryz.ntmps33
 by_cases c2 : (l0.length : Int) > 20
 ·rw [if_pos c2] at H
  have c2b0 := zgt c2
  have c2b1 : decide (20 < l0.length) = true := z1 (by omega)
  clear c2
  obtain rfl := zi H
  go_wp2_with (fail)
  go_ret
  exact ⟨ze, zv HW.out HB⟩
 rw [if_neg c2] at H
 have c2b0 := zgtn c2
 have c2b1 : decide (20 < l0.length) = false := z0 (by omega)
 clear c2
 go_wp2_with (fail)
 go_loopg [3] k (fun kq v3 w' => ∃ (x3_kl3 : Int), v3 = .int .i64 x3_kl3 ∧ Aside0 (spec_ProfilesOk.l0 kq l0 x3_kl3 = some r) ∧ Aside0 (kq ≤ k) ∧ Aside0 (Below w.heap.size w w'))
 case atStart => exact ⟨(0), zr, ⟨H⟩, ⟨Nat.le_refl _⟩, ⟨HB⟩⟩
 case round =>
  clear H HB
  obtain ⟨x3_kl3, rfl, H, HKkl3, HB⟩ := hrel
  replace HB := HB.out
  replace H := H.out
  have HLkl3 := zz (Below.refl w.heap.size w)
  cases gk with
  | zero => exact absurd H (by simp [spec_ProfilesOk.l0])
  | succ kl3 =>
   simp only [spec_ProfilesOk.l0] at H
   by_cases c4 : x3_kl3 < (l0.length : Int)
   case neg =>
    rw [if_neg c4] at H
    have c4b0 := z0 c4
    clear c4
    obtain rfl := zi H
    go_wp2_with (fail)
    go_ret
    exact ⟨ze, zv HW.out HB⟩
   rw [if_pos c4] at H
   have c4b0 := z1 c4
   clear c4
   by_cases c5 : 0 ≤ x3_kl3
   case neg => exact zno H c5
   rw [if_pos c5] at H
   have c5b0 := z1 c5
   clear c5
   have p302 : 0 ≤ (x3_kl3 : Int) := z2
   have q302 : (x3_kl3 : Int) < (l0.length : Int) := z2
   obtain ⟨ad302, A302_2, c302_2, e302, hx302_0, hx302_1, hx302_2, hl302_2, hC302_2⟩ := at_T67 HR0.out x3_kl3 p302 q302
   cases e302
   replace hx302_0 := cellB hx302_0
   replace hx302_1 := cellB hx302_1
   replace hx302_2 := cellB hx302_2
   have HR302_2 := zz hC302_2
   have HC302_2 := zz hl302_2
   clear hC302_2 hl302_2
   replace p302 := eq_true p302
   replace q302 := eq_true q302
   go_wp2_with (first | (refine zN 4 ?_; (try (refine z4 ?_; dsimp only)); refine zX 4 67 #[.string (⟨#[]⟩ : ByteArray), .int .i64 0, .slice none 0 0] ?_; intro gb303 hg w6 hbox hb; have hge : w.heap.size ≤ gb303 := (by rw [hg]; exact below_size HB); clear hg; have hst : Below w.heap.size w (((w6.setCell ⟨gb303, 0, none⟩ (.string ((rd_T67 l0 x3_kl3).f0))).setCell ⟨gb303, 1, none⟩ (.int .i64 ((rd_T67 l0 x3_kl3).f1))).setCell ⟨gb303, 2, none⟩ (.slice A302_2 ((rd_T67 l0 x3_kl3).f2).length c302_2)) := (below_set (below_set (below_set (zv HB hb) hge) hge) hge); have hbx : (((w6.setCell ⟨gb303, 0, none⟩ (.string ((rd_T67 l0 x3_kl3).f0))).setCell ⟨gb303, 1, none⟩ (.int .i64 ((rd_T67 l0 x3_kl3).f1))).setCell ⟨gb303, 2, none⟩ (.slice A302_2 ((rd_T67 l0 x3_kl3).f2).length c302_2)).heap[gb303]? = some (.cells #[.string ((rd_T67 l0 x3_kl3).f0), .int .i64 ((rd_T67 l0 x3_kl3).f1), .slice A302_2 ((rd_T67 l0 x3_kl3).f2).length c302_2] 67 (0, 0)) := (blk_put (cs := #[.string ((rd_T67 l0 x3_kl3).f0), .int .i64 ((rd_T67 l0 x3_kl3).f1), .slice none 0 0]) (blk_put (cs := #[.string ((rd_T67 l0 x3_kl3).f0), .int .i64 0, .slice none 0 0]) (blk_put (cs := #[.string (⟨#[]⟩ : ByteArray), .int .i64 0, .slice none 0 0]) hbox 0 _ rfl) 1 _ rfl) 2 _ rfl); obtain ⟨hs303_0, hs303_1, hs303_2, hf303_0, hf303_1, hf303_2⟩ := zc3 hbox) | ((with_reducible refine gate_store (t := 67) (p := 4) rfl ?_); (try (refine z4 ?_; dsimp only)); refine store_event (t := 67) (p := 4) (v := ?vo_w7) (w1 := (((w6.setCell ⟨gb303, 0, none⟩ (.string ((rd_T67 l0 x3_kl3).f0))).setCell ⟨gb303, 1, none⟩ (.int .i64 ((rd_T67 l0 x3_kl3).f1))).setCell ⟨gb303, 2, none⟩ (.slice A302_2 ((rd_T67 l0 x3_kl3).f2).length c302_2))) ?hg ?ho ?hn ?hr ?_; (case ho => rfl); (case hg => rfl); (case hn => rfl); (case hr => first | (go_simp; done) | (go_simp; rfl)); intro w7 hw; replace hst := hst; rw [← hw] at hst hbx; clear hw hb hbox hge HB hs303_0 hf303_0 hs303_1 hf303_1 hs303_2 hf303_2; replace HW := zz (zv HW.out hst); replace HLkl3 := zz (zv HLkl3.out hst); replace HR0 := zz (Kd.C_below HR0.out hst); replace HR302_2 := zz (Kd.C_below HR302_2.out hst); replace hx302_0 := rebase hx302_0 hst; replace hx302_1 := rebase hx302_1 hst; replace hx302_2 := rebase hx302_2 hst; obtain ⟨hbx303_0, hbx303_1, hbx303_2⟩ := zx3 hbx; have HB := Below.refl w7.heap.size w7; clear hbx hst))
   try simp only [Act.put, List.setIfInBounds_toArray, List.set_cons_zero, List.set_cons_succ]
   refine wp_region_inv_lit (C := fun W_ => Below w7.heap.size w7 W_) zk zk (below_drew1 HB) ?_
   replace H := zf H
   obtain ⟨t304, A8, H⟩ := H
   try dsimp only at H
   replace A8 := zz A8
   by_cases c9 : t304 = true
   case neg =>
    replace c9 := Bool.eq_false_iff.mpr c9
    subst c9
    rw [if_neg (by decide)] at H
    obtain rfl := zi H
    repeat (first | go_big_quiet_skip | (go_big_quiet_want; go_big_quiet_op; first | go_big_quiet_on | (with_reducible apply Exists.intro; refine ⟨fun W hW => ?_, ?_⟩; (first | with_reducible rfl | (go_at_call 35; exact callD (spec_NameOk.calls kl3 _ _ _  A8.out) hW) | (go_simp; with_reducible rfl)); go_big_quiet_on)))
    clear HB
    refine zW fun w124 (HB : Below w7.heap.size w7 w124) => ?_
    go_wp2_with (fail)
    go_ret
    exact ⟨ze, zv HW.out HB⟩
   subst c9
   rw [if_pos rfl] at H
   by_cases c10 : x3_kl3 > 0
   case neg =>
    rw [if_neg c10] at H
    have c10b0 := zgtn c10
    clear c10
    by_cases c70 : (((rd_T67 l0 x3_kl3).f2).length : Int) > 50
    ·rw [if_pos c70] at H
     have c70b0 := zgt c70
     have c70b1 : decide (50 < ((rd_T67 l0 x3_kl3).f2).length) = true := z1 (by omega)
     clear c70
     obtain rfl := zi H
     repeat (first | go_big_quiet_skip | (go_big_quiet_want; go_big_quiet_op; first | go_big_quiet_on | (with_reducible apply Exists.intro; refine ⟨fun W hW => ?_, ?_⟩; (first | with_reducible rfl | (go_at_call 35; exact callD (spec_NameOk.calls kl3 _ _ _  A8.out) hW) | (go_simp; with_reducible rfl)); go_big_quiet_on)))
     clear HB
     refine zW fun w71 (HB : Below w7.heap.size w7 w71) => ?_
     go_wp2_with (fail)
     go_ret
     exact ⟨ze, zv HW.out HB⟩
    rw [if_neg c70] at H
    have c70b0 := zgtn c70
    have c70b1 : decide (50 < ((rd_T67 l0 x3_kl3).f2).length) = false := z0 (by omega)
    clear c70
    by_cases c72 : ((rd_T67 l0 x3_kl3).f1) = 0
    case neg =>
     rw [if_neg c72] at H
     obtain ⟨c72b0, c72b1⟩ := zw c72
     replace H := zf H
     obtain ⟨t312, A97, H⟩ := H
     try dsimp only at H
     replace A97 := zz A97
     by_cases c98 : t312 < 0
     ·rw [if_pos c98] at H
      have c98b0 := z1 c98
      clear c98
      obtain rfl := zi H
      repeat (first | go_big_quiet_skip | (go_big_quiet_want; go_big_quiet_op; first | go_big_quiet_on | (with_reducible apply Exists.intro; refine ⟨fun W hW => ?_, ?_⟩; (first | with_reducible rfl | (go_at_call 35; exact callD (spec_NameOk.calls kl3 _ _ _  A8.out) hW) | (go_at_call 80; exact callB (spec_l13Gen.calls kl3 _ _ _ _ _ _ _ _ (Kd.C_below HR302_2.out hW) HC302_2.out A97.out) hW) | (go_simp; with_reducible rfl)); go_big_quiet_on)))
      clear HB
      refine zW fun w99 (HB : Below w7.heap.size w7 w99) => ?_
      go_wp2_with (fail)
      go_ret
      exact ⟨ze, zv HW.out HB⟩
     rw [if_neg c98] at H
     have c98b0 := z0 c98
     clear c98
     repeat (first | go_big_quiet_skip | (go_big_quiet_want; go_big_quiet_op; first | go_big_quiet_on | (with_reducible apply Exists.intro; refine ⟨fun W hW => ?_, ?_⟩; (first | with_reducible rfl | (go_at_call 35; exact callD (spec_NameOk.calls kl3 _ _ _  A8.out) hW) | (go_at_call 80; exact callB (spec_l13Gen.calls kl3 _ _ _ _ _ _ _ _ (Kd.C_below HR302_2.out hW) HC302_2.out A97.out) hW) | (go_simp; with_reducible rfl)); go_big_quiet_on)))
     clear HB
     refine zW fun w101 (HB : Below w7.heap.size w7 w101) => ?_
     go_wp2_with (fail)
     go_loopg [5] kl3 (fun kq v5 w' => ∃ (x5_kl100 : Int), v5 = .int .i64 x5_kl100 ∧ Aside0 (spec_ProfilesOk.l1 kq l0 x3_kl3 x5_kl100 ((rd_T67 l0 x3_kl3).f0) ((rd_T67 l0 x3_kl3).f1) ((rd_T67 l0 x3_kl3).f2) = some r) ∧ Aside0 (kq ≤ kl3) ∧ Aside0 (Below w7.heap.size w7 w'))
     case atStart => exact ⟨(0), zr, ⟨H⟩, ⟨Nat.le_refl _⟩, ⟨HB⟩⟩
     case round =>
      clear H HB
      obtain ⟨x5_kl100, rfl, H, HKkl100, HB⟩ := hrel
      replace HB := HB.out
      replace H := H.out
      have HLkl100 := zz (Below.refl w7.heap.size w7)
      cases gk with
      | zero => exact absurd H (by simp [spec_ProfilesOk.l1])
      | succ kl100 =>
       simp only [spec_ProfilesOk.l1] at H
       by_cases c102 : x5_kl100 < (((rd_T67 l0 x3_kl3).f2).length : Int)
       case neg =>
        rw [if_neg c102] at H
        have c102b0 := z0 c102
        clear c102
        go_wp2_with (fail)
        go_roundg kl100
        case measure => have := HKkl3.out; have := HKkl100.out; omega
        case rel => exact ⟨(wrap64 (x3_kl3 + 1)), zr, ⟨H⟩, ⟨by have := HKkl3.out; have := HKkl100.out; omega⟩, ⟨zv HLkl3.out HB⟩⟩
       rw [if_pos c102] at H
       have c102b0 := z1 c102
       clear c102
       by_cases c103 : 0 ≤ x5_kl100
       case neg => exact zno H c103
       rw [if_pos c103] at H
       have c103b0 := z1 c103
       clear c103
       have p306 : 0 ≤ (x5_kl100 : Int) := z2
       have q306 : (x5_kl100 : Int) < (((rd_T67 l0 x3_kl3).f2).length : Int) := z2
       obtain ⟨ad306, e306, hx306_0, hx306_1⟩ := at_T70 HR302_2.out x5_kl100 p306 q306
       cases e306
       replace hx306_0 := cellB hx306_0
       replace hx306_1 := cellB hx306_1
       replace p306 := eq_true p306
       replace q306 := eq_true q306
       go_wp2_with (first | (refine zN 6 ?_; (try (refine z4 ?_; dsimp only)); refine zX 6 70 #[.int .i64 0, .string (⟨#[]⟩ : ByteArray)] ?_; intro gb307 hg w104 hbox hb; have hge : w7.heap.size ≤ gb307 := (by rw [hg]; exact below_size HB); clear hg; have hst : Below w7.heap.size w7 ((w104.setCell ⟨gb307, 0, none⟩ (.int .i64 ((rd_T70 ((rd_T67 l0 x3_kl3).f2) x5_kl100).f0))).setCell ⟨gb307, 1, none⟩ (.string ((rd_T70 ((rd_T67 l0 x3_kl3).f2) x5_kl100).f1))) := (below_set (below_set (zv HB hb) hge) hge); have hbx : ((w104.setCell ⟨gb307, 0, none⟩ (.int .i64 ((rd_T70 ((rd_T67 l0 x3_kl3).f2) x5_kl100).f0))).setCell ⟨gb307, 1, none⟩ (.string ((rd_T70 ((rd_T67 l0 x3_kl3).f2) x5_kl100).f1))).heap[gb307]? = some (.cells #[.int .i64 ((rd_T70 ((rd_T67 l0 x3_kl3).f2) x5_kl100).f0), .string ((rd_T70 ((rd_T67 l0 x3_kl3).f2) x5_kl100).f1)] 70 (0, 0)) := (blk_put (cs := #[.int .i64 ((rd_T70 ((rd_T67 l0 x3_kl3).f2) x5_kl100).f0), .string (⟨#[]⟩ : ByteArray)]) (blk_put (cs := #[.int .i64 0, .string (⟨#[]⟩ : ByteArray)]) hbox 0 _ rfl) 1 _ rfl); obtain ⟨hs307_0, hs307_1, hf307_0, hf307_1⟩ := zc2 hbox) | ((with_reducible refine gate_store (t := 70) (p := 6) rfl ?_); (try (refine z4 ?_; dsimp only)); refine store_event (t := 70) (p := 6) (v := ?vo_w105) (w1 := ((w104.setCell ⟨gb307, 0, none⟩ (.int .i64 ((rd_T70 ((rd_T67 l0 x3_kl3).f2) x5_kl100).f0))).setCell ⟨gb307, 1, none⟩ (.string ((rd_T70 ((rd_T67 l0 x3_kl3).f2) x5_kl100).f1)))) ?hg ?ho ?hn ?hr ?_; (case ho => rfl); (case hg => rfl); (case hn => rfl); (case hr => first | (go_simp; done) | (go_simp; rfl)); intro w105 hw; replace hst := hst; rw [← hw] at hst hbx; clear hw hb hbox hge HB hs307_0 hf307_0 hs307_1 hf307_1; replace HW := zz (zv HW.out hst); replace HLkl3 := zz (zv HLkl3.out hst); replace HLkl100 := zz (zv HLkl100.out hst); replace HR0 := zz (Kd.C_below HR0.out hst); replace HR302_2 := zz (Kd.C_below HR302_2.out hst); replace hx302_0 := rebase hx302_0 hst; replace hx302_1 := rebase hx302_1 hst; replace hx302_2 := rebase hx302_2 hst; replace hbx303_0 := rebase hbx303_0 hst; replace hbx303_1 := rebase hbx303_1 hst; replace hbx303_2 := rebase hbx303_2 hst; replace hx306_0 := rebase hx306_0 hst; replace hx306_1 := rebase hx306_1 hst; obtain ⟨hbx307_0, hbx307_1⟩ := zx2 hbx; have HB := Below.refl w105.heap.size w105; clear hbx hst))
       try simp only [Act.put, List.setIfInBounds_toArray, List.set_cons_zero, List.set_cons_succ]
       refine wp_region_inv_lit (C := fun W_ => Below w105.heap.size w105 W_) zk zk (below_drew1 HB) ?_
       by_cases c106 : ((rd_T70 ((rd_T67 l0 x3_kl3).f2) x5_kl100).f0) < 1
       ·rw [if_pos c106] at H
        have c106b0 := z1 c106
        clear c106
        obtain rfl := zi H
        repeat (first | go_big_quiet_skip | (go_big_quiet_want; go_big_quiet_op; first | go_big_quiet_on | (refine zE ?_; go_big_quiet_on)))
        clear HB
        refine zW fun w107 (HB : Below w105.heap.size w105 w107) => ?_
        go_wp2_with (fail)
        go_ret
        exact ⟨ze, zv HW.out HB⟩
       rw [if_neg c106] at H
       have c106b0 := z0 c106
       clear c106
       by_cases c108 : ((rd_T70 ((rd_T67 l0 x3_kl3).f2) x5_kl100).f0) > 9007199254740992
       ·rw [if_pos c108] at H
        have c108b0 := zgt c108
        clear c108
        obtain rfl := zi H
        repeat (first | go_big_quiet_skip | (go_big_quiet_want; go_big_quiet_op; first | go_big_quiet_on | (refine zE ?_; go_big_quiet_on)))
        clear HB
        refine zW fun w109 (HB : Below w105.heap.size w105 w109) => ?_
        go_wp2_with (fail)
        go_ret
        exact ⟨ze, zv HW.out HB⟩
       rw [if_neg c108] at H
       have c108b0 := zgtn c108
       clear c108
       by_cases c110 : x5_kl100 > 0
       case neg =>
        rw [if_neg c110] at H
        have c110b0 := zgtn c110
        clear c110
        replace H := zf H
        obtain ⟨t310, A120, H⟩ := H
        try dsimp only at H
        replace A120 := zz A120
        by_cases c121 : t310 = true
        ·subst c121
         rw [if_pos rfl] at H
         repeat (first | go_big_quiet_skip | (go_big_quiet_want; go_big_quiet_op; first | go_big_quiet_on | (with_reducible apply Exists.intro; refine ⟨fun W hW => ?_, ?_⟩; (first | with_reducible rfl | (go_at_call 36; exact callD (spec_AddressOk.calls kl100 _ _ _  A120.out) hW) | (go_simp; with_reducible rfl)); go_big_quiet_on)))
         clear HB
         refine zW fun w122 (HB : Below w105.heap.size w105 w122) => ?_
         go_wp2_with (fail)
         go_roundg kl100
         case measure => have := HKkl3.out; have := HKkl100.out; omega
         case rel => exact ⟨(wrap64 (x5_kl100 + 1)), zr, ⟨H⟩, ⟨by have := HKkl3.out; have := HKkl100.out; omega⟩, ⟨zv HLkl100.out HB⟩⟩
        replace c121 := Bool.eq_false_iff.mpr c121
        subst c121
        rw [if_neg (by decide)] at H
        obtain rfl := zi H
        repeat (first | go_big_quiet_skip | (go_big_quiet_want; go_big_quiet_op; first | go_big_quiet_on | (with_reducible apply Exists.intro; refine ⟨fun W hW => ?_, ?_⟩; (first | with_reducible rfl | (go_at_call 36; exact callD (spec_AddressOk.calls kl100 _ _ _  A120.out) hW) | (go_simp; with_reducible rfl)); go_big_quiet_on)))
        clear HB
        refine zW fun w123 (HB : Below w105.heap.size w105 w123) => ?_
        go_wp2_with (fail)
        go_ret
        exact ⟨ze, zv HW.out HB⟩
       rw [if_pos c110] at H
       have c110b0 := zgt c110
       clear c110
       obtain ⟨ji111, hji111⟩ : ∃ j_ : Int, (wrap64 (x5_kl100 - 1)) = j_ := ⟨_, rfl⟩
       (first | rw [hji111] at H | simp only [hji111] at H)
       have hji111w : (IntKind.i64.wrap (x5_kl100 - 1)) = ji111 := (i64_w _).trans hji111
       (try rw [hji111] at A8)
       (try rw [hji111] at A97)
       by_cases c112 : 0 ≤ (ji111)
       case neg => exact zno H c112
       rw [if_pos c112] at H
       have c112b0 := z1 c112
       clear c112
       by_cases c113 : (ji111) < (((rd_T67 l0 x3_kl3).f2).length : Int)
       case neg => exact zno H c113
       rw [if_pos c113] at H
       have c113b0 := z1 c113
       clear c113
       have p308 : 0 ≤ ((ji111) : Int) := z2
       have q308 : ((ji111) : Int) < (((rd_T67 l0 x3_kl3).f2).length : Int) := z2
       obtain ⟨ad308, e308, hx308_0, hx308_1⟩ := at_T70 HR302_2.out (ji111) p308 q308
       obtain rfl : ad306 = ad308 := (by injection e308)
       replace hx308_0 := cellB hx308_0
       replace hx308_1 := cellB hx308_1
       replace p308 := eq_true p308
       replace q308 := eq_true q308
       by_cases c114 : ((rd_T70 ((rd_T67 l0 x3_kl3).f2) (ji111)).f0) ≥ ((rd_T70 ((rd_T67 l0 x3_kl3).f2) x5_kl100).f0)
       ·rw [if_pos c114] at H
        have c114b0 := zge c114
        clear c114
        obtain rfl := zi H
        repeat (first | go_big_quiet_skip | (go_big_quiet_want; go_big_quiet_op; first | go_big_quiet_on | (refine zE ?_; go_big_quiet_on)))
        clear HB
        refine zW fun w115 (HB : Below w105.heap.size w105 w115) => ?_
        go_wp2_with (fail)
        go_ret
        exact ⟨ze, zv HW.out HB⟩
       rw [if_neg c114] at H
       have c114b0 := zgen c114
       clear c114
       replace H := zf H
       obtain ⟨t309, A116, H⟩ := H
       try dsimp only at H
       replace A116 := zz A116
       by_cases c117 : t309 = true
       ·subst c117
        rw [if_pos rfl] at H
        repeat (first | go_big_quiet_skip | (go_big_quiet_want; go_big_quiet_op; first | go_big_quiet_on | (with_reducible apply Exists.intro; refine ⟨fun W hW => ?_, ?_⟩; (first | with_reducible rfl | (go_at_call 36; exact callD (spec_AddressOk.calls kl100 _ _ _  A116.out) hW) | (go_simp; with_reducible rfl)); go_big_quiet_on)))
        clear HB
        refine zW fun w118 (HB : Below w105.heap.size w105 w118) => ?_
        go_wp2_with (fail)
        go_roundg kl100
        case measure => have := HKkl3.out; have := HKkl100.out; omega
        case rel => exact ⟨(wrap64 (x5_kl100 + 1)), zr, ⟨H⟩, ⟨by have := HKkl3.out; have := HKkl100.out; omega⟩, ⟨zv HLkl100.out HB⟩⟩
       replace c117 := Bool.eq_false_iff.mpr c117
       subst c117
       rw [if_neg (by decide)] at H
       obtain rfl := zi H
       repeat (first | go_big_quiet_skip | (go_big_quiet_want; go_big_quiet_op; first | go_big_quiet_on | (with_reducible apply Exists.intro; refine ⟨fun W hW => ?_, ?_⟩; (first | with_reducible rfl | (go_at_call 36; exact callD (spec_AddressOk.calls kl100 _ _ _  A116.out) hW) | (go_simp; with_reducible rfl)); go_big_quiet_on)))
       clear HB
       refine zW fun w119 (HB : Below w105.heap.size w105 w119) => ?_
       go_wp2_with (fail)
       go_ret
       exact ⟨ze, zv HW.out HB⟩
    rw [if_pos c72] at H
    obtain ⟨c72b0, c72b1⟩ := zq c72
    clear c72
    repeat (first | go_big_quiet_skip | (go_big_quiet_want; go_big_quiet_op; first | go_big_quiet_on | (with_reducible apply Exists.intro; refine ⟨fun W hW => ?_, ?_⟩; (first | with_reducible rfl | (go_at_call 35; exact callD (spec_NameOk.calls kl3 _ _ _  A8.out) hW) | (go_simp; with_reducible rfl)); go_big_quiet_on)))
    clear HB
    refine zW fun w74 (HB : Below w7.heap.size w7 w74) => ?_
    go_wp2_with (fail)
    go_loopg [5] kl3 (fun kq v5 w' => ∃ (x5_kl73 : Int), v5 = .int .i64 x5_kl73 ∧ Aside0 (spec_ProfilesOk.l1 kq l0 x3_kl3 x5_kl73 ((rd_T67 l0 x3_kl3).f0) ((rd_T67 l0 x3_kl3).f1) ((rd_T67 l0 x3_kl3).f2) = some r) ∧ Aside0 (kq ≤ kl3) ∧ Aside0 (Below w7.heap.size w7 w'))
    case atStart => exact ⟨(0), zr, ⟨H⟩, ⟨Nat.le_refl _⟩, ⟨HB⟩⟩
    case round =>
     clear H HB
     obtain ⟨x5_kl73, rfl, H, HKkl73, HB⟩ := hrel
     replace HB := HB.out
     replace H := H.out
     have HLkl73 := zz (Below.refl w7.heap.size w7)
     cases gk with
     | zero => exact absurd H (by simp [spec_ProfilesOk.l1])
     | succ kl73 =>
      simp only [spec_ProfilesOk.l1] at H
      by_cases c75 : x5_kl73 < (((rd_T67 l0 x3_kl3).f2).length : Int)
      case neg =>
       rw [if_neg c75] at H
       have c75b0 := z0 c75
       clear c75
       go_wp2_with (fail)
       go_roundg kl73
       case measure => have := HKkl3.out; have := HKkl73.out; omega
       case rel => exact ⟨(wrap64 (x3_kl3 + 1)), zr, ⟨H⟩, ⟨by have := HKkl3.out; have := HKkl73.out; omega⟩, ⟨zv HLkl3.out HB⟩⟩
      rw [if_pos c75] at H
      have c75b0 := z1 c75
      clear c75
      by_cases c76 : 0 ≤ x5_kl73
      case neg => exact zno H c76
      rw [if_pos c76] at H
      have c76b0 := z1 c76
      clear c76
      have p306 : 0 ≤ (x5_kl73 : Int) := z2
      have q306 : (x5_kl73 : Int) < (((rd_T67 l0 x3_kl3).f2).length : Int) := z2
      obtain ⟨ad306, e306, hx306_0, hx306_1⟩ := at_T70 HR302_2.out x5_kl73 p306 q306
      cases e306
      replace hx306_0 := cellB hx306_0
      replace hx306_1 := cellB hx306_1
      replace p306 := eq_true p306
      replace q306 := eq_true q306
      go_wp2_with (first | (refine zN 6 ?_; (try (refine z4 ?_; dsimp only)); refine zX 6 70 #[.int .i64 0, .string (⟨#[]⟩ : ByteArray)] ?_; intro gb307 hg w77 hbox hb; have hge : w7.heap.size ≤ gb307 := (by rw [hg]; exact below_size HB); clear hg; have hst : Below w7.heap.size w7 ((w77.setCell ⟨gb307, 0, none⟩ (.int .i64 ((rd_T70 ((rd_T67 l0 x3_kl3).f2) x5_kl73).f0))).setCell ⟨gb307, 1, none⟩ (.string ((rd_T70 ((rd_T67 l0 x3_kl3).f2) x5_kl73).f1))) := (below_set (below_set (zv HB hb) hge) hge); have hbx : ((w77.setCell ⟨gb307, 0, none⟩ (.int .i64 ((rd_T70 ((rd_T67 l0 x3_kl3).f2) x5_kl73).f0))).setCell ⟨gb307, 1, none⟩ (.string ((rd_T70 ((rd_T67 l0 x3_kl3).f2) x5_kl73).f1))).heap[gb307]? = some (.cells #[.int .i64 ((rd_T70 ((rd_T67 l0 x3_kl3).f2) x5_kl73).f0), .string ((rd_T70 ((rd_T67 l0 x3_kl3).f2) x5_kl73).f1)] 70 (0, 0)) := (blk_put (cs := #[.int .i64 ((rd_T70 ((rd_T67 l0 x3_kl3).f2) x5_kl73).f0), .string (⟨#[]⟩ : ByteArray)]) (blk_put (cs := #[.int .i64 0, .string (⟨#[]⟩ : ByteArray)]) hbox 0 _ rfl) 1 _ rfl); obtain ⟨hs307_0, hs307_1, hf307_0, hf307_1⟩ := zc2 hbox) | ((with_reducible refine gate_store (t := 70) (p := 6) rfl ?_); (try (refine z4 ?_; dsimp only)); refine store_event (t := 70) (p := 6) (v := ?vo_w78) (w1 := ((w77.setCell ⟨gb307, 0, none⟩ (.int .i64 ((rd_T70 ((rd_T67 l0 x3_kl3).f2) x5_kl73).f0))).setCell ⟨gb307, 1, none⟩ (.string ((rd_T70 ((rd_T67 l0 x3_kl3).f2) x5_kl73).f1)))) ?hg ?ho ?hn ?hr ?_; (case ho => rfl); (case hg => rfl); (case hn => rfl); (case hr => first | (go_simp; done) | (go_simp; rfl)); intro w78 hw; replace hst := hst; rw [← hw] at hst hbx; clear hw hb hbox hge HB hs307_0 hf307_0 hs307_1 hf307_1; replace HW := zz (zv HW.out hst); replace HLkl3 := zz (zv HLkl3.out hst); replace HLkl73 := zz (zv HLkl73.out hst); replace HR0 := zz (Kd.C_below HR0.out hst); replace HR302_2 := zz (Kd.C_below HR302_2.out hst); replace hx302_0 := rebase hx302_0 hst; replace hx302_1 := rebase hx302_1 hst; replace hx302_2 := rebase hx302_2 hst; replace hbx303_0 := rebase hbx303_0 hst; replace hbx303_1 := rebase hbx303_1 hst; replace hbx303_2 := rebase hbx303_2 hst; replace hx306_0 := rebase hx306_0 hst; replace hx306_1 := rebase hx306_1 hst; obtain ⟨hbx307_0, hbx307_1⟩ := zx2 hbx; have HB := Below.refl w78.heap.size w78; clear hbx hst))
      try simp only [Act.put, List.setIfInBounds_toArray, List.set_cons_zero, List.set_cons_succ]
      refine wp_region_inv_lit (C := fun W_ => Below w78.heap.size w78 W_) zk zk (below_drew1 HB) ?_
      by_cases c79 : ((rd_T70 ((rd_T67 l0 x3_kl3).f2) x5_kl73).f0) < 1
      ·rw [if_pos c79] at H
       have c79b0 := z1 c79
       clear c79
       obtain rfl := zi H
       repeat (first | go_big_quiet_skip | (go_big_quiet_want; go_big_quiet_op; first | go_big_quiet_on | (refine zE ?_; go_big_quiet_on)))
       clear HB
       refine zW fun w80 (HB : Below w78.heap.size w78 w80) => ?_
       go_wp2_with (fail)
       go_ret
       exact ⟨ze, zv HW.out HB⟩
      rw [if_neg c79] at H
      have c79b0 := z0 c79
      clear c79
      by_cases c81 : ((rd_T70 ((rd_T67 l0 x3_kl3).f2) x5_kl73).f0) > 9007199254740992
      ·rw [if_pos c81] at H
       have c81b0 := zgt c81
       clear c81
       obtain rfl := zi H
       repeat (first | go_big_quiet_skip | (go_big_quiet_want; go_big_quiet_op; first | go_big_quiet_on | (refine zE ?_; go_big_quiet_on)))
       clear HB
       refine zW fun w82 (HB : Below w78.heap.size w78 w82) => ?_
       go_wp2_with (fail)
       go_ret
       exact ⟨ze, zv HW.out HB⟩
      rw [if_neg c81] at H
      have c81b0 := zgtn c81
      clear c81
      by_cases c83 : x5_kl73 > 0
      ·rw [if_pos c83] at H
       have c83b0 := zgt c83
       clear c83
       obtain ⟨ji84, hji84⟩ : ∃ j_ : Int, (wrap64 (x5_kl73 - 1)) = j_ := ⟨_, rfl⟩
       (first | rw [hji84] at H | simp only [hji84] at H)
       have hji84w : (IntKind.i64.wrap (x5_kl73 - 1)) = ji84 := (i64_w _).trans hji84
       (try rw [hji84] at A8)
       by_cases c85 : 0 ≤ (ji84)
       case neg => exact zno H c85
       rw [if_pos c85] at H
       have c85b0 := z1 c85
       clear c85
       by_cases c86 : (ji84) < (((rd_T67 l0 x3_kl3).f2).length : Int)
       case neg => exact zno H c86
       rw [if_pos c86] at H
       have c86b0 := z1 c86
       clear c86
       have p308 : 0 ≤ ((ji84) : Int) := z2
       have q308 : ((ji84) : Int) < (((rd_T67 l0 x3_kl3).f2).length : Int) := z2
       obtain ⟨ad308, e308, hx308_0, hx308_1⟩ := at_T70 HR302_2.out (ji84) p308 q308
       obtain rfl : ad306 = ad308 := (by injection e308)
       replace hx308_0 := cellB hx308_0
       replace hx308_1 := cellB hx308_1
       replace p308 := eq_true p308
       replace q308 := eq_true q308
       by_cases c87 : ((rd_T70 ((rd_T67 l0 x3_kl3).f2) (ji84)).f0) ≥ ((rd_T70 ((rd_T67 l0 x3_kl3).f2) x5_kl73).f0)
       ·rw [if_pos c87] at H
        have c87b0 := zge c87
        clear c87
        obtain rfl := zi H
        repeat (first | go_big_quiet_skip | (go_big_quiet_want; go_big_quiet_op; first | go_big_quiet_on | (refine zE ?_; go_big_quiet_on)))
        clear HB
        refine zW fun w88 (HB : Below w78.heap.size w78 w88) => ?_
        go_wp2_with (fail)
        go_ret
        exact ⟨ze, zv HW.out HB⟩
       rw [if_neg c87] at H
       have c87b0 := zgen c87
       clear c87
       replace H := zf H
       obtain ⟨t309, A89, H⟩ := H
       try dsimp only at H
       replace A89 := zz A89
       by_cases c90 : t309 = true
       ·subst c90
        rw [if_pos rfl] at H
        repeat (first | go_big_quiet_skip | (go_big_quiet_want; go_big_quiet_op; first | go_big_quiet_on | (with_reducible apply Exists.intro; refine ⟨fun W hW => ?_, ?_⟩; (first | with_reducible rfl | (go_at_call 36; exact callD (spec_AddressOk.calls kl73 _ _ _  A89.out) hW) | (go_simp; with_reducible rfl)); go_big_quiet_on)))
        clear HB
        refine zW fun w91 (HB : Below w78.heap.size w78 w91) => ?_
        go_wp2_with (fail)
        go_roundg kl73
        case measure => have := HKkl3.out; have := HKkl73.out; omega
        case rel => exact ⟨(wrap64 (x5_kl73 + 1)), zr, ⟨H⟩, ⟨by have := HKkl3.out; have := HKkl73.out; omega⟩, ⟨zv HLkl73.out HB⟩⟩
       replace c90 := Bool.eq_false_iff.mpr c90
       subst c90
       rw [if_neg (by decide)] at H
       obtain rfl := zi H
       repeat (first | go_big_quiet_skip | (go_big_quiet_want; go_big_quiet_op; first | go_big_quiet_on | (with_reducible apply Exists.intro; refine ⟨fun W hW => ?_, ?_⟩; (first | with_reducible rfl | (go_at_call 36; exact callD (spec_AddressOk.calls kl73 _ _ _  A89.out) hW) | (go_simp; with_reducible rfl)); go_big_quiet_on)))
       clear HB
       refine zW fun w92 (HB : Below w78.heap.size w78 w92) => ?_
       go_wp2_with (fail)
       go_ret
       exact ⟨ze, zv HW.out HB⟩
      rw [if_neg c83] at H
      have c83b0 := zgtn c83
      clear c83
      replace H := zf H
      obtain ⟨t310, A93, H⟩ := H
      try dsimp only at H
      replace A93 := zz A93
      by_cases c94 : t310 = true
      ·subst c94
       rw [if_pos rfl] at H
       repeat (first | go_big_quiet_skip | (go_big_quiet_want; go_big_quiet_op; first | go_big_quiet_on | (with_reducible apply Exists.intro; refine ⟨fun W hW => ?_, ?_⟩; (first | with_reducible rfl | (go_at_call 36; exact callD (spec_AddressOk.calls kl73 _ _ _  A93.out) hW) | (go_simp; with_reducible rfl)); go_big_quiet_on)))
       clear HB
       refine zW fun w95 (HB : Below w78.heap.size w78 w95) => ?_
       go_wp2_with (fail)
       go_roundg kl73
       case measure => have := HKkl3.out; have := HKkl73.out; omega
       case rel => exact ⟨(wrap64 (x5_kl73 + 1)), zr, ⟨H⟩, ⟨by have := HKkl3.out; have := HKkl73.out; omega⟩, ⟨zv HLkl73.out HB⟩⟩
      replace c94 := Bool.eq_false_iff.mpr c94
      subst c94
      rw [if_neg (by decide)] at H
      obtain rfl := zi H
      repeat (first | go_big_quiet_skip | (go_big_quiet_want; go_big_quiet_op; first | go_big_quiet_on | (with_reducible apply Exists.intro; refine ⟨fun W hW => ?_, ?_⟩; (first | with_reducible rfl | (go_at_call 36; exact callD (spec_AddressOk.calls kl73 _ _ _  A93.out) hW) | (go_simp; with_reducible rfl)); go_big_quiet_on)))
      clear HB
      refine zW fun w96 (HB : Below w78.heap.size w78 w96) => ?_
      go_wp2_with (fail)
      go_ret
      exact ⟨ze, zv HW.out HB⟩
   rw [if_pos c10] at H
   have c10b0 := zgt c10
   clear c10
   obtain ⟨ji11, hji11⟩ : ∃ j_ : Int, (wrap64 (x3_kl3 - 1)) = j_ := ⟨_, rfl⟩
   (first | rw [hji11] at H | simp only [hji11] at H)
   have hji11w : (IntKind.i64.wrap (x3_kl3 - 1)) = ji11 := (i64_w _).trans hji11
   (try rw [hji11] at A8)
   by_cases c12 : 0 ≤ (ji11)
   case neg => exact zno H c12
   rw [if_pos c12] at H
   have c12b0 := z1 c12
   clear c12
   by_cases c13 : (ji11) < (l0.length : Int)
   case neg => exact zno H c13
   rw [if_pos c13] at H
   have c13b0 := z1 c13
   clear c13
   have p305 : 0 ≤ ((ji11) : Int) := z2
   have q305 : ((ji11) : Int) < (l0.length : Int) := z2
   obtain ⟨ad305, A305_2, c305_2, e305, hx305_0, hx305_1, hx305_2, hl305_2, hC305_2⟩ := at_T67 HR0.out (ji11) p305 q305
   obtain rfl : ad302 = ad305 := (by injection e305)
   replace hx305_0 := cellB hx305_0
   replace hx305_1 := cellB hx305_1
   replace hx305_2 := cellB hx305_2
   have HR305_2 := zz hC305_2
   have HC305_2 := zz hl305_2
   clear hC305_2 hl305_2
   replace p305 := eq_true p305
   replace q305 := eq_true q305
   by_cases c14 : ((Op.bytesLess (((rd_T67 l0 (ji11)).f0).toList) (((rd_T67 l0 x3_kl3).f0).toList)) = true)
   case neg =>
    rw [if_neg c14] at H
    have c14b0 : (Op.bytesLess (((rd_T67 l0 (ji11)).f0).toList) (((rd_T67 l0 x3_kl3).f0).toList)) = false := by simpa using c14
    clear c14
    obtain rfl := zi H
    repeat (first | go_big_quiet_skip | (go_big_quiet_want; go_big_quiet_op; first | go_big_quiet_on | (with_reducible apply Exists.intro; refine ⟨fun W hW => ?_, ?_⟩; (first | with_reducible rfl | (go_at_call 35; exact callD (spec_NameOk.calls kl3 _ _ _  A8.out) hW) | (go_simp; with_reducible rfl)); go_big_quiet_on)))
    clear HB
    refine zW fun w69 (HB : Below w7.heap.size w7 w69) => ?_
    go_wp2_with (fail)
    go_ret
    exact ⟨ze, zv HW.out HB⟩
   rw [if_pos c14] at H
   have c14b0 : (Op.bytesLess (((rd_T67 l0 (ji11)).f0).toList) (((rd_T67 l0 x3_kl3).f0).toList)) = true := c14
   clear c14
   by_cases c15 : (((rd_T67 l0 x3_kl3).f2).length : Int) > 50
   ·rw [if_pos c15] at H
    have c15b0 := zgt c15
    have c15b1 : decide (50 < ((rd_T67 l0 x3_kl3).f2).length) = true := z1 (by omega)
    clear c15
    obtain rfl := zi H
    repeat (first | go_big_quiet_skip | (go_big_quiet_want; go_big_quiet_op; first | go_big_quiet_on | (with_reducible apply Exists.intro; refine ⟨fun W hW => ?_, ?_⟩; (first | with_reducible rfl | (go_at_call 35; exact callD (spec_NameOk.calls kl3 _ _ _  A8.out) hW) | (go_simp; with_reducible rfl)); go_big_quiet_on)))
    clear HB
    refine zW fun w16 (HB : Below w7.heap.size w7 w16) => ?_
    go_wp2_with (fail)
    go_ret
    exact ⟨ze, zv HW.out HB⟩
   rw [if_neg c15] at H
   have c15b0 := zgtn c15
   have c15b1 : decide (50 < ((rd_T67 l0 x3_kl3).f2).length) = false := z0 (by omega)
   clear c15
   by_cases c17 : ((rd_T67 l0 x3_kl3).f1) = 0
   case neg =>
    rw [if_neg c17] at H
    obtain ⟨c17b0, c17b1⟩ := zw c17
    replace H := zf H
    obtain ⟨t311, A42, H⟩ := H
    try dsimp only at H
    replace A42 := zz A42
    by_cases c43 : t311 < 0
    ·rw [if_pos c43] at H
     have c43b0 := z1 c43
     clear c43
     obtain rfl := zi H
     repeat (first | go_big_quiet_skip | (go_big_quiet_want; go_big_quiet_op; first | go_big_quiet_on | (with_reducible apply Exists.intro; refine ⟨fun W hW => ?_, ?_⟩; (first | with_reducible rfl | (go_at_call 35; exact callD (spec_NameOk.calls kl3 _ _ _  A8.out) hW) | (go_at_call 80; exact callB (spec_l13Gen.calls kl3 _ _ _ _ _ _ _ _ (Kd.C_below HR302_2.out hW) HC302_2.out A42.out) hW) | (go_simp; with_reducible rfl)); go_big_quiet_on)))
     clear HB
     refine zW fun w44 (HB : Below w7.heap.size w7 w44) => ?_
     go_wp2_with (fail)
     go_ret
     exact ⟨ze, zv HW.out HB⟩
    rw [if_neg c43] at H
    have c43b0 := z0 c43
    clear c43
    repeat (first | go_big_quiet_skip | (go_big_quiet_want; go_big_quiet_op; first | go_big_quiet_on | (with_reducible apply Exists.intro; refine ⟨fun W hW => ?_, ?_⟩; (first | with_reducible rfl | (go_at_call 35; exact callD (spec_NameOk.calls kl3 _ _ _  A8.out) hW) | (go_at_call 80; exact callB (spec_l13Gen.calls kl3 _ _ _ _ _ _ _ _ (Kd.C_below HR302_2.out hW) HC302_2.out A42.out) hW) | (go_simp; with_reducible rfl)); go_big_quiet_on)))
    clear HB
    refine zW fun w46 (HB : Below w7.heap.size w7 w46) => ?_
    go_wp2_with (fail)
    go_loopg [5] kl3 (fun kq v5 w' => ∃ (x5_kl45 : Int), v5 = .int .i64 x5_kl45 ∧ Aside0 (spec_ProfilesOk.l1 kq l0 x3_kl3 x5_kl45 ((rd_T67 l0 x3_kl3).f0) ((rd_T67 l0 x3_kl3).f1) ((rd_T67 l0 x3_kl3).f2) = some r) ∧ Aside0 (kq ≤ kl3) ∧ Aside0 (Below w7.heap.size w7 w'))
    case atStart => exact ⟨(0), zr, ⟨H⟩, ⟨Nat.le_refl _⟩, ⟨HB⟩⟩
    case round =>
     clear H HB
     obtain ⟨x5_kl45, rfl, H, HKkl45, HB⟩ := hrel
     replace HB := HB.out
     replace H := H.out
     have HLkl45 := zz (Below.refl w7.heap.size w7)
     cases gk with
     | zero => exact absurd H (by simp [spec_ProfilesOk.l1])
     | succ kl45 =>
      simp only [spec_ProfilesOk.l1] at H
      by_cases c47 : x5_kl45 < (((rd_T67 l0 x3_kl3).f2).length : Int)
      case neg =>
       rw [if_neg c47] at H
       have c47b0 := z0 c47
       clear c47
       go_wp2_with (fail)
       go_roundg kl45
       case measure => have := HKkl3.out; have := HKkl45.out; omega
       case rel => exact ⟨(wrap64 (x3_kl3 + 1)), zr, ⟨H⟩, ⟨by have := HKkl3.out; have := HKkl45.out; omega⟩, ⟨zv HLkl3.out HB⟩⟩
      rw [if_pos c47] at H
      have c47b0 := z1 c47
      clear c47
      by_cases c48 : 0 ≤ x5_kl45
      case neg => exact zno H c48
      rw [if_pos c48] at H
      have c48b0 := z1 c48
      clear c48
      have p306 : 0 ≤ (x5_kl45 : Int) := z2
      have q306 : (x5_kl45 : Int) < (((rd_T67 l0 x3_kl3).f2).length : Int) := z2
      obtain ⟨ad306, e306, hx306_0, hx306_1⟩ := at_T70 HR302_2.out x5_kl45 p306 q306
      cases e306
      replace hx306_0 := cellB hx306_0
      replace hx306_1 := cellB hx306_1
      replace p306 := eq_true p306
      replace q306 := eq_true q306
      go_wp2_with (first | (refine zN 6 ?_; (try (refine z4 ?_; dsimp only)); refine zX 6 70 #[.int .i64 0, .string (⟨#[]⟩ : ByteArray)] ?_; intro gb307 hg w49 hbox hb; have hge : w7.heap.size ≤ gb307 := (by rw [hg]; exact below_size HB); clear hg; have hst : Below w7.heap.size w7 ((w49.setCell ⟨gb307, 0, none⟩ (.int .i64 ((rd_T70 ((rd_T67 l0 x3_kl3).f2) x5_kl45).f0))).setCell ⟨gb307, 1, none⟩ (.string ((rd_T70 ((rd_T67 l0 x3_kl3).f2) x5_kl45).f1))) := (below_set (below_set (zv HB hb) hge) hge); have hbx : ((w49.setCell ⟨gb307, 0, none⟩ (.int .i64 ((rd_T70 ((rd_T67 l0 x3_kl3).f2) x5_kl45).f0))).setCell ⟨gb307, 1, none⟩ (.string ((rd_T70 ((rd_T67 l0 x3_kl3).f2) x5_kl45).f1))).heap[gb307]? = some (.cells #[.int .i64 ((rd_T70 ((rd_T67 l0 x3_kl3).f2) x5_kl45).f0), .string ((rd_T70 ((rd_T67 l0 x3_kl3).f2) x5_kl45).f1)] 70 (0, 0)) := (blk_put (cs := #[.int .i64 ((rd_T70 ((rd_T67 l0 x3_kl3).f2) x5_kl45).f0), .string (⟨#[]⟩ : ByteArray)]) (blk_put (cs := #[.int .i64 0, .string (⟨#[]⟩ : ByteArray)]) hbox 0 _ rfl) 1 _ rfl); obtain ⟨hs307_0, hs307_1, hf307_0, hf307_1⟩ := zc2 hbox) | ((with_reducible refine gate_store (t := 70) (p := 6) rfl ?_); (try (refine z4 ?_; dsimp only)); refine store_event (t := 70) (p := 6) (v := ?vo_w50) (w1 := ((w49.setCell ⟨gb307, 0, none⟩ (.int .i64 ((rd_T70 ((rd_T67 l0 x3_kl3).f2) x5_kl45).f0))).setCell ⟨gb307, 1, none⟩ (.string ((rd_T70 ((rd_T67 l0 x3_kl3).f2) x5_kl45).f1)))) ?hg ?ho ?hn ?hr ?_; (case ho => rfl); (case hg => rfl); (case hn => rfl); (case hr => first | (go_simp; done) | (go_simp; rfl)); intro w50 hw; replace hst := hst; rw [← hw] at hst hbx; clear hw hb hbox hge HB hs307_0 hf307_0 hs307_1 hf307_1; replace HW := zz (zv HW.out hst); replace HLkl3 := zz (zv HLkl3.out hst); replace HLkl45 := zz (zv HLkl45.out hst); replace HR0 := zz (Kd.C_below HR0.out hst); replace HR302_2 := zz (Kd.C_below HR302_2.out hst); replace HR305_2 := zz (Kd.C_below HR305_2.out hst); replace hx302_0 := rebase hx302_0 hst; replace hx302_1 := rebase hx302_1 hst; replace hx302_2 := rebase hx302_2 hst; replace hbx303_0 := rebase hbx303_0 hst; replace hbx303_1 := rebase hbx303_1 hst; replace hbx303_2 := rebase hbx303_2 hst; replace hx305_0 := rebase hx305_0 hst; replace hx305_1 := rebase hx305_1 hst; replace hx305_2 := rebase hx305_2 hst; replace hx306_0 := rebase hx306_0 hst; replace hx306_1 := rebase hx306_1 hst; obtain ⟨hbx307_0, hbx307_1⟩ := zx2 hbx; have HB := Below.refl w50.heap.size w50; clear hbx hst))
      try simp only [Act.put, List.setIfInBounds_toArray, List.set_cons_zero, List.set_cons_succ]
      refine wp_region_inv_lit (C := fun W_ => Below w50.heap.size w50 W_) zk zk (below_drew1 HB) ?_
      by_cases c51 : ((rd_T70 ((rd_T67 l0 x3_kl3).f2) x5_kl45).f0) < 1
      ·rw [if_pos c51] at H
       have c51b0 := z1 c51
       clear c51
       obtain rfl := zi H
       repeat (first | go_big_quiet_skip | (go_big_quiet_want; go_big_quiet_op; first | go_big_quiet_on | (refine zE ?_; go_big_quiet_on)))
       clear HB
       refine zW fun w52 (HB : Below w50.heap.size w50 w52) => ?_
       go_wp2_with (fail)
       go_ret
       exact ⟨ze, zv HW.out HB⟩
      rw [if_neg c51] at H
      have c51b0 := z0 c51
      clear c51
      by_cases c53 : ((rd_T70 ((rd_T67 l0 x3_kl3).f2) x5_kl45).f0) > 9007199254740992
      ·rw [if_pos c53] at H
       have c53b0 := zgt c53
       clear c53
       obtain rfl := zi H
       repeat (first | go_big_quiet_skip | (go_big_quiet_want; go_big_quiet_op; first | go_big_quiet_on | (refine zE ?_; go_big_quiet_on)))
       clear HB
       refine zW fun w54 (HB : Below w50.heap.size w50 w54) => ?_
       go_wp2_with (fail)
       go_ret
       exact ⟨ze, zv HW.out HB⟩
      rw [if_neg c53] at H
      have c53b0 := zgtn c53
      clear c53
      by_cases c55 : x5_kl45 > 0
      case neg =>
       rw [if_neg c55] at H
       have c55b0 := zgtn c55
       clear c55
       replace H := zf H
       obtain ⟨t310, A65, H⟩ := H
       try dsimp only at H
       replace A65 := zz A65
       by_cases c66 : t310 = true
       ·subst c66
        rw [if_pos rfl] at H
        repeat (first | go_big_quiet_skip | (go_big_quiet_want; go_big_quiet_op; first | go_big_quiet_on | (with_reducible apply Exists.intro; refine ⟨fun W hW => ?_, ?_⟩; (first | with_reducible rfl | (go_at_call 36; exact callD (spec_AddressOk.calls kl45 _ _ _  A65.out) hW) | (go_simp; with_reducible rfl)); go_big_quiet_on)))
        clear HB
        refine zW fun w67 (HB : Below w50.heap.size w50 w67) => ?_
        go_wp2_with (fail)
        go_roundg kl45
        case measure => have := HKkl3.out; have := HKkl45.out; omega
        case rel => exact ⟨(wrap64 (x5_kl45 + 1)), zr, ⟨H⟩, ⟨by have := HKkl3.out; have := HKkl45.out; omega⟩, ⟨zv HLkl45.out HB⟩⟩
       replace c66 := Bool.eq_false_iff.mpr c66
       subst c66
       rw [if_neg (by decide)] at H
       obtain rfl := zi H
       repeat (first | go_big_quiet_skip | (go_big_quiet_want; go_big_quiet_op; first | go_big_quiet_on | (with_reducible apply Exists.intro; refine ⟨fun W hW => ?_, ?_⟩; (first | with_reducible rfl | (go_at_call 36; exact callD (spec_AddressOk.calls kl45 _ _ _  A65.out) hW) | (go_simp; with_reducible rfl)); go_big_quiet_on)))
       clear HB
       refine zW fun w68 (HB : Below w50.heap.size w50 w68) => ?_
       go_wp2_with (fail)
       go_ret
       exact ⟨ze, zv HW.out HB⟩
      rw [if_pos c55] at H
      have c55b0 := zgt c55
      clear c55
      obtain ⟨ji56, hji56⟩ : ∃ j_ : Int, (wrap64 (x5_kl45 - 1)) = j_ := ⟨_, rfl⟩
      (first | rw [hji56] at H | simp only [hji56] at H)
      have hji56w : (IntKind.i64.wrap (x5_kl45 - 1)) = ji56 := (i64_w _).trans hji56
      (try rw [hji56] at A8)
      (try rw [hji56] at A42)
      by_cases c57 : 0 ≤ (ji56)
      case neg => exact zno H c57
      rw [if_pos c57] at H
      have c57b0 := z1 c57
      clear c57
      by_cases c58 : (ji56) < (((rd_T67 l0 x3_kl3).f2).length : Int)
      case neg => exact zno H c58
      rw [if_pos c58] at H
      have c58b0 := z1 c58
      clear c58
      have p308 : 0 ≤ ((ji56) : Int) := z2
      have q308 : ((ji56) : Int) < (((rd_T67 l0 x3_kl3).f2).length : Int) := z2
      obtain ⟨ad308, e308, hx308_0, hx308_1⟩ := at_T70 HR302_2.out (ji56) p308 q308
      obtain rfl : ad306 = ad308 := (by injection e308)
      replace hx308_0 := cellB hx308_0
      replace hx308_1 := cellB hx308_1
      replace p308 := eq_true p308
      replace q308 := eq_true q308
      by_cases c59 : ((rd_T70 ((rd_T67 l0 x3_kl3).f2) (ji56)).f0) ≥ ((rd_T70 ((rd_T67 l0 x3_kl3).f2) x5_kl45).f0)
      ·rw [if_pos c59] at H
       have c59b0 := zge c59
       clear c59
       obtain rfl := zi H
       repeat (first | go_big_quiet_skip | (go_big_quiet_want; go_big_quiet_op; first | go_big_quiet_on | (refine zE ?_; go_big_quiet_on)))
       clear HB
       refine zW fun w60 (HB : Below w50.heap.size w50 w60) => ?_
       go_wp2_with (fail)
       go_ret
       exact ⟨ze, zv HW.out HB⟩
      rw [if_neg c59] at H
      have c59b0 := zgen c59
      clear c59
      replace H := zf H
      obtain ⟨t309, A61, H⟩ := H
      try dsimp only at H
      replace A61 := zz A61
      by_cases c62 : t309 = true
      ·subst c62
       rw [if_pos rfl] at H
       repeat (first | go_big_quiet_skip | (go_big_quiet_want; go_big_quiet_op; first | go_big_quiet_on | (with_reducible apply Exists.intro; refine ⟨fun W hW => ?_, ?_⟩; (first | with_reducible rfl | (go_at_call 36; exact callD (spec_AddressOk.calls kl45 _ _ _  A61.out) hW) | (go_simp; with_reducible rfl)); go_big_quiet_on)))
       clear HB
       refine zW fun w63 (HB : Below w50.heap.size w50 w63) => ?_
       go_wp2_with (fail)
       go_roundg kl45
       case measure => have := HKkl3.out; have := HKkl45.out; omega
       case rel => exact ⟨(wrap64 (x5_kl45 + 1)), zr, ⟨H⟩, ⟨by have := HKkl3.out; have := HKkl45.out; omega⟩, ⟨zv HLkl45.out HB⟩⟩
      replace c62 := Bool.eq_false_iff.mpr c62
      subst c62
      rw [if_neg (by decide)] at H
      obtain rfl := zi H
      repeat (first | go_big_quiet_skip | (go_big_quiet_want; go_big_quiet_op; first | go_big_quiet_on | (with_reducible apply Exists.intro; refine ⟨fun W hW => ?_, ?_⟩; (first | with_reducible rfl | (go_at_call 36; exact callD (spec_AddressOk.calls kl45 _ _ _  A61.out) hW) | (go_simp; with_reducible rfl)); go_big_quiet_on)))
      clear HB
      refine zW fun w64 (HB : Below w50.heap.size w50 w64) => ?_
      go_wp2_with (fail)
      go_ret
      exact ⟨ze, zv HW.out HB⟩
   rw [if_pos c17] at H
   obtain ⟨c17b0, c17b1⟩ := zq c17
   clear c17
   repeat (first | go_big_quiet_skip | (go_big_quiet_want; go_big_quiet_op; first | go_big_quiet_on | (with_reducible apply Exists.intro; refine ⟨fun W hW => ?_, ?_⟩; (first | with_reducible rfl | (go_at_call 35; exact callD (spec_NameOk.calls kl3 _ _ _  A8.out) hW) | (go_simp; with_reducible rfl)); go_big_quiet_on)))
   clear HB
   refine zW fun w19 (HB : Below w7.heap.size w7 w19) => ?_
   go_wp2_with (fail)
   go_loopg [5] kl3 (fun kq v5 w' => ∃ (x5_kl18 : Int), v5 = .int .i64 x5_kl18 ∧ Aside0 (spec_ProfilesOk.l1 kq l0 x3_kl3 x5_kl18 ((rd_T67 l0 x3_kl3).f0) ((rd_T67 l0 x3_kl3).f1) ((rd_T67 l0 x3_kl3).f2) = some r) ∧ Aside0 (kq ≤ kl3) ∧ Aside0 (Below w7.heap.size w7 w'))
   case atStart => exact ⟨(0), zr, ⟨H⟩, ⟨Nat.le_refl _⟩, ⟨HB⟩⟩
   case round =>
    clear H HB
    obtain ⟨x5_kl18, rfl, H, HKkl18, HB⟩ := hrel
    replace HB := HB.out
    replace H := H.out
    have HLkl18 := zz (Below.refl w7.heap.size w7)
    cases gk with
    | zero => exact absurd H (by simp [spec_ProfilesOk.l1])
    | succ kl18 =>
     simp only [spec_ProfilesOk.l1] at H
     by_cases c20 : x5_kl18 < (((rd_T67 l0 x3_kl3).f2).length : Int)
     case neg =>
      rw [if_neg c20] at H
      have c20b0 := z0 c20
      clear c20
      go_wp2_with (fail)
      go_roundg kl18
      case measure => have := HKkl3.out; have := HKkl18.out; omega
      case rel => exact ⟨(wrap64 (x3_kl3 + 1)), zr, ⟨H⟩, ⟨by have := HKkl3.out; have := HKkl18.out; omega⟩, ⟨zv HLkl3.out HB⟩⟩
     rw [if_pos c20] at H
     have c20b0 := z1 c20
     clear c20
     by_cases c21 : 0 ≤ x5_kl18
     case neg => exact zno H c21
     rw [if_pos c21] at H
     have c21b0 := z1 c21
     clear c21
     have p306 : 0 ≤ (x5_kl18 : Int) := z2
     have q306 : (x5_kl18 : Int) < (((rd_T67 l0 x3_kl3).f2).length : Int) := z2
     obtain ⟨ad306, e306, hx306_0, hx306_1⟩ := at_T70 HR302_2.out x5_kl18 p306 q306
     cases e306
     replace hx306_0 := cellB hx306_0
     replace hx306_1 := cellB hx306_1
     replace p306 := eq_true p306
     replace q306 := eq_true q306
     go_wp2_with (first | (refine zN 6 ?_; (try (refine z4 ?_; dsimp only)); refine zX 6 70 #[.int .i64 0, .string (⟨#[]⟩ : ByteArray)] ?_; intro gb307 hg w22 hbox hb; have hge : w7.heap.size ≤ gb307 := (by rw [hg]; exact below_size HB); clear hg; have hst : Below w7.heap.size w7 ((w22.setCell ⟨gb307, 0, none⟩ (.int .i64 ((rd_T70 ((rd_T67 l0 x3_kl3).f2) x5_kl18).f0))).setCell ⟨gb307, 1, none⟩ (.string ((rd_T70 ((rd_T67 l0 x3_kl3).f2) x5_kl18).f1))) := (below_set (below_set (zv HB hb) hge) hge); have hbx : ((w22.setCell ⟨gb307, 0, none⟩ (.int .i64 ((rd_T70 ((rd_T67 l0 x3_kl3).f2) x5_kl18).f0))).setCell ⟨gb307, 1, none⟩ (.string ((rd_T70 ((rd_T67 l0 x3_kl3).f2) x5_kl18).f1))).heap[gb307]? = some (.cells #[.int .i64 ((rd_T70 ((rd_T67 l0 x3_kl3).f2) x5_kl18).f0), .string ((rd_T70 ((rd_T67 l0 x3_kl3).f2) x5_kl18).f1)] 70 (0, 0)) := (blk_put (cs := #[.int .i64 ((rd_T70 ((rd_T67 l0 x3_kl3).f2) x5_kl18).f0), .string (⟨#[]⟩ : ByteArray)]) (blk_put (cs := #[.int .i64 0, .string (⟨#[]⟩ : ByteArray)]) hbox 0 _ rfl) 1 _ rfl); obtain ⟨hs307_0, hs307_1, hf307_0, hf307_1⟩ := zc2 hbox) | ((with_reducible refine gate_store (t := 70) (p := 6) rfl ?_); (try (refine z4 ?_; dsimp only)); refine store_event (t := 70) (p := 6) (v := ?vo_w23) (w1 := ((w22.setCell ⟨gb307, 0, none⟩ (.int .i64 ((rd_T70 ((rd_T67 l0 x3_kl3).f2) x5_kl18).f0))).setCell ⟨gb307, 1, none⟩ (.string ((rd_T70 ((rd_T67 l0 x3_kl3).f2) x5_kl18).f1)))) ?hg ?ho ?hn ?hr ?_; (case ho => rfl); (case hg => rfl); (case hn => rfl); (case hr => first | (go_simp; done) | (go_simp; rfl)); intro w23 hw; replace hst := hst; rw [← hw] at hst hbx; clear hw hb hbox hge HB hs307_0 hf307_0 hs307_1 hf307_1; replace HW := zz (zv HW.out hst); replace HLkl3 := zz (zv HLkl3.out hst); replace HLkl18 := zz (zv HLkl18.out hst); replace HR0 := zz (Kd.C_below HR0.out hst); replace HR302_2 := zz (Kd.C_below HR302_2.out hst); replace HR305_2 := zz (Kd.C_below HR305_2.out hst); replace hx302_0 := rebase hx302_0 hst; replace hx302_1 := rebase hx302_1 hst; replace hx302_2 := rebase hx302_2 hst; replace hbx303_0 := rebase hbx303_0 hst; replace hbx303_1 := rebase hbx303_1 hst; replace hbx303_2 := rebase hbx303_2 hst; replace hx305_0 := rebase hx305_0 hst; replace hx305_1 := rebase hx305_1 hst; replace hx305_2 := rebase hx305_2 hst; replace hx306_0 := rebase hx306_0 hst; replace hx306_1 := rebase hx306_1 hst; obtain ⟨hbx307_0, hbx307_1⟩ := zx2 hbx; have HB := Below.refl w23.heap.size w23; clear hbx hst))
     try simp only [Act.put, List.setIfInBounds_toArray, List.set_cons_zero, List.set_cons_succ]
     refine wp_region_inv_lit (C := fun W_ => Below w23.heap.size w23 W_) zk zk (below_drew1 HB) ?_
     by_cases c24 : ((rd_T70 ((rd_T67 l0 x3_kl3).f2) x5_kl18).f0) < 1
     ·rw [if_pos c24] at H
      have c24b0 := z1 c24
      clear c24
      obtain rfl := zi H
      repeat (first | go_big_quiet_skip | (go_big_quiet_want; go_big_quiet_op; first | go_big_quiet_on | (refine zE ?_; go_big_quiet_on)))
      clear HB
      refine zW fun w25 (HB : Below w23.heap.size w23 w25) => ?_
      go_wp2_with (fail)
      go_ret
      exact ⟨ze, zv HW.out HB⟩
     rw [if_neg c24] at H
     have c24b0 := z0 c24
     clear c24
     by_cases c26 : ((rd_T70 ((rd_T67 l0 x3_kl3).f2) x5_kl18).f0) > 9007199254740992
     ·rw [if_pos c26] at H
      have c26b0 := zgt c26
      clear c26
      obtain rfl := zi H
      repeat (first | go_big_quiet_skip | (go_big_quiet_want; go_big_quiet_op; first | go_big_quiet_on | (refine zE ?_; go_big_quiet_on)))
      clear HB
      refine zW fun w27 (HB : Below w23.heap.size w23 w27) => ?_
      go_wp2_with (fail)
      go_ret
      exact ⟨ze, zv HW.out HB⟩
     rw [if_neg c26] at H
     have c26b0 := zgtn c26
     clear c26
     by_cases c28 : x5_kl18 > 0
     ·rw [if_pos c28] at H
      have c28b0 := zgt c28
      clear c28
      obtain ⟨ji29, hji29⟩ : ∃ j_ : Int, (wrap64 (x5_kl18 - 1)) = j_ := ⟨_, rfl⟩
      (first | rw [hji29] at H | simp only [hji29] at H)
      have hji29w : (IntKind.i64.wrap (x5_kl18 - 1)) = ji29 := (i64_w _).trans hji29
      (try rw [hji29] at A8)
      by_cases c30 : 0 ≤ (ji29)
      case neg => exact zno H c30
      rw [if_pos c30] at H
      have c30b0 := z1 c30
      clear c30
      by_cases c31 : (ji29) < (((rd_T67 l0 x3_kl3).f2).length : Int)
      case neg => exact zno H c31
      rw [if_pos c31] at H
      have c31b0 := z1 c31
      clear c31
      have p308 : 0 ≤ ((ji29) : Int) := z2
      have q308 : ((ji29) : Int) < (((rd_T67 l0 x3_kl3).f2).length : Int) := z2
      obtain ⟨ad308, e308, hx308_0, hx308_1⟩ := at_T70 HR302_2.out (ji29) p308 q308
      obtain rfl : ad306 = ad308 := (by injection e308)
      replace hx308_0 := cellB hx308_0
      replace hx308_1 := cellB hx308_1
      replace p308 := eq_true p308
      replace q308 := eq_true q308
      by_cases c32 : ((rd_T70 ((rd_T67 l0 x3_kl3).f2) (ji29)).f0) ≥ ((rd_T70 ((rd_T67 l0 x3_kl3).f2) x5_kl18).f0)
      ·rw [if_pos c32] at H
       have c32b0 := zge c32
       clear c32
       obtain rfl := zi H
       repeat (first | go_big_quiet_skip | (go_big_quiet_want; go_big_quiet_op; first | go_big_quiet_on | (refine zE ?_; go_big_quiet_on)))
       clear HB
       refine zW fun w33 (HB : Below w23.heap.size w23 w33) => ?_
       go_wp2_with (fail)
       go_ret
       exact ⟨ze, zv HW.out HB⟩
      rw [if_neg c32] at H
      have c32b0 := zgen c32
      clear c32
      replace H := zf H
      obtain ⟨t309, A34, H⟩ := H
      try dsimp only at H
      replace A34 := zz A34
      by_cases c35 : t309 = true
      ·subst c35
       rw [if_pos rfl] at H
       repeat (first | go_big_quiet_skip | (go_big_quiet_want; go_big_quiet_op; first | go_big_quiet_on | (with_reducible apply Exists.intro; refine ⟨fun W hW => ?_, ?_⟩; (first | with_reducible rfl | (go_at_call 36; exact callD (spec_AddressOk.calls kl18 _ _ _  A34.out) hW) | (go_simp; with_reducible rfl)); go_big_quiet_on)))
       clear HB
       refine zW fun w36 (HB : Below w23.heap.size w23 w36) => ?_
       go_wp2_with (fail)
       go_roundg kl18
       case measure => have := HKkl3.out; have := HKkl18.out; omega
       case rel => exact ⟨(wrap64 (x5_kl18 + 1)), zr, ⟨H⟩, ⟨by have := HKkl3.out; have := HKkl18.out; omega⟩, ⟨zv HLkl18.out HB⟩⟩
      replace c35 := Bool.eq_false_iff.mpr c35
      subst c35
      rw [if_neg (by decide)] at H
      obtain rfl := zi H
      repeat (first | go_big_quiet_skip | (go_big_quiet_want; go_big_quiet_op; first | go_big_quiet_on | (with_reducible apply Exists.intro; refine ⟨fun W hW => ?_, ?_⟩; (first | with_reducible rfl | (go_at_call 36; exact callD (spec_AddressOk.calls kl18 _ _ _  A34.out) hW) | (go_simp; with_reducible rfl)); go_big_quiet_on)))
      clear HB
      refine zW fun w37 (HB : Below w23.heap.size w23 w37) => ?_
      go_wp2_with (fail)
      go_ret
      exact ⟨ze, zv HW.out HB⟩
     rw [if_neg c28] at H
     have c28b0 := zgtn c28
     clear c28
     replace H := zf H
     obtain ⟨t310, A38, H⟩ := H
     try dsimp only at H
     replace A38 := zz A38
     by_cases c39 : t310 = true
     ·subst c39
      rw [if_pos rfl] at H
      repeat (first | go_big_quiet_skip | (go_big_quiet_want; go_big_quiet_op; first | go_big_quiet_on | (with_reducible apply Exists.intro; refine ⟨fun W hW => ?_, ?_⟩; (first | with_reducible rfl | (go_at_call 36; exact callD (spec_AddressOk.calls kl18 _ _ _  A38.out) hW) | (go_simp; with_reducible rfl)); go_big_quiet_on)))
      clear HB
      refine zW fun w40 (HB : Below w23.heap.size w23 w40) => ?_
      go_wp2_with (fail)
      go_roundg kl18
      case measure => have := HKkl3.out; have := HKkl18.out; omega
      case rel => exact ⟨(wrap64 (x5_kl18 + 1)), zr, ⟨H⟩, ⟨by have := HKkl3.out; have := HKkl18.out; omega⟩, ⟨zv HLkl18.out HB⟩⟩
     replace c39 := Bool.eq_false_iff.mpr c39
     subst c39
     rw [if_neg (by decide)] at H
     obtain rfl := zi H
     repeat (first | go_big_quiet_skip | (go_big_quiet_want; go_big_quiet_op; first | go_big_quiet_on | (with_reducible apply Exists.intro; refine ⟨fun W hW => ?_, ?_⟩; (first | with_reducible rfl | (go_at_call 36; exact callD (spec_AddressOk.calls kl18 _ _ _  A38.out) hW) | (go_simp; with_reducible rfl)); go_big_quiet_on)))
     clear HB
     refine zW fun w41 (HB : Below w23.heap.size w23 w41) => ?_
     go_wp2_with (fail)
     go_ret
     exact ⟨ze, zv HW.out HB⟩
end Go.Proofs.YtcekmnclmldmmaaGreatDoor.Q
