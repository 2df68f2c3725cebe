import Derived.Test.YtcekmnclmldmmaaGreatDoorB06
set_option linter.unusedVariables false
set_option linter.unusedSimpArgs false
namespace Go.Proofs.YtcekmnclmldmmaaGreatDoor.Q
open Go.RowKit W1 W2 W3
attribute [local go_sem] max2_int min2_int max_two min_two max_three min_three max_four min_four
attribute [local go_sem high] bl_leq bl_gtr bl_geq
set_option maxHeartbeats 8000000
set_option maxRecDepth 100000
mutual
def impl_ProfilesOk.l0 : Nat → List (S67) → List (S67) → Int → Int → Option (Bool)
 | 0, _, _, _, _ => none
 | k + 1, x0, x11, x12, x13 => if x13 < x12 then (if 0 ≤ x13 then (if x13 < (x11.length : Int) then ((impl_NameOk.f k ((rd_T67 x11 x13).f0)).bind fun t562 => (if t562 = true then (if x13 > 0 then (if 0 ≤ (wrap64 (x13 - 1)) then (if (wrap64 (x13 - 1)) < (x0.length : Int) then (if ((Op.bytesLess (((rd_T67 x0 (wrap64 (x13 - 1))).f0).toList) (((rd_T67 x11 x13).f0).toList)) = true) then (if (((rd_T67 x11 x13).f2).length : Int) > 50 then (some false) else (impl_ProfilesOk.l1 k x0 (((rd_T67 x11 x13).f1) == 0) x11 x12 x13 ((rd_T67 x11 x13).f2) (((rd_T67 x11 x13).f2).length : Int) 0 ((rd_T67 x11 x13).f0) ((rd_T67 x11 x13).f1) ((rd_T67 x11 x13).f2))) else (some false)) else (none)) else (none)) else (if (((rd_T67 x11 x13).f2).length : Int) > 50 then (some false) else (impl_ProfilesOk.l1 k x0 (((rd_T67 x11 x13).f1) == 0) x11 x12 x13 ((rd_T67 x11 x13).f2) (((rd_T67 x11 x13).f2).length : Int) 0 ((rd_T67 x11 x13).f0) ((rd_T67 x11 x13).f1) ((rd_T67 x11 x13).f2)))) else (some false))) else (none)) else (none)) else (some true)
def impl_ProfilesOk.l1 : Nat → List (S67) → Bool → List (S67) → Int → Int → List (S70) → Int → Int → ByteArray → Int → List (S70) → Option (Bool)
 | 0, _, _, _, _, _, _, _, _, _, _, _ => none
 | k + 1, x0, x5, x11, x12, x13, x47, x48, x49, x562000, x562001, x562002 => if x49 < x48 then (if 0 ≤ x49 then (if x49 < (x47.length : Int) then (if ((rd_T70 x47 x49).f0) < 1 then (some false) else (if ((rd_T70 x47 x49).f0) > 9007199254740992 then (some false) else ((impl_AddressOk.f k ((rd_T70 x47 x49).f1)).bind fun t566 => (if t566 = true then (if x49 > 0 then (if 0 ≤ (wrap64 (x49 - 1)) then (if (wrap64 (x49 - 1)) < (x562002.length : Int) then (if ((rd_T70 x562002 (wrap64 (x49 - 1))).f0) ≥ ((rd_T70 x47 x49).f0) then (some false) else (if x5 = true then (impl_ProfilesOk.l1 k x0 true x11 x12 x13 x47 x48 (wrap64 (x49 + 1)) x562000 x562001 x562002) else (impl_ProfilesOk.l1 k x0 (((rd_T70 x47 x49).f0) == x562001) x11 x12 x13 x47 x48 (wrap64 (x49 + 1)) x562000 x562001 x562002))) else (none)) else (none)) else (if x5 = true then (impl_ProfilesOk.l1 k x0 true x11 x12 x13 x47 x48 (wrap64 (x49 + 1)) x562000 x562001 x562002) else (impl_ProfilesOk.l1 k x0 (((rd_T70 x47 x49).f0) == x562001) x11 x12 x13 x47 x48 (wrap64 (x49 + 1)) x562000 x562001 x562002))) else (some false))))) else (none)) else (none)) else (if x5 = true then (impl_ProfilesOk.l0 k x0 x11 x12 (wrap64 (x13 + 1))) else (some false))
end
def impl_ProfilesOk.f (k : Nat) (l0 : List (S67)) : Option (Bool) := if (l0.length : Int) > 20 then (some false) else (impl_ProfilesOk.l0 k l0 l0 (l0.length : Int) 0)
theorem impl_ProfilesOk.mono_l : ∀ k, (∀ y0 y1 y2 y3, LeO (impl_ProfilesOk.l0 k y0 y1 y2 y3) (impl_ProfilesOk.l0 (k + 1) y0 y1 y2 y3)) ∧ (∀ y0 y1 y2 y3 y4 y5 y6 y7 y8 y9 y10, LeO (impl_ProfilesOk.l1 k y0 y1 y2 y3 y4 y5 y6 y7 y8 y9 y10) (impl_ProfilesOk.l1 (k + 1) y0 y1 y2 y3 y4 y5 y6 y7 y8 y9 y10))
 | 0 => ⟨fun _ _ _ _ r h => by simp [impl_ProfilesOk.l0] at h, fun _ _ _ _ _ _ _ _ _ _ _ r h => by simp [impl_ProfilesOk.l1] at h⟩
 | k + 1 => by
  obtain ⟨ih0, ih1⟩ := impl_ProfilesOk.mono_l k
  refine ⟨?_, ?_⟩
  ·intro y0 y1 y2 y3
   unfold impl_ProfilesOk.l0
   have m0 := @impl_AddressOk.mono
   have m1 := @impl_NameOk.mono
   exact zM
  ·intro y0 y1 y2 y3 y4 y5 y6 y7 y8 y9 y10
   unfold impl_ProfilesOk.l1
   have m0 := @impl_AddressOk.mono
   have m1 := @impl_NameOk.mono
   exact zM
theorem impl_ProfilesOk.mono : ∀ a0 k, LeO (impl_ProfilesOk.f k a0) (impl_ProfilesOk.f (k + 1) a0) := by
 intro a0 k
 obtain ⟨ih0, ih1⟩ := impl_ProfilesOk.mono_l k
 unfold impl_ProfilesOk.f
 have m0 := @impl_AddressOk.mono
 have m1 := @impl_NameOk.mono
 exact zM
theorem impl_ProfilesOk.calls (k : Nat) (A0 : Option Addr) (c0 : Nat) (l0 : List (S67)) (r : Bool) (w : World) (hr0 : Kd.C k67 w A0 l0.length l0) (hc0 : l0.length ≤ c0) (h : impl_ProfilesOk.f k l0 = some r) :
 Calls Tryz.prog 43 #[.slice A0 l0.length c0] w fun e w' => e = .returned (.bool r) ∧ Below w.heap.size w w' := by
 have hu67 := Tryz.underlying67
 have hu70 := Tryz.underlying70
 have HR0 := zz hr0
 have HC0 := zz hc0
 clear hr0 hc0
 have HB := zz (Below.refl w.heap.size w)
 unfold impl_ProfilesOk.f at h
 have H := h
 clear h
 replace HB := HB.out
 have HW := zz (Below.refl w.heap.size w)
 go_enter Tryz.func43, Tryz.ntmps43
 by_cases c2 : (l0.length : Int) > 20
 ·rw [if_pos c2] at H
  have c2b0 := zgt c2
  have c2b1 : decide (20 < l0.length) = true := z1 (by omega)
  clear c2
  obtain rfl := zi H
  go_wp2_with (fail)
  go_ret
  exact ⟨ze, zv HW.out HB⟩
 rw [if_neg c2] at H
 have c2b0 := zgtn c2
 have c2b1 : decide (20 < l0.length) = false := z0 (by omega)
 clear c2
 go_wp2_with (fail)
 go_loopg [13] k (fun kq v13 w' => ∃ (x13_kl3 : Int), v13 = .int .i64 x13_kl3 ∧ Aside0 (impl_ProfilesOk.l0 kq l0 l0 (l0.length : Int) x13_kl3 = some r) ∧ Aside0 (kq ≤ k) ∧ Aside0 (Below w.heap.size w w'))
 case atStart => exact ⟨(0), zr, ⟨H⟩, ⟨Nat.le_refl _⟩, ⟨HB⟩⟩
 case round =>
  clear H HB
  obtain ⟨x13_kl3, rfl, H, HKkl3, HB⟩ := hrel
  replace HB := HB.out
  replace H := H.out
  have HLkl3 := zz (Below.refl w.heap.size w)
  cases gk with
  | zero => exact absurd H (by simp [impl_ProfilesOk.l0])
  | succ kl3 =>
   simp only [impl_ProfilesOk.l0] at H
   by_cases c4 : x13_kl3 < (l0.length : Int)
   case neg =>
    rw [if_neg c4] at H
    have c4b0 := z0 c4
    clear c4
    obtain rfl := zi H
    go_wp2_with (fail)
    go_ret
    exact ⟨ze, zv HW.out HB⟩
   rw [if_pos c4] at H
   have c4b0 := z1 c4
   clear c4
   by_cases c5 : 0 ≤ x13_kl3
   case neg => exact zno H c5
   rw [if_pos c5] at H
   have c5b0 := z1 c5
   clear c5
   by_cases c6 : x13_kl3 < (l0.length : Int)
   case neg => exact zno H c6
   rw [if_pos c6] at H
   have c6b0 := z1 c6
   clear c6
   have p560 : 0 ≤ (x13_kl3 : Int) := z2
   have q560 : (x13_kl3 : Int) < (l0.length : Int) := z2
   obtain ⟨ad560, A560_2, c560_2, e560, hx560_0, hx560_1, hx560_2, hl560_2, hC560_2⟩ := at_T67 HR0.out x13_kl3 p560 q560
   cases e560
   replace hx560_0 := cellB hx560_0
   replace hx560_1 := cellB hx560_1
   replace hx560_2 := cellB hx560_2
   have HR560_2 := zz hC560_2
   have HC560_2 := zz hl560_2
   clear hC560_2 hl560_2
   replace p560 := eq_true p560
   replace q560 := eq_true q560
   go_wp2_with (first | (refine zN 4 ?_; (try (refine z4 ?_; dsimp only)); refine zX 4 67 #[.string (⟨#[]⟩ : ByteArray), .int .i64 0, .slice none 0 0] ?_; intro gb561 hg w7 hbox hb; have hge : w.heap.size ≤ gb561 := (by rw [hg]; exact below_size HB); clear hg; have hst : Below w.heap.size w (((w7.setCell ⟨gb561, 0, none⟩ (.string ((rd_T67 l0 x13_kl3).f0))).setCell ⟨gb561, 1, none⟩ (.int .i64 ((rd_T67 l0 x13_kl3).f1))).setCell ⟨gb561, 2, none⟩ (.slice A560_2 ((rd_T67 l0 x13_kl3).f2).length c560_2)) := (below_set (below_set (below_set (zv HB hb) hge) hge) hge); have hbx : (((w7.setCell ⟨gb561, 0, none⟩ (.string ((rd_T67 l0 x13_kl3).f0))).setCell ⟨gb561, 1, none⟩ (.int .i64 ((rd_T67 l0 x13_kl3).f1))).setCell ⟨gb561, 2, none⟩ (.slice A560_2 ((rd_T67 l0 x13_kl3).f2).length c560_2)).heap[gb561]? = some (.cells #[.string ((rd_T67 l0 x13_kl3).f0), .int .i64 ((rd_T67 l0 x13_kl3).f1), .slice A560_2 ((rd_T67 l0 x13_kl3).f2).length c560_2] 67 (0, 0)) := (blk_put (cs := #[.string ((rd_T67 l0 x13_kl3).f0), .int .i64 ((rd_T67 l0 x13_kl3).f1), .slice none 0 0]) (blk_put (cs := #[.string ((rd_T67 l0 x13_kl3).f0), .int .i64 0, .slice none 0 0]) (blk_put (cs := #[.string (⟨#[]⟩ : ByteArray), .int .i64 0, .slice none 0 0]) hbox 0 _ rfl) 1 _ rfl) 2 _ rfl); obtain ⟨hs561_0, hs561_1, hs561_2, hf561_0, hf561_1, hf561_2⟩ := zc3 hbox) | ((with_reducible refine gate_store (t := 67) (p := 4) rfl ?_); (try (refine z4 ?_; dsimp only)); refine store_event (t := 67) (p := 4) (v := ?vo_w8) (w1 := (((w7.setCell ⟨gb561, 0, none⟩ (.string ((rd_T67 l0 x13_kl3).f0))).setCell ⟨gb561, 1, none⟩ (.int .i64 ((rd_T67 l0 x13_kl3).f1))).setCell ⟨gb561, 2, none⟩ (.slice A560_2 ((rd_T67 l0 x13_kl3).f2).length c560_2))) ?hg ?ho ?hn ?hr ?_; (case ho => rfl); (case hg => rfl); (case hn => rfl); (case hr => first | (go_simp; done) | (go_simp; rfl)); intro w8 hw; replace hst := hst; rw [← hw] at hst hbx; clear hw hb hbox hge HB hs561_0 hf561_0 hs561_1 hf561_1 hs561_2 hf561_2; replace HW := zz (zv HW.out hst); replace HLkl3 := zz (zv HLkl3.out hst); replace HR0 := zz (Kd.C_below HR0.out hst); replace HR560_2 := zz (Kd.C_below HR560_2.out hst); replace hx560_0 := rebase hx560_0 hst; replace hx560_1 := rebase hx560_1 hst; replace hx560_2 := rebase hx560_2 hst; obtain ⟨hbx561_0, hbx561_1, hbx561_2⟩ := zx3 hbx; have HB := Below.refl w8.heap.size w8; clear hbx hst))
   try simp only [Act.put, List.setIfInBounds_toArray, List.set_cons_zero, List.set_cons_succ]
   refine wp_region_inv_lit (C := fun W_ => Below w8.heap.size w8 W_) zk zk (below_drew1 HB) ?_
   replace H := zf H
   obtain ⟨t562, A9, H⟩ := H
   try dsimp only at H
   replace A9 := zz A9
   by_cases c10 : t562 = true
   case neg =>
    replace c10 := Bool.eq_false_iff.mpr c10
    subst c10
    rw [if_neg (by decide)] at H
    obtain rfl := zi H
    repeat (first | go_big_quiet_skip | (go_big_quiet_want; go_big_quiet_op; first | go_big_quiet_on | (with_reducible apply Exists.intro; refine ⟨fun W hW => ?_, ?_⟩; (first | with_reducible rfl | (go_at_call 45; exact callD (impl_NameOk.calls kl3 _ _ _  A9.out) hW) | (go_simp; with_reducible rfl)); go_big_quiet_on)))
    clear HB
    refine zW fun w75 (HB : Below w8.heap.size w8 w75) => ?_
    go_wp2_with (fail)
    go_ret
    exact ⟨ze, zv HW.out HB⟩
   subst c10
   rw [if_pos rfl] at H
   by_cases c11 : x13_kl3 > 0
   case neg =>
    rw [if_neg c11] at H
    have c11b0 := zgtn c11
    clear c11
    by_cases c46 : (((rd_T67 l0 x13_kl3).f2).length : Int) > 50
    ·rw [if_pos c46] at H
     have c46b0 := zgt c46
     have c46b1 : decide (50 < ((rd_T67 l0 x13_kl3).f2).length) = true := z1 (by omega)
     clear c46
     obtain rfl := zi H
     repeat (first | go_big_quiet_skip | (go_big_quiet_want; go_big_quiet_op; first | go_big_quiet_on | (with_reducible apply Exists.intro; refine ⟨fun W hW => ?_, ?_⟩; (first | with_reducible rfl | (go_at_call 45; exact callD (impl_NameOk.calls kl3 _ _ _  A9.out) hW) | (go_simp; with_reducible rfl)); go_big_quiet_on)))
     clear HB
     refine zW fun w47 (HB : Below w8.heap.size w8 w47) => ?_
     go_wp2_with (fail)
     go_ret
     exact ⟨ze, zv HW.out HB⟩
    rw [if_neg c46] at H
    have c46b0 := zgtn c46
    have c46b1 : decide (50 < ((rd_T67 l0 x13_kl3).f2).length) = false := z0 (by omega)
    clear c46
    repeat (first | go_big_quiet_skip | (go_big_quiet_want; go_big_quiet_op; first | go_big_quiet_on | (with_reducible apply Exists.intro; refine ⟨fun W hW => ?_, ?_⟩; (first | with_reducible rfl | (go_at_call 45; exact callD (impl_NameOk.calls kl3 _ _ _  A9.out) hW) | (go_simp; with_reducible rfl)); go_big_quiet_on)))
    clear HB
    refine zW fun w49 (HB : Below w8.heap.size w8 w49) => ?_
    go_wp2_with (fail)
    go_loopg [5, 49] kl3 (fun kq v5 v49 w' => ∃ (x5_kl48 : Bool) (x49_kl48 : Int), v5 = .bool x5_kl48 ∧ v49 = .int .i64 x49_kl48 ∧ Aside0 (impl_ProfilesOk.l1 kq l0 x5_kl48 l0 (l0.length : Int) x13_kl3 ((rd_T67 l0 x13_kl3).f2) (((rd_T67 l0 x13_kl3).f2).length : Int) x49_kl48 ((rd_T67 l0 x13_kl3).f0) ((rd_T67 l0 x13_kl3).f1) ((rd_T67 l0 x13_kl3).f2) = some r) ∧ Aside0 (kq ≤ kl3) ∧ Aside0 (Below w8.heap.size w8 w'))
    case atStart => exact ⟨((((rd_T67 l0 x13_kl3).f1) == 0)), (0), zr, zr, ⟨H⟩, ⟨Nat.le_refl _⟩, ⟨HB⟩⟩
    case round =>
     clear H HB
     obtain ⟨x5_kl48, x49_kl48, rfl, rfl, H, HKkl48, HB⟩ := hrel
     replace HB := HB.out
     replace H := H.out
     have HLkl48 := zz (Below.refl w8.heap.size w8)
     cases gk with
     | zero => exact absurd H (by simp [impl_ProfilesOk.l1])
     | succ kl48 =>
      simp only [impl_ProfilesOk.l1] at H
      by_cases c50 : x49_kl48 < (((rd_T67 l0 x13_kl3).f2).length : Int)
      ·rw [if_pos c50] at H
       have c50b0 := z1 c50
       clear c50
       by_cases c51 : 0 ≤ x49_kl48
       case neg => exact zno H c51
       rw [if_pos c51] at H
       have c51b0 := z1 c51
       clear c51
       by_cases c52 : x49_kl48 < (((rd_T67 l0 x13_kl3).f2).length : Int)
       case neg => exact zno H c52
       rw [if_pos c52] at H
       have c52b0 := z1 c52
       clear c52
       have p564 : 0 ≤ (x49_kl48 : Int) := z2
       have q564 : (x49_kl48 : Int) < (((rd_T67 l0 x13_kl3).f2).length : Int) := z2
       obtain ⟨ad564, e564, hx564_0, hx564_1⟩ := at_T70 HR560_2.out x49_kl48 p564 q564
       cases e564
       replace hx564_0 := cellB hx564_0
       replace hx564_1 := cellB hx564_1
       replace p564 := eq_true p564
       replace q564 := eq_true q564
       go_wp2_with (first | (refine zN 7 ?_; (try (refine z4 ?_; dsimp only)); refine zX 7 70 #[.int .i64 0, .string (⟨#[]⟩ : ByteArray)] ?_; intro gb565 hg w53 hbox hb; have hge : w8.heap.size ≤ gb565 := (by rw [hg]; exact below_size HB); clear hg; have hst : Below w8.heap.size w8 ((w53.setCell ⟨gb565, 0, none⟩ (.int .i64 ((rd_T70 ((rd_T67 l0 x13_kl3).f2) x49_kl48).f0))).setCell ⟨gb565, 1, none⟩ (.string ((rd_T70 ((rd_T67 l0 x13_kl3).f2) x49_kl48).f1))) := (below_set (below_set (zv HB hb) hge) hge); have hbx : ((w53.setCell ⟨gb565, 0, none⟩ (.int .i64 ((rd_T70 ((rd_T67 l0 x13_kl3).f2) x49_kl48).f0))).setCell ⟨gb565, 1, none⟩ (.string ((rd_T70 ((rd_T67 l0 x13_kl3).f2) x49_kl48).f1))).heap[gb565]? = some (.cells #[.int .i64 ((rd_T70 ((rd_T67 l0 x13_kl3).f2) x49_kl48).f0), .string ((rd_T70 ((rd_T67 l0 x13_kl3).f2) x49_kl48).f1)] 70 (0, 0)) := (blk_put (cs := #[.int .i64 ((rd_T70 ((rd_T67 l0 x13_kl3).f2) x49_kl48).f0), .string (⟨#[]⟩ : ByteArray)]) (blk_put (cs := #[.int .i64 0, .string (⟨#[]⟩ : ByteArray)]) hbox 0 _ rfl) 1 _ rfl); obtain ⟨hs565_0, hs565_1, hf565_0, hf565_1⟩ := zc2 hbox) | ((with_reducible refine gate_store (t := 70) (p := 7) rfl ?_); (try (refine z4 ?_; dsimp only)); refine store_event (t := 70) (p := 7) (v := ?vo_w54) (w1 := ((w53.setCell ⟨gb565, 0, none⟩ (.int .i64 ((rd_T70 ((rd_T67 l0 x13_kl3).f2) x49_kl48).f0))).setCell ⟨gb565, 1, none⟩ (.string ((rd_T70 ((rd_T67 l0 x13_kl3).f2) x49_kl48).f1)))) ?hg ?ho ?hn ?hr ?_; (case ho => rfl); (case hg => rfl); (case hn => rfl); (case hr => first | (go_simp; done) | (go_simp; rfl)); intro w54 hw; replace hst := hst; rw [← hw] at hst hbx; clear hw hb hbox hge HB hs565_0 hf565_0 hs565_1 hf565_1; replace HW := zz (zv HW.out hst); replace HLkl3 := zz (zv HLkl3.out hst); replace HLkl48 := zz (zv HLkl48.out hst); replace HR0 := zz (Kd.C_below HR0.out hst); replace HR560_2 := zz (Kd.C_below HR560_2.out hst); replace hx560_0 := rebase hx560_0 hst; replace hx560_1 := rebase hx560_1 hst; replace hx560_2 := rebase hx560_2 hst; replace hbx561_0 := rebase hbx561_0 hst; replace hbx561_1 := rebase hbx561_1 hst; replace hbx561_2 := rebase hbx561_2 hst; replace hx564_0 := rebase hx564_0 hst; replace hx564_1 := rebase hx564_1 hst; obtain ⟨hbx565_0, hbx565_1⟩ := zx2 hbx; have HB := Below.refl w54.heap.size w54; clear hbx hst))
       try simp only [Act.put, List.setIfInBounds_toArray, List.set_cons_zero, List.set_cons_succ]
       refine wp_region_inv_lit (C := fun W_ => Below w54.heap.size w54 W_) zk zk (below_drew1 HB) ?_
       by_cases c55 : ((rd_T70 ((rd_T67 l0 x13_kl3).f2) x49_kl48).f0) < 1
       ·rw [if_pos c55] at H
        have c55b0 := z1 c55
        clear c55
        obtain rfl := zi H
        repeat (first | go_big_quiet_skip | (go_big_quiet_want; go_big_quiet_op; first | go_big_quiet_on | (refine zE ?_; go_big_quiet_on)))
        clear HB
        refine zW fun w56 (HB : Below w54.heap.size w54 w56) => ?_
        go_wp2_with (fail)
        go_ret
        exact ⟨ze, zv HW.out HB⟩
       rw [if_neg c55] at H
       have c55b0 := z0 c55
       clear c55
       by_cases c57 : ((rd_T70 ((rd_T67 l0 x13_kl3).f2) x49_kl48).f0) > 9007199254740992
       ·rw [if_pos c57] at H
        have c57b0 := zgt c57
        clear c57
        obtain rfl := zi H
        repeat (first | go_big_quiet_skip | (go_big_quiet_want; go_big_quiet_op; first | go_big_quiet_on | (refine zE ?_; go_big_quiet_on)))
        clear HB
        refine zW fun w58 (HB : Below w54.heap.size w54 w58) => ?_
        go_wp2_with (fail)
        go_ret
        exact ⟨ze, zv HW.out HB⟩
       rw [if_neg c57] at H
       have c57b0 := zgtn c57
       clear c57
       replace H := zf H
       obtain ⟨t566, A59, H⟩ := H
       try dsimp only at H
       replace A59 := zz A59
       by_cases c60 : t566 = true
       case neg =>
        replace c60 := Bool.eq_false_iff.mpr c60
        subst c60
        rw [if_neg (by decide)] at H
        obtain rfl := zi H
        repeat (first | go_big_quiet_skip | (go_big_quiet_want; go_big_quiet_op; first | go_big_quiet_on | (with_reducible apply Exists.intro; refine ⟨fun W hW => ?_, ?_⟩; (first | with_reducible rfl | (go_at_call 46; exact callD (impl_AddressOk.calls kl48 _ _ _  A59.out) hW) | (go_simp; with_reducible rfl)); go_big_quiet_on)))
        clear HB
        refine zW fun w73 (HB : Below w54.heap.size w54 w73) => ?_
        go_wp2_with (fail)
        go_ret
        exact ⟨ze, zv HW.out HB⟩
       subst c60
       rw [if_pos rfl] at H
       by_cases c61 : x49_kl48 > 0
       case neg =>
        rw [if_neg c61] at H
        have c61b0 := zgtn c61
        clear c61
        by_cases c70 : x5_kl48 = true
        ·subst c70
         rw [if_pos rfl] at H
         repeat (first | go_big_quiet_skip | (go_big_quiet_want; go_big_quiet_op; first | go_big_quiet_on | (with_reducible apply Exists.intro; refine ⟨fun W hW => ?_, ?_⟩; (first | with_reducible rfl | (go_at_call 46; exact callD (impl_AddressOk.calls kl48 _ _ _  A59.out) hW) | (go_simp; with_reducible rfl)); go_big_quiet_on)))
         clear HB
         refine zW fun w71 (HB : Below w54.heap.size w54 w71) => ?_
         go_wp2_with (fail)
         go_roundg kl48
         case measure => have := HKkl3.out; have := HKkl48.out; omega
         case rel => exact ⟨(true), (wrap64 (x49_kl48 + 1)), zr, zr, ⟨H⟩, ⟨by have := HKkl3.out; have := HKkl48.out; omega⟩, ⟨zv HLkl48.out HB⟩⟩
        replace c70 := Bool.eq_false_iff.mpr c70
        subst c70
        rw [if_neg (by decide)] at H
        repeat (first | go_big_quiet_skip | (go_big_quiet_want; go_big_quiet_op; first | go_big_quiet_on | (with_reducible apply Exists.intro; refine ⟨fun W hW => ?_, ?_⟩; (first | with_reducible rfl | (go_at_call 46; exact callD (impl_AddressOk.calls kl48 _ _ _  A59.out) hW) | (go_simp; with_reducible rfl)); go_big_quiet_on)))
        clear HB
        refine zW fun w72 (HB : Below w54.heap.size w54 w72) => ?_
        go_wp2_with (fail)
        go_roundg kl48
        case measure => have := HKkl3.out; have := HKkl48.out; omega
        case rel => exact ⟨((((rd_T70 ((rd_T67 l0 x13_kl3).f2) x49_kl48).f0) == ((rd_T67 l0 x13_kl3).f1))), (wrap64 (x49_kl48 + 1)), zr, zr, ⟨H⟩, ⟨by have := HKkl3.out; have := HKkl48.out; omega⟩, ⟨zv HLkl48.out HB⟩⟩
       rw [if_pos c61] at H
       have c61b0 := zgt c61
       clear c61
       obtain ⟨ji62, hji62⟩ : ∃ j_ : Int, (wrap64 (x49_kl48 - 1)) = j_ := ⟨_, rfl⟩
       (first | rw [hji62] at H | simp only [hji62] at H)
       have hji62w : (IntKind.i64.wrap (x49_kl48 - 1)) = ji62 := (i64_w _).trans hji62
       (try rw [hji62] at A9)
       (try rw [hji62] at A59)
       by_cases c63 : 0 ≤ (ji62)
       case neg => exact zno H c63
       rw [if_pos c63] at H
       have c63b0 := z1 c63
       clear c63
       by_cases c64 : (ji62) < (((rd_T67 l0 x13_kl3).f2).length : Int)
       case neg => exact zno H c64
       rw [if_pos c64] at H
       have c64b0 := z1 c64
       clear c64
       have p567 : 0 ≤ ((ji62) : Int) := z2
       have q567 : ((ji62) : Int) < (((rd_T67 l0 x13_kl3).f2).length : Int) := z2
       obtain ⟨ad567, e567, hx567_0, hx567_1⟩ := at_T70 HR560_2.out (ji62) p567 q567
       obtain rfl : ad564 = ad567 := (by injection e567)
       replace hx567_0 := cellB hx567_0
       replace hx567_1 := cellB hx567_1
       replace p567 := eq_true p567
       replace q567 := eq_true q567
       by_cases c65 : ((rd_T70 ((rd_T67 l0 x13_kl3).f2) (ji62)).f0) ≥ ((rd_T70 ((rd_T67 l0 x13_kl3).f2) x49_kl48).f0)
       ·rw [if_pos c65] at H
        have c65b0 := zge c65
        clear c65
        obtain rfl := zi H
        repeat (first | go_big_quiet_skip | (go_big_quiet_want; go_big_quiet_op; first | go_big_quiet_on | (with_reducible apply Exists.intro; refine ⟨fun W hW => ?_, ?_⟩; (first | with_reducible rfl | (go_at_call 46; exact callD (impl_AddressOk.calls kl48 _ _ _  A59.out) hW) | (go_simp; with_reducible rfl)); go_big_quiet_on)))
        clear HB
        refine zW fun w66 (HB : Below w54.heap.size w54 w66) => ?_
        go_wp2_with (fail)
        go_ret
        exact ⟨ze, zv HW.out HB⟩
       rw [if_neg c65] at H
       have c65b0 := zgen c65
       clear c65
       by_cases c67 : x5_kl48 = true
       ·subst c67
        rw [if_pos rfl] at H
        repeat (first | go_big_quiet_skip | (go_big_quiet_want; go_big_quiet_op; first | go_big_quiet_on | (with_reducible apply Exists.intro; refine ⟨fun W hW => ?_, ?_⟩; (first | with_reducible rfl | (go_at_call 46; exact callD (impl_AddressOk.calls kl48 _ _ _  A59.out) hW) | (go_simp; with_reducible rfl)); go_big_quiet_on)))
        clear HB
        refine zW fun w68 (HB : Below w54.heap.size w54 w68) => ?_
        go_wp2_with (fail)
        go_roundg kl48
        case measure => have := HKkl3.out; have := HKkl48.out; omega
        case rel => exact ⟨(true), (wrap64 (x49_kl48 + 1)), zr, zr, ⟨H⟩, ⟨by have := HKkl3.out; have := HKkl48.out; omega⟩, ⟨zv HLkl48.out HB⟩⟩
       replace c67 := Bool.eq_false_iff.mpr c67
       subst c67
       rw [if_neg (by decide)] at H
       repeat (first | go_big_quiet_skip | (go_big_quiet_want; go_big_quiet_op; first | go_big_quiet_on | (with_reducible apply Exists.intro; refine ⟨fun W hW => ?_, ?_⟩; (first | with_reducible rfl | (go_at_call 46; exact callD (impl_AddressOk.calls kl48 _ _ _  A59.out) hW) | (go_simp; with_reducible rfl)); go_big_quiet_on)))
       clear HB
       refine zW fun w69 (HB : Below w54.heap.size w54 w69) => ?_
       go_wp2_with (fail)
       go_roundg kl48
       case measure => have := HKkl3.out; have := HKkl48.out; omega
       case rel => exact ⟨((((rd_T70 ((rd_T67 l0 x13_kl3).f2) x49_kl48).f0) == ((rd_T67 l0 x13_kl3).f1))), (wrap64 (x49_kl48 + 1)), zr, zr, ⟨H⟩, ⟨by have := HKkl3.out; have := HKkl48.out; omega⟩, ⟨zv HLkl48.out HB⟩⟩
      rw [if_neg c50] at H
      have c50b0 := z0 c50
      clear c50
      by_cases c74 : x5_kl48 = true
      ·subst c74
       rw [if_pos rfl] at H
       go_wp2_with (fail)
       go_roundg kl48
       case measure => have := HKkl3.out; have := HKkl48.out; omega
       case rel => exact ⟨(wrap64 (x13_kl3 + 1)), zr, ⟨H⟩, ⟨by have := HKkl3.out; have := HKkl48.out; omega⟩, ⟨zv HLkl3.out HB⟩⟩
      replace c74 := Bool.eq_false_iff.mpr c74
      subst c74
      rw [if_neg (by decide)] at H
      obtain rfl := zi H
      go_wp2_with (fail)
      go_ret
      exact ⟨ze, zv HW.out HB⟩
   rw [if_pos c11] at H
   have c11b0 := zgt c11
   clear c11
   obtain ⟨ji12, hji12⟩ : ∃ j_ : Int, (wrap64 (x13_kl3 - 1)) = j_ := ⟨_, rfl⟩
   (first | rw [hji12] at H | simp only [hji12] at H)
   have hji12w : (IntKind.i64.wrap (x13_kl3 - 1)) = ji12 := (i64_w _).trans hji12
   (try rw [hji12] at A9)
   by_cases c13 : 0 ≤ (ji12)
   case neg => exact zno H c13
   rw [if_pos c13] at H
   have c13b0 := z1 c13
   clear c13
   by_cases c14 : (ji12) < (l0.length : Int)
   case neg => exact zno H c14
   rw [if_pos c14] at H
   have c14b0 := z1 c14
   clear c14
   have p563 : 0 ≤ ((ji12) : Int) := z2
   have q563 : ((ji12) : Int) < (l0.length : Int) := z2
   obtain ⟨ad563, A563_2, c563_2, e563, hx563_0, hx563_1, hx563_2, hl563_2, hC563_2⟩ := at_T67 HR0.out (ji12) p563 q563
   obtain rfl : ad560 = ad563 := (by injection e563)
   replace hx563_0 := cellB hx563_0
   replace hx563_1 := cellB hx563_1
   replace hx563_2 := cellB hx563_2
   have HR563_2 := zz hC563_2
   have HC563_2 := zz hl563_2
   clear hC563_2 hl563_2
   replace p563 := eq_true p563
   replace q563 := eq_true q563
   by_cases c15 : ((Op.bytesLess (((rd_T67 l0 (ji12)).f0).toList) (((rd_T67 l0 x13_kl3).f0).toList)) = true)
   case neg =>
    rw [if_neg c15] at H
    have c15b0 : (Op.bytesLess (((rd_T67 l0 (ji12)).f0).toList) (((rd_T67 l0 x13_kl3).f0).toList)) = false := by simpa using c15
    clear c15
    obtain rfl := zi H
    repeat (first | go_big_quiet_skip | (go_big_quiet_want; go_big_quiet_op; first | go_big_quiet_on | (with_reducible apply Exists.intro; refine ⟨fun W hW => ?_, ?_⟩; (first | with_reducible rfl | (go_at_call 45; exact callD (impl_NameOk.calls kl3 _ _ _  A9.out) hW) | (go_simp; with_reducible rfl)); go_big_quiet_on)))
    clear HB
    refine zW fun w45 (HB : Below w8.heap.size w8 w45) => ?_
    go_wp2_with (fail)
    go_ret
    exact ⟨ze, zv HW.out HB⟩
   rw [if_pos c15] at H
   have c15b0 : (Op.bytesLess (((rd_T67 l0 (ji12)).f0).toList) (((rd_T67 l0 x13_kl3).f0).toList)) = true := c15
   clear c15
   by_cases c16 : (((rd_T67 l0 x13_kl3).f2).length : Int) > 50
   ·rw [if_pos c16] at H
    have c16b0 := zgt c16
    have c16b1 : decide (50 < ((rd_T67 l0 x13_kl3).f2).length) = true := z1 (by omega)
    clear c16
    obtain rfl := zi H
    repeat (first | go_big_quiet_skip | (go_big_quiet_want; go_big_quiet_op; first | go_big_quiet_on | (with_reducible apply Exists.intro; refine ⟨fun W hW => ?_, ?_⟩; (first | with_reducible rfl | (go_at_call 45; exact callD (impl_NameOk.calls kl3 _ _ _  A9.out) hW) | (go_simp; with_reducible rfl)); go_big_quiet_on)))
    clear HB
    refine zW fun w17 (HB : Below w8.heap.size w8 w17) => ?_
    go_wp2_with (fail)
    go_ret
    exact ⟨ze, zv HW.out HB⟩
   rw [if_neg c16] at H
   have c16b0 := zgtn c16
   have c16b1 : decide (50 < ((rd_T67 l0 x13_kl3).f2).length) = false := z0 (by omega)
   clear c16
   repeat (first | go_big_quiet_skip | (go_big_quiet_want; go_big_quiet_op; first | go_big_quiet_on | (with_reducible apply Exists.intro; refine ⟨fun W hW => ?_, ?_⟩; (first | with_reducible rfl | (go_at_call 45; exact callD (impl_NameOk.calls kl3 _ _ _  A9.out) hW) | (go_simp; with_reducible rfl)); go_big_quiet_on)))
   clear HB
   refine zW fun w19 (HB : Below w8.heap.size w8 w19) => ?_
   go_wp2_with (fail)
   go_loopg [5, 49] kl3 (fun kq v5 v49 w' => ∃ (x5_kl18 : Bool) (x49_kl18 : Int), v5 = .bool x5_kl18 ∧ v49 = .int .i64 x49_kl18 ∧ Aside0 (impl_ProfilesOk.l1 kq l0 x5_kl18 l0 (l0.length : Int) x13_kl3 ((rd_T67 l0 x13_kl3).f2) (((rd_T67 l0 x13_kl3).f2).length : Int) x49_kl18 ((rd_T67 l0 x13_kl3).f0) ((rd_T67 l0 x13_kl3).f1) ((rd_T67 l0 x13_kl3).f2) = some r) ∧ Aside0 (kq ≤ kl3) ∧ Aside0 (Below w8.heap.size w8 w'))
   case atStart => exact ⟨((((rd_T67 l0 x13_kl3).f1) == 0)), (0), zr, zr, ⟨H⟩, ⟨Nat.le_refl _⟩, ⟨HB⟩⟩
   case round =>
    clear H HB
    obtain ⟨x5_kl18, x49_kl18, rfl, rfl, H, HKkl18, HB⟩ := hrel
    replace HB := HB.out
    replace H := H.out
    have HLkl18 := zz (Below.refl w8.heap.size w8)
    cases gk with
    | zero => exact absurd H (by simp [impl_ProfilesOk.l1])
    | succ kl18 =>
     simp only [impl_ProfilesOk.l1] at H
     by_cases c20 : x49_kl18 < (((rd_T67 l0 x13_kl3).f2).length : Int)
     ·rw [if_pos c20] at H
      have c20b0 := z1 c20
      clear c20
      by_cases c21 : 0 ≤ x49_kl18
      case neg => exact zno H c21
      rw [if_pos c21] at H
      have c21b0 := z1 c21
      clear c21
      by_cases c22 : x49_kl18 < (((rd_T67 l0 x13_kl3).f2).length : Int)
      case neg => exact zno H c22
      rw [if_pos c22] at H
      have c22b0 := z1 c22
      clear c22
      have p564 : 0 ≤ (x49_kl18 : Int) := z2
      have q564 : (x49_kl18 : Int) < (((rd_T67 l0 x13_kl3).f2).length : Int) := z2
      obtain ⟨ad564, e564, hx564_0, hx564_1⟩ := at_T70 HR560_2.out x49_kl18 p564 q564
      cases e564
      replace hx564_0 := cellB hx564_0
      replace hx564_1 := cellB hx564_1
      replace p564 := eq_true p564
      replace q564 := eq_true q564
      go_wp2_with (first | (refine zN 7 ?_; (try (refine z4 ?_; dsimp only)); refine zX 7 70 #[.int .i64 0, .string (⟨#[]⟩ : ByteArray)] ?_; intro gb565 hg w23 hbox hb; have hge : w8.heap.size ≤ gb565 := (by rw [hg]; exact below_size HB); clear hg; have hst : Below w8.heap.size w8 ((w23.setCell ⟨gb565, 0, none⟩ (.int .i64 ((rd_T70 ((rd_T67 l0 x13_kl3).f2) x49_kl18).f0))).setCell ⟨gb565, 1, none⟩ (.string ((rd_T70 ((rd_T67 l0 x13_kl3).f2) x49_kl18).f1))) := (below_set (below_set (zv HB hb) hge) hge); have hbx : ((w23.setCell ⟨gb565, 0, none⟩ (.int .i64 ((rd_T70 ((rd_T67 l0 x13_kl3).f2) x49_kl18).f0))).setCell ⟨gb565, 1, none⟩ (.string ((rd_T70 ((rd_T67 l0 x13_kl3).f2) x49_kl18).f1))).heap[gb565]? = some (.cells #[.int .i64 ((rd_T70 ((rd_T67 l0 x13_kl3).f2) x49_kl18).f0), .string ((rd_T70 ((rd_T67 l0 x13_kl3).f2) x49_kl18).f1)] 70 (0, 0)) := (blk_put (cs := #[.int .i64 ((rd_T70 ((rd_T67 l0 x13_kl3).f2) x49_kl18).f0), .string (⟨#[]⟩ : ByteArray)]) (blk_put (cs := #[.int .i64 0, .string (⟨#[]⟩ : ByteArray)]) hbox 0 _ rfl) 1 _ rfl); obtain ⟨hs565_0, hs565_1, hf565_0, hf565_1⟩ := zc2 hbox) | ((with_reducible refine gate_store (t := 70) (p := 7) rfl ?_); (try (refine z4 ?_; dsimp only)); refine store_event (t := 70) (p := 7) (v := ?vo_w24) (w1 := ((w23.setCell ⟨gb565, 0, none⟩ (.int .i64 ((rd_T70 ((rd_T67 l0 x13_kl3).f2) x49_kl18).f0))).setCell ⟨gb565, 1, none⟩ (.string ((rd_T70 ((rd_T67 l0 x13_kl3).f2) x49_kl18).f1)))) ?hg ?ho ?hn ?hr ?_; (case ho => rfl); (case hg => rfl); (case hn => rfl); (case hr => first | (go_simp; done) | (go_simp; rfl)); intro w24 hw; replace hst := hst; rw [← hw] at hst hbx; clear hw hb hbox hge HB hs565_0 hf565_0 hs565_1 hf565_1; replace HW := zz (zv HW.out hst); replace HLkl3 := zz (zv HLkl3.out hst); replace HLkl18 := zz (zv HLkl18.out hst); replace HR0 := zz (Kd.C_below HR0.out hst); replace HR560_2 := zz (Kd.C_below HR560_2.out hst); replace HR563_2 := zz (Kd.C_below HR563_2.out hst); replace hx560_0 := rebase hx560_0 hst; replace hx560_1 := rebase hx560_1 hst; replace hx560_2 := rebase hx560_2 hst; replace hbx561_0 := rebase hbx561_0 hst; replace hbx561_1 := rebase hbx561_1 hst; replace hbx561_2 := rebase hbx561_2 hst; replace hx563_0 := rebase hx563_0 hst; replace hx563_1 := rebase hx563_1 hst; replace hx563_2 := rebase hx563_2 hst; replace hx564_0 := rebase hx564_0 hst; replace hx564_1 := rebase hx564_1 hst; obtain ⟨hbx565_0, hbx565_1⟩ := zx2 hbx; have HB := Below.refl w24.heap.size w24; clear hbx hst))
      try simp only [Act.put, List.setIfInBounds_toArray, List.set_cons_zero, List.set_cons_succ]
      refine wp_region_inv_lit (C := fun W_ => Below w24.heap.size w24 W_) zk zk (below_drew1 HB) ?_
      by_cases c25 : ((rd_T70 ((rd_T67 l0 x13_kl3).f2) x49_kl18).f0) < 1
      ·rw [if_pos c25] at H
       have c25b0 := z1 c25
       clear c25
       obtain rfl := zi H
       repeat (first | go_big_quiet_skip | (go_big_quiet_want; go_big_quiet_op; first | go_big_quiet_on | (refine zE ?_; go_big_quiet_on)))
       clear HB
       refine zW fun w26 (HB : Below w24.heap.size w24 w26) => ?_
       go_wp2_with (fail)
       go_ret
       exact ⟨ze, zv HW.out HB⟩
      rw [if_neg c25] at H
      have c25b0 := z0 c25
      clear c25
      by_cases c27 : ((rd_T70 ((rd_T67 l0 x13_kl3).f2) x49_kl18).f0) > 9007199254740992
      ·rw [if_pos c27] at H
       have c27b0 := zgt c27
       clear c27
       obtain rfl := zi H
       repeat (first | go_big_quiet_skip | (go_big_quiet_want; go_big_quiet_op; first | go_big_quiet_on | (refine zE ?_; go_big_quiet_on)))
       clear HB
       refine zW fun w28 (HB : Below w24.heap.size w24 w28) => ?_
       go_wp2_with (fail)
       go_ret
       exact ⟨ze, zv HW.out HB⟩
      rw [if_neg c27] at H
      have c27b0 := zgtn c27
      clear c27
      replace H := zf H
      obtain ⟨t566, A29, H⟩ := H
      try dsimp only at H
      replace A29 := zz A29
      by_cases c30 : t566 = true
      case neg =>
       replace c30 := Bool.eq_false_iff.mpr c30
       subst c30
       rw [if_neg (by decide)] at H
       obtain rfl := zi H
       repeat (first | go_big_quiet_skip | (go_big_quiet_want; go_big_quiet_op; first | go_big_quiet_on | (with_reducible apply Exists.intro; refine ⟨fun W hW => ?_, ?_⟩; (first | with_reducible rfl | (go_at_call 46; exact callD (impl_AddressOk.calls kl18 _ _ _  A29.out) hW) | (go_simp; with_reducible rfl)); go_big_quiet_on)))
       clear HB
       refine zW fun w43 (HB : Below w24.heap.size w24 w43) => ?_
       go_wp2_with (fail)
       go_ret
       exact ⟨ze, zv HW.out HB⟩
      subst c30
      rw [if_pos rfl] at H
      by_cases c31 : x49_kl18 > 0
      case neg =>
       rw [if_neg c31] at H
       have c31b0 := zgtn c31
       clear c31
       by_cases c40 : x5_kl18 = true
       ·subst c40
        rw [if_pos rfl] at H
        repeat (first | go_big_quiet_skip | (go_big_quiet_want; go_big_quiet_op; first | go_big_quiet_on | (with_reducible apply Exists.intro; refine ⟨fun W hW => ?_, ?_⟩; (first | with_reducible rfl | (go_at_call 46; exact callD (impl_AddressOk.calls kl18 _ _ _  A29.out) hW) | (go_simp; with_reducible rfl)); go_big_quiet_on)))
        clear HB
        refine zW fun w41 (HB : Below w24.heap.size w24 w41) => ?_
        go_wp2_with (fail)
        go_roundg kl18
        case measure => have := HKkl3.out; have := HKkl18.out; omega
        case rel => exact ⟨(true), (wrap64 (x49_kl18 + 1)), zr, zr, ⟨H⟩, ⟨by have := HKkl3.out; have := HKkl18.out; omega⟩, ⟨zv HLkl18.out HB⟩⟩
       replace c40 := Bool.eq_false_iff.mpr c40
       subst c40
       rw [if_neg (by decide)] at H
       repeat (first | go_big_quiet_skip | (go_big_quiet_want; go_big_quiet_op; first | go_big_quiet_on | (with_reducible apply Exists.intro; refine ⟨fun W hW => ?_, ?_⟩; (first | with_reducible rfl | (go_at_call 46; exact callD (impl_AddressOk.calls kl18 _ _ _  A29.out) hW) | (go_simp; with_reducible rfl)); go_big_quiet_on)))
       clear HB
       refine zW fun w42 (HB : Below w24.heap.size w24 w42) => ?_
       go_wp2_with (fail)
       go_roundg kl18
       case measure => have := HKkl3.out; have := HKkl18.out; omega
       case rel => exact ⟨((((rd_T70 ((rd_T67 l0 x13_kl3).f2) x49_kl18).f0) == ((rd_T67 l0 x13_kl3).f1))), (wrap64 (x49_kl18 + 1)), zr, zr, ⟨H⟩, ⟨by have := HKkl3.out; have := HKkl18.out; omega⟩, ⟨zv HLkl18.out HB⟩⟩
      rw [if_pos c31] at H
      have c31b0 := zgt c31
      clear c31
      obtain ⟨ji32, hji32⟩ : ∃ j_ : Int, (wrap64 (x49_kl18 - 1)) = j_ := ⟨_, rfl⟩
      (first | rw [hji32] at H | simp only [hji32] at H)
      have hji32w : (IntKind.i64.wrap (x49_kl18 - 1)) = ji32 := (i64_w _).trans hji32
      (try rw [hji32] at A9)
      (try rw [hji32] at A29)
      by_cases c33 : 0 ≤ (ji32)
      case neg => exact zno H c33
      rw [if_pos c33] at H
      have c33b0 := z1 c33
      clear c33
      by_cases c34 : (ji32) < (((rd_T67 l0 x13_kl3).f2).length : Int)
      case neg => exact zno H c34
      rw [if_pos c34] at H
      have c34b0 := z1 c34
      clear c34
      have p567 : 0 ≤ ((ji32) : Int) := z2
      have q567 : ((ji32) : Int) < (((rd_T67 l0 x13_kl3).f2).length : Int) := z2
      obtain ⟨ad567, e567, hx567_0, hx567_1⟩ := at_T70 HR560_2.out (ji32) p567 q567
      obtain rfl : ad564 = ad567 := (by injection e567)
      replace hx567_0 := cellB hx567_0
      replace hx567_1 := cellB hx567_1
      replace p567 := eq_true p567
      replace q567 := eq_true q567
      by_cases c35 : ((rd_T70 ((rd_T67 l0 x13_kl3).f2) (ji32)).f0) ≥ ((rd_T70 ((rd_T67 l0 x13_kl3).f2) x49_kl18).f0)
      ·rw [if_pos c35] at H
       have c35b0 := zge c35
       clear c35
       obtain rfl := zi H
       repeat (first | go_big_quiet_skip | (go_big_quiet_want; go_big_quiet_op; first | go_big_quiet_on | (with_reducible apply Exists.intro; refine ⟨fun W hW => ?_, ?_⟩; (first | with_reducible rfl | (go_at_call 46; exact callD (impl_AddressOk.calls kl18 _ _ _  A29.out) hW) | (go_simp; with_reducible rfl)); go_big_quiet_on)))
       clear HB
       refine zW fun w36 (HB : Below w24.heap.size w24 w36) => ?_
       go_wp2_with (fail)
       go_ret
       exact ⟨ze, zv HW.out HB⟩
      rw [if_neg c35] at H
      have c35b0 := zgen c35
      clear c35
      by_cases c37 : x5_kl18 = true
      ·subst c37
       rw [if_pos rfl] at H
       repeat (first | go_big_quiet_skip | (go_big_quiet_want; go_big_quiet_op; first | go_big_quiet_on | (with_reducible apply Exists.intro; refine ⟨fun W hW => ?_, ?_⟩; (first | with_reducible rfl | (go_at_call 46; exact callD (impl_AddressOk.calls kl18 _ _ _  A29.out) hW) | (go_simp; with_reducible rfl)); go_big_quiet_on)))
       clear HB
       refine zW fun w38 (HB : Below w24.heap.size w24 w38) => ?_
       go_wp2_with (fail)
       go_roundg kl18
       case measure => have := HKkl3.out; have := HKkl18.out; omega
       case rel => exact ⟨(true), (wrap64 (x49_kl18 + 1)), zr, zr, ⟨H⟩, ⟨by have := HKkl3.out; have := HKkl18.out; omega⟩, ⟨zv HLkl18.out HB⟩⟩
      replace c37 := Bool.eq_false_iff.mpr c37
      subst c37
      rw [if_neg (by decide)] at H
      repeat (first | go_big_quiet_skip | (go_big_quiet_want; go_big_quiet_op; first | go_big_quiet_on | (with_reducible apply Exists.intro; refine ⟨fun W hW => ?_, ?_⟩; (first | with_reducible rfl | (go_at_call 46; exact callD (impl_AddressOk.calls kl18 _ _ _  A29.out) hW) | (go_simp; with_reducible rfl)); go_big_quiet_on)))
      clear HB
      refine zW fun w39 (HB : Below w24.heap.size w24 w39) => ?_
      go_wp2_with (fail)
      go_roundg kl18
      case measure => have := HKkl3.out; have := HKkl18.out; omega
      case rel => exact ⟨((((rd_T70 ((rd_T67 l0 x13_kl3).f2) x49_kl18).f0) == ((rd_T67 l0 x13_kl3).f1))), (wrap64 (x49_kl18 + 1)), zr, zr, ⟨H⟩, ⟨by have := HKkl3.out; have := HKkl18.out; omega⟩, ⟨zv HLkl18.out HB⟩⟩
     rw [if_neg c20] at H
     have c20b0 := z0 c20
     clear c20
     by_cases c44 : x5_kl18 = true
     ·subst c44
      rw [if_pos rfl] at H
      go_wp2_with (fail)
      go_roundg kl18
      case measure => have := HKkl3.out; have := HKkl18.out; omega
      case rel => exact ⟨(wrap64 (x13_kl3 + 1)), zr, ⟨H⟩, ⟨by have := HKkl3.out; have := HKkl18.out; omega⟩, ⟨zv HLkl3.out HB⟩⟩
     replace c44 := Bool.eq_false_iff.mpr c44
     subst c44
     rw [if_neg (by decide)] at H
     obtain rfl := zi H
     go_wp2_with (fail)
     go_ret
     exact ⟨ze, zv HW.out HB⟩
end Go.Proofs.YtcekmnclmldmmaaGreatDoor.Q
