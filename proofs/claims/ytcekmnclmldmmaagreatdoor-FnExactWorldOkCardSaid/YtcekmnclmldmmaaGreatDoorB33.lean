import Derived.Test.YtcekmnclmldmmaaGreatDoorB10
set_option linter.unusedVariables false
set_option linter.unusedSimpArgs false
namespace Go.Proofs.YtcekmnclmldmmaaGreatDoor.Q
open Go.RowKit W1 W2 W3
attribute [local go_sem] max2_int min2_int max_two min_two max_three min_three max_four min_four
attribute [local go_sem high] bl_leq bl_gtr bl_geq
set_option maxHeartbeats 8000000
set_option maxRecDepth 100000
def impl_pendingOk.f (k : Nat) (a0_0 : ByteArray) (l0_1 : List (S96)) (a0_2 : ByteArray) : Option (Bool) := (impl_AddressOk.f k a0_0).bind fun t569 => (if t569 = true then ((impl_TreeOk.f k l0_1).bind fun t570 => (if t570 = true then (if a0_2.toList = ([] : List UInt8) then (some true) else ((impl_AddressOk.f k a0_2).bind fun t571 => (some t571))) else (some false))) else (some false))
theorem impl_pendingOk.mono : ∀ a0 a1 a2 k, LeO (impl_pendingOk.f k a0 a1 a2) (impl_pendingOk.f (k + 1) a0 a1 a2) := by
 intro a0 a1 a2 k
 unfold impl_pendingOk.f
 have m0 := @impl_AddressOk.mono
 have m1 := @impl_TreeOk.mono
 exact zM
theorem impl_pendingOk.calls (k : Nat) (a0_0 : ByteArray) (A0_1 : Option Addr) (c0_1 : Nat) (l0_1 : List (S96)) (a0_2 : ByteArray) (r : Bool) (w : World) (hr0_1 : Kd.C k96 w A0_1 l0_1.length l0_1) (hc0_1 : l0_1.length ≤ c0_1) (hG_ : GOK w) (h : impl_pendingOk.f k a0_0 l0_1 a0_2 = some r) :
 Calls Tryz.prog 44 #[.agg #[.string a0_0, .slice A0_1 l0_1.length c0_1, .string a0_2]] w fun e w' => e = .returned (.bool r) ∧ Below w.heap.size w w' := by
 have hu61 := Tryz.underlying61
 have HG := zz hG_
 clear hG_
 have HR0_1 := zz hr0_1
 have HC0_1 := zz hc0_1
 clear hr0_1 hc0_1
 have HB := zz (Below.refl w.heap.size w)
 unfold impl_pendingOk.f at h
 have H := h
 clear h
 replace HB := HB.out
 have HW := zz (Below.refl w.heap.size w)
 go_enter Tryz.func44, Tryz.ntmps44
 replace H := zf H
 obtain ⟨t569, A2, H⟩ := H
 try dsimp only at H
 replace A2 := zz A2
 go_wp2_with (first | (refine zN 1 ?_; (try (refine z4 ?_; dsimp only)); refine zX 1 61 #[.string a0_0, .slice A0_1 l0_1.length c0_1, .string a0_2] ?_; intro gb568 hg w4 hbox hb; have hst := zv HB hb; clear hg hb HB; replace HW := zz (zv HW.out hst); replace HR0_1 := zz (Kd.C_below HR0_1.out hst); obtain ⟨hbx568_0, hbx568_1, hbx568_2⟩ := zx3 hbox; have HB := Below.refl w4.heap.size w4; clear hbox hst))
 refine (impl_AddressOk.calls k _ _ _  A2.out).mono ?_
 rintro e w5 ⟨rfl, hd⟩
 replace HB := zv HB hd.below
 clear hd
 by_cases c3 : t569 = true
 case neg =>
  replace c3 := Bool.eq_false_iff.mpr c3
  subst c3
  rw [if_neg (by decide)] at H
  obtain rfl := zi H
  go_wp2_with (fail)
  go_ret
  exact ⟨ze, zv HW.out HB⟩
 subst c3
 rw [if_pos rfl] at H
 replace H := zf H
 obtain ⟨t570, A6, H⟩ := H
 try dsimp only at H
 replace A6 := zz A6
 by_cases c7 : t570 = true
 case neg =>
  replace c7 := Bool.eq_false_iff.mpr c7
  subst c7
  rw [if_neg (by decide)] at H
  go_wp2_with (fail)
  refine (impl_TreeOk.calls k _ _ _ _ _ (Kd.C_below HR0_1.out HB) HC0_1.out (GOK.below HG.out (zv HW.out HB)) A6.out).mono ?_
  rintro e w16 ⟨rfl, hb⟩
  replace HB := zv HB hb
  clear hb
  obtain rfl := zi H
  go_wp2_with (fail)
  go_ret
  exact ⟨ze, zv HW.out HB⟩
 subst c7
 rw [if_pos rfl] at H
 by_cases c8 : a0_2.toList = ([] : List UInt8)
 ·rw [if_pos c8] at H
  obtain ⟨c8b0, c8b1⟩ := zq c8
  clear c8
  go_wp2_with (fail)
  refine (impl_TreeOk.calls k _ _ _ _ _ (Kd.C_below HR0_1.out HB) HC0_1.out (GOK.below HG.out (zv HW.out HB)) A6.out).mono ?_
  rintro e w10 ⟨rfl, hb⟩
  replace HB := zv HB hb
  clear hb
  obtain rfl := zi H
  go_wp2_with (fail)
  go_ret
  exact ⟨ze, zv HW.out HB⟩
 rw [if_neg c8] at H
 obtain ⟨c8b0, c8b1⟩ := zw c8
 go_wp2_with (fail)
 refine (impl_TreeOk.calls k _ _ _ _ _ (Kd.C_below HR0_1.out HB) HC0_1.out (GOK.below HG.out (zv HW.out HB)) A6.out).mono ?_
 rintro e w12 ⟨rfl, hb⟩
 replace HB := zv HB hb
 clear hb
 replace H := zf H
 obtain ⟨t571, A13, H⟩ := H
 try dsimp only at H
 replace A13 := zz A13
 go_wp2_with (fail)
 refine (impl_AddressOk.calls k _ _ _  A13.out).mono ?_
 rintro e w14 ⟨rfl, hd⟩
 replace HB := zv HB hd.below
 clear hd
 obtain rfl := zi H
 go_wp2_with (fail)
 go_ret
 exact ⟨ze, zv HW.out HB⟩
def impl_itemOf.l0 : Nat → ByteArray → List (S94) → Int → Int → Option (Int)
 | 0, _, _, _, _ => none
 | k + 1, x1, x7, x8, x9 => if x9 < x8 then (if 0 ≤ x9 then (if x9 < (x7.length : Int) then (if ((rd_T94 x7 x9).f0).toList = x1.toList then (some x9) else (impl_itemOf.l0 k x1 x7 x8 (wrap64 (x9 + 1)))) else (none)) else (none)) else (some (-1))
def impl_itemOf.f (k : Nat) (l0 : List (S94)) (a1 : ByteArray) : Option (Int) := impl_itemOf.l0 k a1 l0 (l0.length : Int) 0
theorem impl_itemOf.mono_l : ∀ k, (∀ y0 y1 y2 y3, LeO (impl_itemOf.l0 k y0 y1 y2 y3) (impl_itemOf.l0 (k + 1) y0 y1 y2 y3))
 | 0 => fun _ _ _ _ r h => by simp [impl_itemOf.l0] at h
 | k + 1 => by
  have ih0 := impl_itemOf.mono_l k
  ·intro y0 y1 y2 y3
   unfold impl_itemOf.l0
   exact zM
theorem impl_itemOf.mono : ∀ a0 a1 k, LeO (impl_itemOf.f k a0 a1) (impl_itemOf.f (k + 1) a0 a1) := by
 intro a0 a1 k
 have ih0 := impl_itemOf.mono_l k
 unfold impl_itemOf.f
 exact zM
theorem impl_itemOf.calls (k : Nat) (A0 : Option Addr) (c0 : Nat) (l0 : List (S94)) (a1 : ByteArray) (r : Int) (w : World) (hr0 : Kd.C k94 w A0 l0.length l0) (hc0 : l0.length ≤ c0) (h : impl_itemOf.f k l0 a1 = some r) :
 Calls Tryz.prog 47 #[.slice A0 l0.length c0, .string a1] w fun e w' => e = .returned (.int .i64 r) ∧ Below w.heap.size w w' := by
 have hu94 := Tryz.underlying94
 have HR0 := zz hr0
 have HC0 := zz hc0
 clear hr0 hc0
 have HB := zz (Below.refl w.heap.size w)
 unfold impl_itemOf.f at h
 have H := h
 clear h
 replace HB := HB.out
 have HW := zz (Below.refl w.heap.size w)
 go_enter Tryz.func47, Tryz.ntmps47
 go_wp2_with (fail)
 go_loopg [9] k (fun kq v9 w' => ∃ (x9_kl3 : Int), v9 = .int .i64 x9_kl3 ∧ Aside0 (impl_itemOf.l0 kq a1 l0 (l0.length : Int) x9_kl3 = some r) ∧ Aside0 (kq ≤ k) ∧ Aside0 (Below w.heap.size w w'))
 case atStart => exact ⟨(0), zr, ⟨H⟩, ⟨Nat.le_refl _⟩, ⟨HB⟩⟩
 case round =>
  clear H HB
  obtain ⟨x9_kl3, rfl, H, HKkl3, HB⟩ := hrel
  replace HB := HB.out
  replace H := H.out
  have HLkl3 := zz (Below.refl w.heap.size w)
  cases gk with
  | zero => exact absurd H (by simp [impl_itemOf.l0])
  | succ kl3 =>
   simp only [impl_itemOf.l0] at H
   by_cases c4 : x9_kl3 < (l0.length : Int)
   case neg =>
    rw [if_neg c4] at H
    have c4b0 := z0 c4
    clear c4
    obtain rfl := zi H
    go_wp2_with (fail)
    go_ret
    exact ⟨ze, zv HW.out HB⟩
   rw [if_pos c4] at H
   have c4b0 := z1 c4
   clear c4
   by_cases c5 : 0 ≤ x9_kl3
   case neg => exact zno H c5
   rw [if_pos c5] at H
   have c5b0 := z1 c5
   clear c5
   by_cases c6 : x9_kl3 < (l0.length : Int)
   case neg => exact zno H c6
   rw [if_pos c6] at H
   have c6b0 := z1 c6
   clear c6
   have p572 : 0 ≤ (x9_kl3 : Int) := z2
   have q572 : (x9_kl3 : Int) < (l0.length : Int) := z2
   obtain ⟨ad572, A572_2, c572_2, A572_4, c572_4, e572, hx572_0, hx572_1, hx572_2, hx572_3, hx572_4, hl572_2, hC572_2, hl572_4, hC572_4⟩ := at_T94 HR0.out x9_kl3 p572 q572
   cases e572
   replace hx572_0 := cellB hx572_0
   replace hx572_1 := cellB hx572_1
   replace hx572_2 := cellB hx572_2
   replace hx572_3 := cellB hx572_3
   replace hx572_4 := cellB hx572_4
   have HR572_2 := zz hC572_2
   have HC572_2 := zz hl572_2
   clear hC572_2 hl572_2
   have HR572_4 := zz hC572_4
   have HC572_4 := zz hl572_4
   clear hC572_4 hl572_4
   replace p572 := eq_true p572
   replace q572 := eq_true q572
   by_cases c7 : ((rd_T94 l0 x9_kl3).f0).toList = a1.toList
   case neg =>
    rw [if_neg c7] at H
    obtain ⟨c7b0, c7b1⟩ := zw c7
    go_wp2_with (first | (refine zN 6 ?_; (try (refine z4 ?_; dsimp only)); refine zX 6 94 #[.string (⟨#[]⟩ : ByteArray), .string (⟨#[]⟩ : ByteArray), .slice none 0 0, .string (⟨#[]⟩ : ByteArray), .slice none 0 0] ?_; intro gb573 hg w10 hbox hb; have hge : w.heap.size ≤ gb573 := (by rw [hg]; exact below_size HB); clear hg; have hst : Below w.heap.size w (((((w10.setCell ⟨gb573, 0, none⟩ (.string ((rd_T94 l0 x9_kl3).f0))).setCell ⟨gb573, 1, none⟩ (.string ((rd_T94 l0 x9_kl3).f1))).setCell ⟨gb573, 2, none⟩ (.slice A572_2 ((rd_T94 l0 x9_kl3).f2).length c572_2)).setCell ⟨gb573, 3, none⟩ (.string ((rd_T94 l0 x9_kl3).f3))).setCell ⟨gb573, 4, none⟩ (.slice A572_4 ((rd_T94 l0 x9_kl3).f4).length c572_4)) := (below_set (below_set (below_set (below_set (below_set (zv HB hb) hge) hge) hge) hge) hge); have hbx : (((((w10.setCell ⟨gb573, 0, none⟩ (.string ((rd_T94 l0 x9_kl3).f0))).setCell ⟨gb573, 1, none⟩ (.string ((rd_T94 l0 x9_kl3).f1))).setCell ⟨gb573, 2, none⟩ (.slice A572_2 ((rd_T94 l0 x9_kl3).f2).length c572_2)).setCell ⟨gb573, 3, none⟩ (.string ((rd_T94 l0 x9_kl3).f3))).setCell ⟨gb573, 4, none⟩ (.slice A572_4 ((rd_T94 l0 x9_kl3).f4).length c572_4)).heap[gb573]? = some (.cells #[.string ((rd_T94 l0 x9_kl3).f0), .string ((rd_T94 l0 x9_kl3).f1), .slice A572_2 ((rd_T94 l0 x9_kl3).f2).length c572_2, .string ((rd_T94 l0 x9_kl3).f3), .slice A572_4 ((rd_T94 l0 x9_kl3).f4).length c572_4] 94 (0, 0)) := (blk_put (cs := #[.string ((rd_T94 l0 x9_kl3).f0), .string ((rd_T94 l0 x9_kl3).f1), .slice A572_2 ((rd_T94 l0 x9_kl3).f2).length c572_2, .string ((rd_T94 l0 x9_kl3).f3), .slice none 0 0]) (blk_put (cs := #[.string ((rd_T94 l0 x9_kl3).f0), .string ((rd_T94 l0 x9_kl3).f1), .slice A572_2 ((rd_T94 l0 x9_kl3).f2).length c572_2, .string (⟨#[]⟩ : ByteArray), .slice none 0 0]) (blk_put (cs := #[.string ((rd_T94 l0 x9_kl3).f0), .string ((rd_T94 l0 x9_kl3).f1), .slice none 0 0, .string (⟨#[]⟩ : ByteArray), .slice none 0 0]) (blk_put (cs := #[.string ((rd_T94 l0 x9_kl3).f0), .string (⟨#[]⟩ : ByteArray), .slice none 0 0, .string (⟨#[]⟩ : ByteArray), .slice none 0 0]) (blk_put (cs := #[.string (⟨#[]⟩ : ByteArray), .string (⟨#[]⟩ : ByteArray), .slice none 0 0, .string (⟨#[]⟩ : ByteArray), .slice none 0 0]) hbox 0 _ rfl) 1 _ rfl) 2 _ rfl) 3 _ rfl) 4 _ rfl); obtain ⟨hs573_0, hs573_1, hs573_2, hs573_3, hs573_4, hf573_0, hf573_1, hf573_2, hf573_3, hf573_4⟩ := zc5 hbox) | ((with_reducible refine gate_store (t := 94) (p := 6) rfl ?_); (try (refine z4 ?_; dsimp only)); refine store_event (t := 94) (p := 6) (v := ?vo_w11) (w1 := (((((w10.setCell ⟨gb573, 0, none⟩ (.string ((rd_T94 l0 x9_kl3).f0))).setCell ⟨gb573, 1, none⟩ (.string ((rd_T94 l0 x9_kl3).f1))).setCell ⟨gb573, 2, none⟩ (.slice A572_2 ((rd_T94 l0 x9_kl3).f2).length c572_2)).setCell ⟨gb573, 3, none⟩ (.string ((rd_T94 l0 x9_kl3).f3))).setCell ⟨gb573, 4, none⟩ (.slice A572_4 ((rd_T94 l0 x9_kl3).f4).length c572_4))) ?hg ?ho ?hn ?hr ?_; (case ho => rfl); (case hg => rfl); (case hn => rfl); (case hr => first | (go_simp; done) | (go_simp; rfl)); intro w11 hw; replace hst := hst; rw [← hw] at hst hbx; clear hw hb hbox hge HB hs573_0 hf573_0 hs573_1 hf573_1 hs573_2 hf573_2 hs573_3 hf573_3 hs573_4 hf573_4; replace HW := zz (zv HW.out hst); replace HLkl3 := zz (zv HLkl3.out hst); replace HR0 := zz (Kd.C_below HR0.out hst); replace HR572_2 := zz (Kd.C_below HR572_2.out hst); replace HR572_4 := zz (Kd.C_below HR572_4.out hst); replace hx572_0 := rebase hx572_0 hst; replace hx572_1 := rebase hx572_1 hst; replace hx572_2 := rebase hx572_2 hst; replace hx572_3 := rebase hx572_3 hst; replace hx572_4 := rebase hx572_4 hst; obtain ⟨hbx573_0, hbx573_1, hbx573_2, hbx573_3, hbx573_4⟩ := zx5 hbx; have HB := Below.refl w11.heap.size w11; clear hbx hst))
    go_roundg kl3
    case measure => have := HKkl3.out; omega
    case rel => exact ⟨(wrap64 (x9_kl3 + 1)), zr, ⟨H⟩, ⟨by have := HKkl3.out; omega⟩, ⟨zv HLkl3.out HB⟩⟩
   rw [if_pos c7] at H
   obtain ⟨c7b0, c7b1⟩ := zq c7
   clear c7
   obtain rfl := zi H
   go_wp2_with (first | (refine zN 6 ?_; (try (refine z4 ?_; dsimp only)); refine zX 6 94 #[.string (⟨#[]⟩ : ByteArray), .string (⟨#[]⟩ : ByteArray), .slice none 0 0, .string (⟨#[]⟩ : ByteArray), .slice none 0 0] ?_; intro gb573 hg w8 hbox hb; have hge : w.heap.size ≤ gb573 := (by rw [hg]; exact below_size HB); clear hg; have hst : Below w.heap.size w (((((w8.setCell ⟨gb573, 0, none⟩ (.string ((rd_T94 l0 x9_kl3).f0))).setCell ⟨gb573, 1, none⟩ (.string ((rd_T94 l0 x9_kl3).f1))).setCell ⟨gb573, 2, none⟩ (.slice A572_2 ((rd_T94 l0 x9_kl3).f2).length c572_2)).setCell ⟨gb573, 3, none⟩ (.string ((rd_T94 l0 x9_kl3).f3))).setCell ⟨gb573, 4, none⟩ (.slice A572_4 ((rd_T94 l0 x9_kl3).f4).length c572_4)) := (below_set (below_set (below_set (below_set (below_set (zv HB hb) hge) hge) hge) hge) hge); have hbx : (((((w8.setCell ⟨gb573, 0, none⟩ (.string ((rd_T94 l0 x9_kl3).f0))).setCell ⟨gb573, 1, none⟩ (.string ((rd_T94 l0 x9_kl3).f1))).setCell ⟨gb573, 2, none⟩ (.slice A572_2 ((rd_T94 l0 x9_kl3).f2).length c572_2)).setCell ⟨gb573, 3, none⟩ (.string ((rd_T94 l0 x9_kl3).f3))).setCell ⟨gb573, 4, none⟩ (.slice A572_4 ((rd_T94 l0 x9_kl3).f4).length c572_4)).heap[gb573]? = some (.cells #[.string ((rd_T94 l0 x9_kl3).f0), .string ((rd_T94 l0 x9_kl3).f1), .slice A572_2 ((rd_T94 l0 x9_kl3).f2).length c572_2, .string ((rd_T94 l0 x9_kl3).f3), .slice A572_4 ((rd_T94 l0 x9_kl3).f4).length c572_4] 94 (0, 0)) := (blk_put (cs := #[.string ((rd_T94 l0 x9_kl3).f0), .string ((rd_T94 l0 x9_kl3).f1), .slice A572_2 ((rd_T94 l0 x9_kl3).f2).length c572_2, .string ((rd_T94 l0 x9_kl3).f3), .slice none 0 0]) (blk_put (cs := #[.string ((rd_T94 l0 x9_kl3).f0), .string ((rd_T94 l0 x9_kl3).f1), .slice A572_2 ((rd_T94 l0 x9_kl3).f2).length c572_2, .string (⟨#[]⟩ : ByteArray), .slice none 0 0]) (blk_put (cs := #[.string ((rd_T94 l0 x9_kl3).f0), .string ((rd_T94 l0 x9_kl3).f1), .slice none 0 0, .string (⟨#[]⟩ : ByteArray), .slice none 0 0]) (blk_put (cs := #[.string ((rd_T94 l0 x9_kl3).f0), .string (⟨#[]⟩ : ByteArray), .slice none 0 0, .string (⟨#[]⟩ : ByteArray), .slice none 0 0]) (blk_put (cs := #[.string (⟨#[]⟩ : ByteArray), .string (⟨#[]⟩ : ByteArray), .slice none 0 0, .string (⟨#[]⟩ : ByteArray), .slice none 0 0]) hbox 0 _ rfl) 1 _ rfl) 2 _ rfl) 3 _ rfl) 4 _ rfl); obtain ⟨hs573_0, hs573_1, hs573_2, hs573_3, hs573_4, hf573_0, hf573_1, hf573_2, hf573_3, hf573_4⟩ := zc5 hbox) | ((with_reducible refine gate_store (t := 94) (p := 6) rfl ?_); (try (refine z4 ?_; dsimp only)); refine store_event (t := 94) (p := 6) (v := ?vo_w9) (w1 := (((((w8.setCell ⟨gb573, 0, none⟩ (.string ((rd_T94 l0 x9_kl3).f0))).setCell ⟨gb573, 1, none⟩ (.string ((rd_T94 l0 x9_kl3).f1))).setCell ⟨gb573, 2, none⟩ (.slice A572_2 ((rd_T94 l0 x9_kl3).f2).length c572_2)).setCell ⟨gb573, 3, none⟩ (.string ((rd_T94 l0 x9_kl3).f3))).setCell ⟨gb573, 4, none⟩ (.slice A572_4 ((rd_T94 l0 x9_kl3).f4).length c572_4))) ?hg ?ho ?hn ?hr ?_; (case ho => rfl); (case hg => rfl); (case hn => rfl); (case hr => first | (go_simp; done) | (go_simp; rfl)); intro w9 hw; replace hst := hst; rw [← hw] at hst hbx; clear hw hb hbox hge HB hs573_0 hf573_0 hs573_1 hf573_1 hs573_2 hf573_2 hs573_3 hf573_3 hs573_4 hf573_4; replace HW := zz (zv HW.out hst); replace HLkl3 := zz (zv HLkl3.out hst); replace HR0 := zz (Kd.C_below HR0.out hst); replace HR572_2 := zz (Kd.C_below HR572_2.out hst); replace HR572_4 := zz (Kd.C_below HR572_4.out hst); replace hx572_0 := rebase hx572_0 hst; replace hx572_1 := rebase hx572_1 hst; replace hx572_2 := rebase hx572_2 hst; replace hx572_3 := rebase hx572_3 hst; replace hx572_4 := rebase hx572_4 hst; obtain ⟨hbx573_0, hbx573_1, hbx573_2, hbx573_3, hbx573_4⟩ := zx5 hbx; have HB := Below.refl w9.heap.size w9; clear hbx hst))
   go_ret
   exact ⟨ze, zv HW.out HB⟩
end Go.Proofs.YtcekmnclmldmmaaGreatDoor.Q
