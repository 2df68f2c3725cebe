import Derived.Test.YtcekmnclmldmmaaGreatDoorB44
import Derived.Test.YtcekmnclmldmmaaGreatDoorB35
set_option linter.unusedVariables false
set_option linter.unusedSimpArgs false
namespace Go.Proofs.YtcekmnclmldmmaaGreatDoor.Q
open Go.RowKit W1 W2 W3
attribute [local go_sem] max2_int min2_int max_two min_two max_three min_three max_four min_four
attribute [local go_sem high] bl_leq bl_gtr bl_geq
set_option maxHeartbeats 8000000
set_option maxRecDepth 100000
def laws_FnExactWorldOk.f (k : Nat) (l0_0 : List (S103)) (l0_1 : List (S107)) (l0_2 : List (S110)) (l0_3 : List (S112)) : Option (Bool) := (laws_szWorld.f k l0_0 l0_1 l0_2 l0_3 1048576).bind fun t632 => (if t632 < 0 then (some true) else ((laws_toWorld.f k l0_0 l0_1 l0_2 l0_3).bind fun bt633 => ((spec_WorldOk.f k bt633.1 bt633.2.1 bt633.2.2.1 bt633.2.2.2).bind fun t645 => ((laws_toWorld.f k l0_0 l0_1 l0_2 l0_3).bind fun bt646 => ((impl_WorldOk.f k bt646.1 bt646.2.1 bt646.2.2.1 bt646.2.2.2).bind fun t659 => (if (t659 != t645) = true then (some false) else ((laws_toWorld.f k l0_0 l0_1 l0_2 l0_3).bind fun bt660 => ((laws_eqWorld.f k bt646.1 bt646.2.1 bt646.2.2.1 bt646.2.2.2 bt660.1 bt660.2.1 bt660.2.2.1 bt660.2.2.2).bind fun t672 => (if t672 = true then (some true) else (some false))))))))))
theorem laws_FnExactWorldOk.mono : ∀ a0 a1 a2 a3 k, LeO (laws_FnExactWorldOk.f k a0 a1 a2 a3) (laws_FnExactWorldOk.f (k + 1) a0 a1 a2 a3) := by
 intro a0 a1 a2 a3 k
 unfold laws_FnExactWorldOk.f
 have m0 := @impl_WorldOk.mono
 have m1 := @laws_eqWorld.mono
 have m2 := @laws_szWorld.mono
 have m3 := @laws_toWorld.mono
 have m4 := @spec_WorldOk.mono
 exact zM
theorem laws_FnExactWorldOk.calls (k : Nat) (A0_0 : Option Addr) (c0_0 : Nat) (l0_0 : List (S103)) (A0_1 : Option Addr) (c0_1 : Nat) (l0_1 : List (S107)) (A0_2 : Option Addr) (c0_2 : Nat) (l0_2 : List (S110)) (A0_3 : Option Addr) (c0_3 : Nat) (l0_3 : List (S112)) (r : Bool) (w : World) (hr0_0 : Kd.C k103 w A0_0 l0_0.length l0_0) (hc0_0 : l0_0.length ≤ c0_0) (hr0_1 : Kd.C k107 w A0_1 l0_1.length l0_1) (hc0_1 : l0_1.length ≤ c0_1) (hr0_2 : Kd.C k110 w A0_2 l0_2.length l0_2) (hc0_2 : l0_2.length ≤ c0_2) (hr0_3 : Kd.C k112 w A0_3 l0_3.length l0_3) (hc0_3 : l0_3.length ≤ c0_3) (hG_ : GOK w) (h : laws_FnExactWorldOk.f k l0_0 l0_1 l0_2 l0_3 = some r) :
 Calls Tryz.prog 3 #[.agg #[.slice A0_0 l0_0.length c0_0, .slice A0_1 l0_1.length c0_1, .slice A0_2 l0_2.length c0_2, .slice A0_3 l0_3.length c0_3]] w fun e w' => e = .returned (.bool r) ∧ Below w.heap.size w w' := by
 have hu27 := Tryz.underlying27
 have hu35 := Tryz.underlying35
 have HG := zz hG_
 clear hG_
 have HR0_0 := zz hr0_0
 have HC0_0 := zz hc0_0
 clear hr0_0 hc0_0
 have HR0_1 := zz hr0_1
 have HC0_1 := zz hc0_1
 clear hr0_1 hc0_1
 have HR0_2 := zz hr0_2
 have HC0_2 := zz hc0_2
 clear hr0_2 hc0_2
 have HR0_3 := zz hr0_3
 have HC0_3 := zz hc0_3
 clear hr0_3 hc0_3
 have HB := zz (Below.refl w.heap.size w)
 unfold laws_FnExactWorldOk.f at h
 have H := h
 clear h
 replace H := zf H
 obtain ⟨t632, A20, H⟩ := H
 try dsimp only at H
 have A2 := zz A20
 clear A20
 by_cases c3 : t632 < 0
 ·rw [if_pos c3] at H
  have c3b0 := z1 c3
  clear c3
  obtain rfl := zi H
  go_enter Tryz.func3, Tryz.ntmps3
  go_wp2_with (first | (refine zX 1 27 #[.slice A0_0 l0_0.length c0_0, .slice A0_1 l0_1.length c0_1, .slice A0_2 l0_2.length c0_2, .slice A0_3 l0_3.length c0_3] ?_; intro gb631 hg w4 hbox hb; have BK631 := zz (hbox); have GW631 := zz ((zg : w.heap.size ≤ gb631)); have GE631 := zz ((zg : w.heap.size ≤ gb631)); replace HB := zz (zv zb hb); clear hb hbox hg; obtain ⟨hcz5_0, hcz5_1, hcz5_2, hcz5_3, hfz5_0, hfz5_1, hfz5_2, hfz5_3⟩ := zc4 BK631.out) | (refine zL 7 9 Tryz.func7 #[.agg #[.slice A0_0 l0_0.length c0_0, .slice A0_1 l0_1.length c0_1, .slice A0_2 l0_2.length c0_2, .slice A0_3 l0_3.length c0_3], .int .i64 1048576] ?_; (with_reducible refine (laws_szWorld.calls k _ _ l0_0 _ _ l0_1 _ _ l0_2 _ _ l0_3 1048576 t632 _ ?s1 ?s2 ?s3 ?s4 ?s5 ?s6 ?s7 ?s8 A2.out).mono ?_); (case s1 => exact zc HR0_0.out); (case s2 => exact HC0_0.out); (case s3 => exact zc HR0_1.out); (case s4 => exact HC0_1.out); (case s5 => exact zc HR0_2.out); (case s6 => exact HC0_2.out); (case s7 => exact zc HR0_3.out); (case s8 => exact HC0_3.out); rintro e w6 ⟨rfl, hb⟩; refine ⟨_, rfl, ?_⟩; replace BK631 := zz (zJ BK631 hb); replace HB := zz (zv zb hb); (try clear hb); (try clear hb2); (try clear hk); (try clear hi)))
  go_ret
  exact ⟨ze, zb⟩
 rw [if_neg c3] at H
 have c3b0 := z0 c3
 clear c3
 replace H := zf H
 obtain ⟨⟨t633, t636, t639, t642⟩, A70, H⟩ := H
 try dsimp only at H
 have A7 := zz A70
 clear A70
 replace H := zf H
 obtain ⟨t645, A80, H⟩ := H
 try dsimp only at H
 have A8 := zz A80
 clear A80
 replace H := zf H
 obtain ⟨⟨t646, t649, t652, t655⟩, A90, H⟩ := H
 try dsimp only at H
 have A9 := zz A90
 clear A90
 replace H := zf H
 obtain ⟨t659, A100, H⟩ := H
 try dsimp only at H
 have A10 := zz A100
 clear A100
 by_cases c11 : (t659 != t645) = true
 ·rw [if_pos c11] at H
  have c11b0 : (t659 != t645) = true := c11
  (try (have c11b1 : decide (t659 = t645) = false := by simpa using c11))
  (try (have c11b2 : (t659 == t645) = false := by simpa using c11))
  (try (have c11b3 : ¬ (t659 = t645) := by simpa using c11))
  clear c11
  obtain rfl := zi H
  go_enter Tryz.func3, Tryz.ntmps3
  go_wp2_with (first | (refine zX 1 27 #[.slice A0_0 l0_0.length c0_0, .slice A0_1 l0_1.length c0_1, .slice A0_2 l0_2.length c0_2, .slice A0_3 l0_3.length c0_3] ?_; intro gb631 hg w12 hbox hb; have BK631 := zz (hbox); have GW631 := zz ((zg : w.heap.size ≤ gb631)); have GE631 := zz ((zg : w.heap.size ≤ gb631)); replace HB := zz (zv zb hb); clear hb hbox hg; obtain ⟨hcz13_0, hcz13_1, hcz13_2, hcz13_3, hfz13_0, hfz13_1, hfz13_2, hfz13_3⟩ := zc4 BK631.out) | (refine zL 7 9 Tryz.func7 #[.agg #[.slice A0_0 l0_0.length c0_0, .slice A0_1 l0_1.length c0_1, .slice A0_2 l0_2.length c0_2, .slice A0_3 l0_3.length c0_3], .int .i64 1048576] ?_; (with_reducible refine (laws_szWorld.calls k _ _ l0_0 _ _ l0_1 _ _ l0_2 _ _ l0_3 1048576 t632 _ ?s1 ?s2 ?s3 ?s4 ?s5 ?s6 ?s7 ?s8 A2.out).mono ?_); (case s1 => exact zc HR0_0.out); (case s2 => exact HC0_0.out); (case s3 => exact zc HR0_1.out); (case s4 => exact HC0_1.out); (case s5 => exact zc HR0_2.out); (case s6 => exact HC0_2.out); (case s7 => exact zc HR0_3.out); (case s8 => exact HC0_3.out); rintro e w14 ⟨rfl, hb⟩; refine ⟨_, rfl, ?_⟩; replace BK631 := zz (zJ BK631 hb); replace HB := zz (zv zb hb); (try clear hb); (try clear hb2); (try clear hk); (try clear hi); obtain ⟨hcz15_0, hcz15_1, hcz15_2, hcz15_3, hfz15_0, hfz15_1, hfz15_2, hfz15_3⟩ := zc4 BK631.out) | (refine zL 9 13 Tryz.func9 #[.agg #[.slice A0_0 l0_0.length c0_0, .slice A0_1 l0_1.length c0_1, .slice A0_2 l0_2.length c0_2, .slice A0_3 l0_3.length c0_3]] ?_; (with_reducible refine (laws_toWorld.calls k _ _ l0_0 _ _ l0_1 _ _ l0_2 _ _ l0_3 t633 t636 t639 t642 _ ?s1 ?s2 ?s3 ?s4 ?s5 ?s6 ?s7 ?s8 A7.out).mono ?_); (case s1 => exact zc HR0_0.out); (case s2 => exact HC0_0.out); (case s3 => exact zc HR0_1.out); (case s4 => exact HC0_1.out); (case s5 => exact zc HR0_2.out); (case s6 => exact HC0_2.out); (case s7 => exact zc HR0_3.out); (case s8 => exact HC0_3.out); rintro e w16 ⟨v634, v637, v640, v643, rfl, ho0, ho1, ho2, ho3, hb⟩; refine ⟨_, rfl, ?_⟩; have HO635 := zz (Kd.S_lower ho0 (below_size zb)); have HO638 := zz (Kd.S_lower ho1 (below_size zb)); have HO641 := zz (Kd.S_lower ho2 (below_size zb)); have HO644 := zz (Kd.R_lower ho3 (below_size zb)); replace BK631 := zz (zJ BK631 hb); replace HB := zz (zv zb hb); (try clear hb); (try clear hb2); (try clear hk); (try clear hi); (try clear ho0); (try clear ho1); (try clear ho2); (try clear ho3); obtain ⟨Ao17, co17, eo17⟩ := Kd.S_slice HO635.out; subst eo17; obtain ⟨Ao18, co18, eo18⟩ := Kd.S_slice HO638.out; subst eo18; obtain ⟨Ao19, co19, eo19⟩ := Kd.S_slice HO641.out; subst eo19; obtain ⟨Ao20, co20, eo20⟩ := Kd.R_slice HO644.out; subst eo20) | (refine zL 8 14 Tryz.func8 #[.agg #[.slice Ao17 t633.length co17, .slice Ao18 t636.length co18, .slice Ao19 t639.length co19, .slice Ao20 t642.length co20]] ?_; (with_reducible refine (spec_WorldOk.calls k _ _ t633 _ _ t636 _ _ t639 _ _ t642 t645 _ ?s1 ?s2 ?s3 ?s4 ?s5 ?s6 ?s7 ?s8 A8.out).mono ?_); (case s1 => repeat (first | exact (Kd.S_reads' HO635.out).2.2 | (with_reducible refine Kd.C_alloc ?_ _) | (with_reducible refine Kd.C_drewN ?_ _) | (with_reducible refine Kd.C_drew ?_))); (case s2 => exact (Kd.S_reads' HO635.out).2.1); (case s3 => repeat (first | exact (Kd.S_reads' HO638.out).2.2 | (with_reducible refine Kd.C_alloc ?_ _) | (with_reducible refine Kd.C_drewN ?_ _) | (with_reducible refine Kd.C_drew ?_))); (case s4 => exact (Kd.S_reads' HO638.out).2.1); (case s5 => repeat (first | exact (Kd.S_reads' HO641.out).2.2 | (with_reducible refine Kd.C_alloc ?_ _) | (with_reducible refine Kd.C_drewN ?_ _) | (with_reducible refine Kd.C_drew ?_))); (case s6 => exact (Kd.S_reads' HO641.out).2.1); (case s7 => repeat (first | exact (Kd.R_reads' HO644.out).2.2 | (with_reducible refine Kd.C_alloc ?_ _) | (with_reducible refine Kd.C_drewN ?_ _) | (with_reducible refine Kd.C_drew ?_))); (case s8 => exact (Kd.R_reads' HO644.out).2.1); rintro e w21 ⟨rfl, hb⟩; refine ⟨_, rfl, ?_⟩; replace HO635 := zz (Kd.S_below (zS HO635.out) hb); replace HO638 := zz (Kd.S_below (zS HO638.out) hb); replace HO641 := zz (Kd.S_below (zS HO641.out) hb); replace HO644 := zz (Kd.R_below (zR HO644.out) hb); replace BK631 := zz (zJ BK631 hb); replace HB := zz (zv zb hb); (try clear hb); (try clear hb2); (try clear hk); (try clear hi); obtain ⟨hcz22_0, hcz22_1, hcz22_2, hcz22_3, hfz22_0, hfz22_1, hfz22_2, hfz22_3⟩ := zc4 BK631.out) | (refine zL 9 16 Tryz.func9 #[.agg #[.slice A0_0 l0_0.length c0_0, .slice A0_1 l0_1.length c0_1, .slice A0_2 l0_2.length c0_2, .slice A0_3 l0_3.length c0_3]] ?_; (with_reducible refine (laws_toWorld.calls k _ _ l0_0 _ _ l0_1 _ _ l0_2 _ _ l0_3 t646 t649 t652 t655 _ ?s1 ?s2 ?s3 ?s4 ?s5 ?s6 ?s7 ?s8 A9.out).mono ?_); (case s1 => exact zc HR0_0.out); (case s2 => exact HC0_0.out); (case s3 => exact zc HR0_1.out); (case s4 => exact HC0_1.out); (case s5 => exact zc HR0_2.out); (case s6 => exact HC0_2.out); (case s7 => exact zc HR0_3.out); (case s8 => exact HC0_3.out); rintro e w23 ⟨v647, v650, v653, v656, rfl, ho0, ho1, ho2, ho3, hb⟩; refine ⟨_, rfl, ?_⟩; have HO648 := zz (Kd.S_lower (Kd.S_new' ho0 (Kd.S_lt (zS HO635.out))) (below_size zb)); replace HO635 := zz (Kd.S_elder' (zS HO635.out) (Kd.S_base ho0) hb); have HO651 := zz (Kd.S_lower (Kd.S_new' ho1 (Kd.S_lt (zS HO638.out))) (below_size zb)); replace HO638 := zz (Kd.S_elder' (zS HO638.out) (Kd.S_base ho1) hb); have HO654 := zz (Kd.S_lower (Kd.S_new' ho2 (Kd.S_lt (zS HO641.out))) (below_size zb)); replace HO641 := zz (Kd.S_elder' (zS HO641.out) (Kd.S_base ho2) hb); have HO657 := zz (Kd.R_lower (Kd.R_new' ho3 (Kd.R_lt (zR HO644.out))) (below_size zb)); replace HO644 := zz (Kd.R_elder' (zR HO644.out) (Kd.R_base ho3) hb); replace BK631 := zz (zJ BK631 hb); replace HB := zz (zv zb hb); (try clear hb); (try clear hb2); (try clear hk); (try clear hi); (try clear ho0); (try clear ho1); (try clear ho2); (try clear ho3)) | (refine zX 5 35 #[.slice none 0 0, .slice none 0 0, .slice none 0 0, .slice none 0 0] ?_; intro gb658 hg w24 hbox hb; replace HO635 := zz (Kd.S_below (zS HO635.out) hb); replace HO638 := zz (Kd.S_below (zS HO638.out) hb); replace HO641 := zz (Kd.S_below (zS HO641.out) hb); replace HO644 := zz (Kd.R_below (zR HO644.out) hb); replace HO648 := zz (Kd.S_below (zS HO648.out) hb); replace HO651 := zz (Kd.S_below (zS HO651.out) hb); replace HO654 := zz (Kd.S_below (zS HO654.out) hb); replace HO657 := zz (Kd.R_below (zR HO657.out) hb); have BK658 := zz (hbox); have GW658 := zz ((zg : w.heap.size ≤ gb658)); have GE658 := zz ((zg : w.heap.size ≤ gb658)); replace HB := zz (zv zb hb); have NB631_658 := zz (zH BK631 hg); have NB658_631 := zz (zI BK631 hg); replace BK631 := zz (zJ BK631 hb); clear hb hbox hg; obtain ⟨Ao25, co25, eo25⟩ := Kd.S_slice HO648.out; subst eo25; have hnb26 := NB658_631.out; have hnc26 := NB631_658.out; obtain ⟨hcz27_0, hcz27_1, hcz27_2, hcz27_3, hfz27_0, hfz27_1, hfz27_2, hfz27_3⟩ := zc4 BK658.out; obtain ⟨Ao28, co28, eo28⟩ := Kd.S_slice HO651.out; subst eo28; obtain ⟨Ao29, co29, eo29⟩ := Kd.S_slice HO654.out; subst eo29; obtain ⟨Ao30, co30, eo30⟩ := Kd.R_slice HO657.out; subst eo30) | (refine zL 10 18 Tryz.func10 #[.agg #[.slice Ao25 t646.length co25, .slice Ao28 t649.length co28, .slice Ao29 t652.length co29, .slice Ao30 t655.length co30]] ?_; (with_reducible refine (impl_WorldOk.calls k _ _ t646 _ _ t649 _ _ t652 _ _ t655 t659 _ ?s1 ?s2 ?s3 ?s4 ?s5 ?s6 ?s7 ?s8 ?s9 A10.out).mono ?_); (case s1 => refine (Kd.S_reads' (e := 94) (base := w.heap.size) (ok := fun k_ => (True ∧ some k_ ≠ (.slice Ao17 t633.length co17 : Value).ownBlock)) (n := t646.length) (c := co25) ?_).2.2; exact (by (with_reducible repeat (first | apply Kd.S_alloc | apply Kd.S_drewN | apply Kd.S_drew)); exact (Kd.S_mono (Kd.S_far (p := ⟨gb658, 3, none⟩) (Kd.S_far (p := ⟨gb658, 2, none⟩) (Kd.S_far (p := ⟨gb658, 1, none⟩) (Kd.S_far (p := ⟨gb658, 0, none⟩) (Kd.S_types HO648.out BK658.out (by decide)) (fun _ hk => hk.2) (.slice Ao25 t646.length co25)) (fun _ hk => hk.2) (.slice Ao28 t649.length co28)) (fun _ hk => hk.2) (.slice Ao29 t652.length co29)) (fun _ hk => hk.2) (.slice Ao30 t655.length co30)) (fun _ h_ => h_.1)))); (case s2 => exact (Kd.S_reads' HO648.out).2.1); (case s3 => refine (Kd.S_reads' (e := 67) (base := w.heap.size) (ok := fun k_ => (True ∧ some k_ ≠ (.slice Ao18 t636.length co18 : Value).ownBlock)) (n := t649.length) (c := co28) ?_).2.2; exact (by (with_reducible repeat (first | apply Kd.S_alloc | apply Kd.S_drewN | apply Kd.S_drew)); exact (Kd.S_mono (Kd.S_far (p := ⟨gb658, 3, none⟩) (Kd.S_far (p := ⟨gb658, 2, none⟩) (Kd.S_far (p := ⟨gb658, 1, none⟩) (Kd.S_far (p := ⟨gb658, 0, none⟩) (Kd.S_types HO651.out BK658.out (by decide)) (fun _ hk => hk.2) (.slice Ao25 t646.length co25)) (fun _ hk => hk.2) (.slice Ao28 t649.length co28)) (fun _ hk => hk.2) (.slice Ao29 t652.length co29)) (fun _ hk => hk.2) (.slice Ao30 t655.length co30)) (fun _ h_ => h_.1)))); (case s4 => exact (Kd.S_reads' HO651.out).2.1); (case s5 => refine (Kd.S_reads' (e := 61) (base := w.heap.size) (ok := fun k_ => (True ∧ some k_ ≠ (.slice Ao19 t639.length co19 : Value).ownBlock)) (n := t652.length) (c := co29) ?_).2.2; exact (by (with_reducible repeat (first | apply Kd.S_alloc | apply Kd.S_drewN | apply Kd.S_drew)); exact (Kd.S_mono (Kd.S_far (p := ⟨gb658, 3, none⟩) (Kd.S_far (p := ⟨gb658, 2, none⟩) (Kd.S_far (p := ⟨gb658, 1, none⟩) (Kd.S_far (p := ⟨gb658, 0, none⟩) (Kd.S_types HO654.out BK658.out (by decide)) (fun _ hk => hk.2) (.slice Ao25 t646.length co25)) (fun _ hk => hk.2) (.slice Ao28 t649.length co28)) (fun _ hk => hk.2) (.slice Ao29 t652.length co29)) (fun _ hk => hk.2) (.slice Ao30 t655.length co30)) (fun _ h_ => h_.1)))); (case s6 => exact (Kd.S_reads' HO654.out).2.1); (case s7 => refine (Kd.R_reads' (e := 64) (base := w.heap.size) (ok := fun k_ => (True ∧ some k_ ≠ (.slice Ao20 t642.length co20 : Value).ownBlock)) (n := t655.length) (c := co30) ?_).2.2; exact (by (with_reducible repeat (first | apply Kd.R_alloc | apply Kd.R_drewN | apply Kd.R_drew)); exact (Kd.R_mono (Kd.R_far (p := ⟨gb658, 3, none⟩) (Kd.R_far (p := ⟨gb658, 2, none⟩) (Kd.R_far (p := ⟨gb658, 1, none⟩) (Kd.R_far (p := ⟨gb658, 0, none⟩) (Kd.R_types HO657.out BK658.out (by decide)) (fun _ hk => hk.2) (.slice Ao25 t646.length co25)) (fun _ hk => hk.2) (.slice Ao28 t649.length co28)) (fun _ hk => hk.2) (.slice Ao29 t652.length co29)) (fun _ hk => hk.2) (.slice Ao30 t655.length co30)) (fun _ h_ => h_.1)))); (case s8 => exact (Kd.R_reads' HO657.out).2.1); (case s9 => exact zG); rintro e w31 ⟨rfl, hb⟩; refine ⟨_, rfl, ?_⟩; replace HO635 := zz (Kd.S_below (by (with_reducible repeat (first | apply Kd.S_alloc | apply Kd.S_drewN | apply Kd.S_drew)); exact (Kd.S_mono (Kd.S_far (p := ⟨gb658, 3, none⟩) (Kd.S_far (p := ⟨gb658, 2, none⟩) (Kd.S_far (p := ⟨gb658, 1, none⟩) (Kd.S_far (p := ⟨gb658, 0, none⟩) (Kd.S_types HO635.out BK658.out (by decide)) (fun _ hk => hk.2) (.slice Ao25 t646.length co25)) (fun _ hk => hk.2) (.slice Ao28 t649.length co28)) (fun _ hk => hk.2) (.slice Ao29 t652.length co29)) (fun _ hk => hk.2) (.slice Ao30 t655.length co30)) (fun _ h_ => h_.1))) hb); replace HO638 := zz (Kd.S_below (by (with_reducible repeat (first | apply Kd.S_alloc | apply Kd.S_drewN | apply Kd.S_drew)); exact (Kd.S_mono (Kd.S_far (p := ⟨gb658, 3, none⟩) (Kd.S_far (p := ⟨gb658, 2, none⟩) (Kd.S_far (p := ⟨gb658, 1, none⟩) (Kd.S_far (p := ⟨gb658, 0, none⟩) (Kd.S_types HO638.out BK658.out (by decide)) (fun _ hk => hk.2) (.slice Ao25 t646.length co25)) (fun _ hk => hk.2) (.slice Ao28 t649.length co28)) (fun _ hk => hk.2) (.slice Ao29 t652.length co29)) (fun _ hk => hk.2) (.slice Ao30 t655.length co30)) (fun _ h_ => h_.1))) hb); replace HO641 := zz (Kd.S_below (by (with_reducible repeat (first | apply Kd.S_alloc | apply Kd.S_drewN | apply Kd.S_drew)); exact (Kd.S_mono (Kd.S_far (p := ⟨gb658, 3, none⟩) (Kd.S_far (p := ⟨gb658, 2, none⟩) (Kd.S_far (p := ⟨gb658, 1, none⟩) (Kd.S_far (p := ⟨gb658, 0, none⟩) (Kd.S_types HO641.out BK658.out (by decide)) (fun _ hk => hk.2) (.slice Ao25 t646.length co25)) (fun _ hk => hk.2) (.slice Ao28 t649.length co28)) (fun _ hk => hk.2) (.slice Ao29 t652.length co29)) (fun _ hk => hk.2) (.slice Ao30 t655.length co30)) (fun _ h_ => h_.1))) hb); replace HO644 := zz (Kd.R_below (by (with_reducible repeat (first | apply Kd.R_alloc | apply Kd.R_drewN | apply Kd.R_drew)); exact (Kd.R_mono (Kd.R_far (p := ⟨gb658, 3, none⟩) (Kd.R_far (p := ⟨gb658, 2, none⟩) (Kd.R_far (p := ⟨gb658, 1, none⟩) (Kd.R_far (p := ⟨gb658, 0, none⟩) (Kd.R_types HO644.out BK658.out (by decide)) (fun _ hk => hk.2) (.slice Ao25 t646.length co25)) (fun _ hk => hk.2) (.slice Ao28 t649.length co28)) (fun _ hk => hk.2) (.slice Ao29 t652.length co29)) (fun _ hk => hk.2) (.slice Ao30 t655.length co30)) (fun _ h_ => h_.1))) hb); replace HO648 := zz (Kd.S_below (by (with_reducible repeat (first | apply Kd.S_alloc | apply Kd.S_drewN | apply Kd.S_drew)); exact (Kd.S_mono (Kd.S_far (p := ⟨gb658, 3, none⟩) (Kd.S_far (p := ⟨gb658, 2, none⟩) (Kd.S_far (p := ⟨gb658, 1, none⟩) (Kd.S_far (p := ⟨gb658, 0, none⟩) (Kd.S_types HO648.out BK658.out (by decide)) (fun _ hk => hk.2) (.slice Ao25 t646.length co25)) (fun _ hk => hk.2) (.slice Ao28 t649.length co28)) (fun _ hk => hk.2) (.slice Ao29 t652.length co29)) (fun _ hk => hk.2) (.slice Ao30 t655.length co30)) (fun _ h_ => h_.1))) hb); replace HO651 := zz (Kd.S_below (by (with_reducible repeat (first | apply Kd.S_alloc | apply Kd.S_drewN | apply Kd.S_drew)); exact (Kd.S_mono (Kd.S_far (p := ⟨gb658, 3, none⟩) (Kd.S_far (p := ⟨gb658, 2, none⟩) (Kd.S_far (p := ⟨gb658, 1, none⟩) (Kd.S_far (p := ⟨gb658, 0, none⟩) (Kd.S_types HO651.out BK658.out (by decide)) (fun _ hk => hk.2) (.slice Ao25 t646.length co25)) (fun _ hk => hk.2) (.slice Ao28 t649.length co28)) (fun _ hk => hk.2) (.slice Ao29 t652.length co29)) (fun _ hk => hk.2) (.slice Ao30 t655.length co30)) (fun _ h_ => h_.1))) hb); replace HO654 := zz (Kd.S_below (by (with_reducible repeat (first | apply Kd.S_alloc | apply Kd.S_drewN | apply Kd.S_drew)); exact (Kd.S_mono (Kd.S_far (p := ⟨gb658, 3, none⟩) (Kd.S_far (p := ⟨gb658, 2, none⟩) (Kd.S_far (p := ⟨gb658, 1, none⟩) (Kd.S_far (p := ⟨gb658, 0, none⟩) (Kd.S_types HO654.out BK658.out (by decide)) (fun _ hk => hk.2) (.slice Ao25 t646.length co25)) (fun _ hk => hk.2) (.slice Ao28 t649.length co28)) (fun _ hk => hk.2) (.slice Ao29 t652.length co29)) (fun _ hk => hk.2) (.slice Ao30 t655.length co30)) (fun _ h_ => h_.1))) hb); replace HO657 := zz (Kd.R_below (by (with_reducible repeat (first | apply Kd.R_alloc | apply Kd.R_drewN | apply Kd.R_drew)); exact (Kd.R_mono (Kd.R_far (p := ⟨gb658, 3, none⟩) (Kd.R_far (p := ⟨gb658, 2, none⟩) (Kd.R_far (p := ⟨gb658, 1, none⟩) (Kd.R_far (p := ⟨gb658, 0, none⟩) (Kd.R_types HO657.out BK658.out (by decide)) (fun _ hk => hk.2) (.slice Ao25 t646.length co25)) (fun _ hk => hk.2) (.slice Ao28 t649.length co28)) (fun _ hk => hk.2) (.slice Ao29 t652.length co29)) (fun _ hk => hk.2) (.slice Ao30 t655.length co30)) (fun _ h_ => h_.1))) hb); replace BK631 := zz (blk_below (g := gb631) (o := .cells #[.slice A0_0 l0_0.length c0_0, .slice A0_1 l0_1.length c0_1, .slice A0_2 l0_2.length c0_2, .slice A0_3 l0_3.length c0_3] 27 (0, 0)) (by (with_reducible repeat (first | refine blk_drewN ?_ _ | refine blk_drew ?_ | refine blk_alloc ?_ _)); refine blk_far ?_ NB631_658.out _; (with_reducible repeat (first | refine blk_drewN ?_ _ | refine blk_drew ?_ | refine blk_alloc ?_ _)); refine blk_far ?_ NB631_658.out _; (with_reducible repeat (first | refine blk_drewN ?_ _ | refine blk_drew ?_ | refine blk_alloc ?_ _)); refine blk_far ?_ NB631_658.out _; (with_reducible repeat (first | refine blk_drewN ?_ _ | refine blk_drew ?_ | refine blk_alloc ?_ _)); refine blk_far ?_ NB631_658.out _; (with_reducible repeat (first | refine blk_drewN ?_ _ | refine blk_drew ?_ | refine blk_alloc ?_ _)); exact BK631.out) hb); replace BK658 := zz (blk_below (g := gb658) (o := .cells #[.slice Ao25 t646.length co25, .slice Ao28 t649.length co28, .slice Ao29 t652.length co29, .slice Ao30 t655.length co30] 35 (0, 0)) (by (with_reducible repeat (first | refine blk_drewN ?_ _ | refine blk_drew ?_ | refine blk_alloc ?_ _)); refine blk_put (cs := #[.slice Ao25 t646.length co25, .slice Ao28 t649.length co28, .slice Ao29 t652.length co29, .slice none 0 0]) ?_ 3 _ rfl; (with_reducible repeat (first | refine blk_drewN ?_ _ | refine blk_drew ?_ | refine blk_alloc ?_ _)); refine blk_put (cs := #[.slice Ao25 t646.length co25, .slice Ao28 t649.length co28, .slice none 0 0, .slice none 0 0]) ?_ 2 _ rfl; (with_reducible repeat (first | refine blk_drewN ?_ _ | refine blk_drew ?_ | refine blk_alloc ?_ _)); refine blk_put (cs := #[.slice Ao25 t646.length co25, .slice none 0 0, .slice none 0 0, .slice none 0 0]) ?_ 1 _ rfl; (with_reducible repeat (first | refine blk_drewN ?_ _ | refine blk_drew ?_ | refine blk_alloc ?_ _)); refine blk_put (cs := #[.slice none 0 0, .slice none 0 0, .slice none 0 0, .slice none 0 0]) ?_ 0 _ rfl; (with_reducible repeat (first | refine blk_drewN ?_ _ | refine blk_drew ?_ | refine blk_alloc ?_ _)); exact BK658.out) hb); replace HB := zz (zv zb hb); (try clear hb); (try clear hb2); (try clear hk); (try clear hi)))
  go_ret
  exact ⟨ze, zb⟩
 rw [if_neg c11] at H
 have c11b0 : (t659 != t645) = false := by simpa using c11
 (try (have c11b1 : decide (t659 = t645) = true := by simpa using c11))
 (try (have c11b2 : (t659 == t645) = true := by simpa using c11))
 clear c11
 replace H := zf H
 obtain ⟨⟨t660, t663, t666, t669⟩, A320, H⟩ := H
 try dsimp only at H
 have A32 := zz A320
 clear A320
 replace H := zf H
 obtain ⟨t672, A330, H⟩ := H
 try dsimp only at H
 have A33 := zz A330
 clear A330
 go_enter Tryz.func3, Tryz.ntmps3
 try go_wp2_with (first | (refine zX 1 27 #[.slice A0_0 l0_0.length c0_0, .slice A0_1 l0_1.length c0_1, .slice A0_2 l0_2.length c0_2, .slice A0_3 l0_3.length c0_3] ?_; intro gb631 hg w35 hbox hb; have BK631 := zz (hbox); have GW631 := zz ((zg : w.heap.size ≤ gb631)); have GE631 := zz ((zg : w.heap.size ≤ gb631)); replace HB := zz (zv zb hb); clear hb hbox hg; obtain ⟨hcz36_0, hcz36_1, hcz36_2, hcz36_3, hfz36_0, hfz36_1, hfz36_2, hfz36_3⟩ := zc4 BK631.out) | (refine zL 7 9 Tryz.func7 #[.agg #[.slice A0_0 l0_0.length c0_0, .slice A0_1 l0_1.length c0_1, .slice A0_2 l0_2.length c0_2, .slice A0_3 l0_3.length c0_3], .int .i64 1048576] ?_; (with_reducible refine (laws_szWorld.calls k _ _ l0_0 _ _ l0_1 _ _ l0_2 _ _ l0_3 1048576 t632 _ ?s1 ?s2 ?s3 ?s4 ?s5 ?s6 ?s7 ?s8 A2.out).mono ?_); (case s1 => exact zc HR0_0.out); (case s2 => exact HC0_0.out); (case s3 => exact zc HR0_1.out); (case s4 => exact HC0_1.out); (case s5 => exact zc HR0_2.out); (case s6 => exact HC0_2.out); (case s7 => exact zc HR0_3.out); (case s8 => exact HC0_3.out); rintro e w37 ⟨rfl, hb⟩; refine ⟨_, rfl, ?_⟩; replace BK631 := zz (zJ BK631 hb); replace HB := zz (zv zb hb); (try clear hb); (try clear hb2); (try clear hk); (try clear hi); obtain ⟨hcz38_0, hcz38_1, hcz38_2, hcz38_3, hfz38_0, hfz38_1, hfz38_2, hfz38_3⟩ := zc4 BK631.out) | (refine zL 9 13 Tryz.func9 #[.agg #[.slice A0_0 l0_0.length c0_0, .slice A0_1 l0_1.length c0_1, .slice A0_2 l0_2.length c0_2, .slice A0_3 l0_3.length c0_3]] ?_; (with_reducible refine (laws_toWorld.calls k _ _ l0_0 _ _ l0_1 _ _ l0_2 _ _ l0_3 t633 t636 t639 t642 _ ?s1 ?s2 ?s3 ?s4 ?s5 ?s6 ?s7 ?s8 A7.out).mono ?_); (case s1 => exact zc HR0_0.out); (case s2 => exact HC0_0.out); (case s3 => exact zc HR0_1.out); (case s4 => exact HC0_1.out); (case s5 => exact zc HR0_2.out); (case s6 => exact HC0_2.out); (case s7 => exact zc HR0_3.out); (case s8 => exact HC0_3.out); rintro e w39 ⟨v634, v637, v640, v643, rfl, ho0, ho1, ho2, ho3, hb⟩; refine ⟨_, rfl, ?_⟩; have HO635 := zz (Kd.S_lower ho0 (below_size zb)); have HO638 := zz (Kd.S_lower ho1 (below_size zb)); have HO641 := zz (Kd.S_lower ho2 (below_size zb)); have HO644 := zz (Kd.R_lower ho3 (below_size zb)); replace BK631 := zz (zJ BK631 hb); replace HB := zz (zv zb hb); (try clear hb); (try clear hb2); (try clear hk); (try clear hi); (try clear ho0); (try clear ho1); (try clear ho2); (try clear ho3); obtain ⟨Ao40, co40, eo40⟩ := Kd.S_slice HO635.out; subst eo40; obtain ⟨Ao41, co41, eo41⟩ := Kd.S_slice HO638.out; subst eo41; obtain ⟨Ao42, co42, eo42⟩ := Kd.S_slice HO641.out; subst eo42; obtain ⟨Ao43, co43, eo43⟩ := Kd.R_slice HO644.out; subst eo43) | (refine zL 8 14 Tryz.func8 #[.agg #[.slice Ao40 t633.length co40, .slice Ao41 t636.length co41, .slice Ao42 t639.length co42, .slice Ao43 t642.length co43]] ?_; (with_reducible refine (spec_WorldOk.calls k _ _ t633 _ _ t636 _ _ t639 _ _ t642 t645 _ ?s1 ?s2 ?s3 ?s4 ?s5 ?s6 ?s7 ?s8 A8.out).mono ?_); (case s1 => repeat (first | exact (Kd.S_reads' HO635.out).2.2 | (with_reducible refine Kd.C_alloc ?_ _) | (with_reducible refine Kd.C_drewN ?_ _) | (with_reducible refine Kd.C_drew ?_))); (case s2 => exact (Kd.S_reads' HO635.out).2.1); (case s3 => repeat (first | exact (Kd.S_reads' HO638.out).2.2 | (with_reducible refine Kd.C_alloc ?_ _) | (with_reducible refine Kd.C_drewN ?_ _) | (with_reducible refine Kd.C_drew ?_))); (case s4 => exact (Kd.S_reads' HO638.out).2.1); (case s5 => repeat (first | exact (Kd.S_reads' HO641.out).2.2 | (with_reducible refine Kd.C_alloc ?_ _) | (with_reducible refine Kd.C_drewN ?_ _) | (with_reducible refine Kd.C_drew ?_))); (case s6 => exact (Kd.S_reads' HO641.out).2.1); (case s7 => repeat (first | exact (Kd.R_reads' HO644.out).2.2 | (with_reducible refine Kd.C_alloc ?_ _) | (with_reducible refine Kd.C_drewN ?_ _) | (with_reducible refine Kd.C_drew ?_))); (case s8 => exact (Kd.R_reads' HO644.out).2.1); rintro e w44 ⟨rfl, hb⟩; refine ⟨_, rfl, ?_⟩; replace HO635 := zz (Kd.S_below (zS HO635.out) hb); replace HO638 := zz (Kd.S_below (zS HO638.out) hb); replace HO641 := zz (Kd.S_below (zS HO641.out) hb); replace HO644 := zz (Kd.R_below (zR HO644.out) hb); replace BK631 := zz (zJ BK631 hb); replace HB := zz (zv zb hb); (try clear hb); (try clear hb2); (try clear hk); (try clear hi); obtain ⟨hcz45_0, hcz45_1, hcz45_2, hcz45_3, hfz45_0, hfz45_1, hfz45_2, hfz45_3⟩ := zc4 BK631.out) | (refine zL 9 16 Tryz.func9 #[.agg #[.slice A0_0 l0_0.length c0_0, .slice A0_1 l0_1.length c0_1, .slice A0_2 l0_2.length c0_2, .slice A0_3 l0_3.length c0_3]] ?_; (with_reducible refine (laws_toWorld.calls k _ _ l0_0 _ _ l0_1 _ _ l0_2 _ _ l0_3 t646 t649 t652 t655 _ ?s1 ?s2 ?s3 ?s4 ?s5 ?s6 ?s7 ?s8 A9.out).mono ?_); (case s1 => exact zc HR0_0.out); (case s2 => exact HC0_0.out); (case s3 => exact zc HR0_1.out); (case s4 => exact HC0_1.out); (case s5 => exact zc HR0_2.out); (case s6 => exact HC0_2.out); (case s7 => exact zc HR0_3.out); (case s8 => exact HC0_3.out); rintro e w46 ⟨v647, v650, v653, v656, rfl, ho0, ho1, ho2, ho3, hb⟩; refine ⟨_, rfl, ?_⟩; have HO648 := zz (Kd.S_lower (Kd.S_new' ho0 (Kd.S_lt (zS HO635.out))) (below_size zb)); replace HO635 := zz (Kd.S_elder' (zS HO635.out) (Kd.S_base ho0) hb); have HO651 := zz (Kd.S_lower (Kd.S_new' ho1 (Kd.S_lt (zS HO638.out))) (below_size zb)); replace HO638 := zz (Kd.S_elder' (zS HO638.out) (Kd.S_base ho1) hb); have HO654 := zz (Kd.S_lower (Kd.S_new' ho2 (Kd.S_lt (zS HO641.out))) (below_size zb)); replace HO641 := zz (Kd.S_elder' (zS HO641.out) (Kd.S_base ho2) hb); have HO657 := zz (Kd.R_lower (Kd.R_new' ho3 (Kd.R_lt (zR HO644.out))) (below_size zb)); replace HO644 := zz (Kd.R_elder' (zR HO644.out) (Kd.R_base ho3) hb); replace BK631 := zz (zJ BK631 hb); replace HB := zz (zv zb hb); (try clear hb); (try clear hb2); (try clear hk); (try clear hi); (try clear ho0); (try clear ho1); (try clear ho2); (try clear ho3)) | (refine zX 5 35 #[.slice none 0 0, .slice none 0 0, .slice none 0 0, .slice none 0 0] ?_; intro gb658 hg w47 hbox hb; replace HO635 := zz (Kd.S_below (zS HO635.out) hb); replace HO638 := zz (Kd.S_below (zS HO638.out) hb); replace HO641 := zz (Kd.S_below (zS HO641.out) hb); replace HO644 := zz (Kd.R_below (zR HO644.out) hb); replace HO648 := zz (Kd.S_below (zS HO648.out) hb); replace HO651 := zz (Kd.S_below (zS HO651.out) hb); replace HO654 := zz (Kd.S_below (zS HO654.out) hb); replace HO657 := zz (Kd.R_below (zR HO657.out) hb); have BK658 := zz (hbox); have GW658 := zz ((zg : w.heap.size ≤ gb658)); have GE658 := zz ((zg : w.heap.size ≤ gb658)); replace HB := zz (zv zb hb); have NB631_658 := zz (zH BK631 hg); have NB658_631 := zz (zI BK631 hg); replace BK631 := zz (zJ BK631 hb); clear hb hbox hg; obtain ⟨Ao48, co48, eo48⟩ := Kd.S_slice HO648.out; subst eo48; have hnb49 := NB658_631.out; have hnc49 := NB631_658.out; obtain ⟨hcz50_0, hcz50_1, hcz50_2, hcz50_3, hfz50_0, hfz50_1, hfz50_2, hfz50_3⟩ := zc4 BK658.out; obtain ⟨Ao51, co51, eo51⟩ := Kd.S_slice HO651.out; subst eo51; obtain ⟨Ao52, co52, eo52⟩ := Kd.S_slice HO654.out; subst eo52; obtain ⟨Ao53, co53, eo53⟩ := Kd.R_slice HO657.out; subst eo53) | (refine zL 10 18 Tryz.func10 #[.agg #[.slice Ao48 t646.length co48, .slice Ao51 t649.length co51, .slice Ao52 t652.length co52, .slice Ao53 t655.length co53]] ?_; (with_reducible refine (impl_WorldOk.calls k _ _ t646 _ _ t649 _ _ t652 _ _ t655 t659 _ ?s1 ?s2 ?s3 ?s4 ?s5 ?s6 ?s7 ?s8 ?s9 A10.out).mono ?_); (case s1 => refine (Kd.S_reads' (e := 94) (base := w.heap.size) (ok := fun k_ => (True ∧ some k_ ≠ (.slice Ao40 t633.length co40 : Value).ownBlock)) (n := t646.length) (c := co48) ?_).2.2; exact (by (with_reducible repeat (first | apply Kd.S_alloc | apply Kd.S_drewN | apply Kd.S_drew)); exact (Kd.S_mono (Kd.S_far (p := ⟨gb658, 3, none⟩) (Kd.S_far (p := ⟨gb658, 2, none⟩) (Kd.S_far (p := ⟨gb658, 1, none⟩) (Kd.S_far (p := ⟨gb658, 0, none⟩) (Kd.S_types HO648.out BK658.out (by decide)) (fun _ hk => hk.2) (.slice Ao48 t646.length co48)) (fun _ hk => hk.2) (.slice Ao51 t649.length co51)) (fun _ hk => hk.2) (.slice Ao52 t652.length co52)) (fun _ hk => hk.2) (.slice Ao53 t655.length co53)) (fun _ h_ => h_.1)))); (case s2 => exact (Kd.S_reads' HO648.out).2.1); (case s3 => refine (Kd.S_reads' (e := 67) (base := w.heap.size) (ok := fun k_ => (True ∧ some k_ ≠ (.slice Ao41 t636.length co41 : Value).ownBlock)) (n := t649.length) (c := co51) ?_).2.2; exact (by (with_reducible repeat (first | apply Kd.S_alloc | apply Kd.S_drewN | apply Kd.S_drew)); exact (Kd.S_mono (Kd.S_far (p := ⟨gb658, 3, none⟩) (Kd.S_far (p := ⟨gb658, 2, none⟩) (Kd.S_far (p := ⟨gb658, 1, none⟩) (Kd.S_far (p := ⟨gb658, 0, none⟩) (Kd.S_types HO651.out BK658.out (by decide)) (fun _ hk => hk.2) (.slice Ao48 t646.length co48)) (fun _ hk => hk.2) (.slice Ao51 t649.length co51)) (fun _ hk => hk.2) (.slice Ao52 t652.length co52)) (fun _ hk => hk.2) (.slice Ao53 t655.length co53)) (fun _ h_ => h_.1)))); (case s4 => exact (Kd.S_reads' HO651.out).2.1); (case s5 => refine (Kd.S_reads' (e := 61) (base := w.heap.size) (ok := fun k_ => (True ∧ some k_ ≠ (.slice Ao42 t639.length co42 : Value).ownBlock)) (n := t652.length) (c := co52) ?_).2.2; exact (by (with_reducible repeat (first | apply Kd.S_alloc | apply Kd.S_drewN | apply Kd.S_drew)); exact (Kd.S_mono (Kd.S_far (p := ⟨gb658, 3, none⟩) (Kd.S_far (p := ⟨gb658, 2, none⟩) (Kd.S_far (p := ⟨gb658, 1, none⟩) (Kd.S_far (p := ⟨gb658, 0, none⟩) (Kd.S_types HO654.out BK658.out (by decide)) (fun _ hk => hk.2) (.slice Ao48 t646.length co48)) (fun _ hk => hk.2) (.slice Ao51 t649.length co51)) (fun _ hk => hk.2) (.slice Ao52 t652.length co52)) (fun _ hk => hk.2) (.slice Ao53 t655.length co53)) (fun _ h_ => h_.1)))); (case s6 => exact (Kd.S_reads' HO654.out).2.1); (case s7 => refine (Kd.R_reads' (e := 64) (base := w.heap.size) (ok := fun k_ => (True ∧ some k_ ≠ (.slice Ao43 t642.length co43 : Value).ownBlock)) (n := t655.length) (c := co53) ?_).2.2; exact (by (with_reducible repeat (first | apply Kd.R_alloc | apply Kd.R_drewN | apply Kd.R_drew)); exact (Kd.R_mono (Kd.R_far (p := ⟨gb658, 3, none⟩) (Kd.R_far (p := ⟨gb658, 2, none⟩) (Kd.R_far (p := ⟨gb658, 1, none⟩) (Kd.R_far (p := ⟨gb658, 0, none⟩) (Kd.R_types HO657.out BK658.out (by decide)) (fun _ hk => hk.2) (.slice Ao48 t646.length co48)) (fun _ hk => hk.2) (.slice Ao51 t649.length co51)) (fun _ hk => hk.2) (.slice Ao52 t652.length co52)) (fun _ hk => hk.2) (.slice Ao53 t655.length co53)) (fun _ h_ => h_.1)))); (case s8 => exact (Kd.R_reads' HO657.out).2.1); (case s9 => exact zG); rintro e w54 ⟨rfl, hb⟩; refine ⟨_, rfl, ?_⟩; replace HO635 := zz (Kd.S_below (by (with_reducible repeat (first | apply Kd.S_alloc | apply Kd.S_drewN | apply Kd.S_drew)); exact (Kd.S_mono (Kd.S_far (p := ⟨gb658, 3, none⟩) (Kd.S_far (p := ⟨gb658, 2, none⟩) (Kd.S_far (p := ⟨gb658, 1, none⟩) (Kd.S_far (p := ⟨gb658, 0, none⟩) (Kd.S_types HO635.out BK658.out (by decide)) (fun _ hk => hk.2) (.slice Ao48 t646.length co48)) (fun _ hk => hk.2) (.slice Ao51 t649.length co51)) (fun _ hk => hk.2) (.slice Ao52 t652.length co52)) (fun _ hk => hk.2) (.slice Ao53 t655.length co53)) (fun _ h_ => h_.1))) hb); replace HO638 := zz (Kd.S_below (by (with_reducible repeat (first | apply Kd.S_alloc | apply Kd.S_drewN | apply Kd.S_drew)); exact (Kd.S_mono (Kd.S_far (p := ⟨gb658, 3, none⟩) (Kd.S_far (p := ⟨gb658, 2, none⟩) (Kd.S_far (p := ⟨gb658, 1, none⟩) (Kd.S_far (p := ⟨gb658, 0, none⟩) (Kd.S_types HO638.out BK658.out (by decide)) (fun _ hk => hk.2) (.slice Ao48 t646.length co48)) (fun _ hk => hk.2) (.slice Ao51 t649.length co51)) (fun _ hk => hk.2) (.slice Ao52 t652.length co52)) (fun _ hk => hk.2) (.slice Ao53 t655.length co53)) (fun _ h_ => h_.1))) hb); replace HO641 := zz (Kd.S_below (by (with_reducible repeat (first | apply Kd.S_alloc | apply Kd.S_drewN | apply Kd.S_drew)); exact (Kd.S_mono (Kd.S_far (p := ⟨gb658, 3, none⟩) (Kd.S_far (p := ⟨gb658, 2, none⟩) (Kd.S_far (p := ⟨gb658, 1, none⟩) (Kd.S_far (p := ⟨gb658, 0, none⟩) (Kd.S_types HO641.out BK658.out (by decide)) (fun _ hk => hk.2) (.slice Ao48 t646.length co48)) (fun _ hk => hk.2) (.slice Ao51 t649.length co51)) (fun _ hk => hk.2) (.slice Ao52 t652.length co52)) (fun _ hk => hk.2) (.slice Ao53 t655.length co53)) (fun _ h_ => h_.1))) hb); replace HO644 := zz (Kd.R_below (by (with_reducible repeat (first | apply Kd.R_alloc | apply Kd.R_drewN | apply Kd.R_drew)); exact (Kd.R_mono (Kd.R_far (p := ⟨gb658, 3, none⟩) (Kd.R_far (p := ⟨gb658, 2, none⟩) (Kd.R_far (p := ⟨gb658, 1, none⟩) (Kd.R_far (p := ⟨gb658, 0, none⟩) (Kd.R_types HO644.out BK658.out (by decide)) (fun _ hk => hk.2) (.slice Ao48 t646.length co48)) (fun _ hk => hk.2) (.slice Ao51 t649.length co51)) (fun _ hk => hk.2) (.slice Ao52 t652.length co52)) (fun _ hk => hk.2) (.slice Ao53 t655.length co53)) (fun _ h_ => h_.1))) hb); replace HO648 := zz (Kd.S_below (by (with_reducible repeat (first | apply Kd.S_alloc | apply Kd.S_drewN | apply Kd.S_drew)); exact (Kd.S_mono (Kd.S_far (p := ⟨gb658, 3, none⟩) (Kd.S_far (p := ⟨gb658, 2, none⟩) (Kd.S_far (p := ⟨gb658, 1, none⟩) (Kd.S_far (p := ⟨gb658, 0, none⟩) (Kd.S_types HO648.out BK658.out (by decide)) (fun _ hk => hk.2) (.slice Ao48 t646.length co48)) (fun _ hk => hk.2) (.slice Ao51 t649.length co51)) (fun _ hk => hk.2) (.slice Ao52 t652.length co52)) (fun _ hk => hk.2) (.slice Ao53 t655.length co53)) (fun _ h_ => h_.1))) hb); replace HO651 := zz (Kd.S_below (by (with_reducible repeat (first | apply Kd.S_alloc | apply Kd.S_drewN | apply Kd.S_drew)); exact (Kd.S_mono (Kd.S_far (p := ⟨gb658, 3, none⟩) (Kd.S_far (p := ⟨gb658, 2, none⟩) (Kd.S_far (p := ⟨gb658, 1, none⟩) (Kd.S_far (p := ⟨gb658, 0, none⟩) (Kd.S_types HO651.out BK658.out (by decide)) (fun _ hk => hk.2) (.slice Ao48 t646.length co48)) (fun _ hk => hk.2) (.slice Ao51 t649.length co51)) (fun _ hk => hk.2) (.slice Ao52 t652.length co52)) (fun _ hk => hk.2) (.slice Ao53 t655.length co53)) (fun _ h_ => h_.1))) hb); replace HO654 := zz (Kd.S_below (by (with_reducible repeat (first | apply Kd.S_alloc | apply Kd.S_drewN | apply Kd.S_drew)); exact (Kd.S_mono (Kd.S_far (p := ⟨gb658, 3, none⟩) (Kd.S_far (p := ⟨gb658, 2, none⟩) (Kd.S_far (p := ⟨gb658, 1, none⟩) (Kd.S_far (p := ⟨gb658, 0, none⟩) (Kd.S_types HO654.out BK658.out (by decide)) (fun _ hk => hk.2) (.slice Ao48 t646.length co48)) (fun _ hk => hk.2) (.slice Ao51 t649.length co51)) (fun _ hk => hk.2) (.slice Ao52 t652.length co52)) (fun _ hk => hk.2) (.slice Ao53 t655.length co53)) (fun _ h_ => h_.1))) hb); replace HO657 := zz (Kd.R_below (by (with_reducible repeat (first | apply Kd.R_alloc | apply Kd.R_drewN | apply Kd.R_drew)); exact (Kd.R_mono (Kd.R_far (p := ⟨gb658, 3, none⟩) (Kd.R_far (p := ⟨gb658, 2, none⟩) (Kd.R_far (p := ⟨gb658, 1, none⟩) (Kd.R_far (p := ⟨gb658, 0, none⟩) (Kd.R_types HO657.out BK658.out (by decide)) (fun _ hk => hk.2) (.slice Ao48 t646.length co48)) (fun _ hk => hk.2) (.slice Ao51 t649.length co51)) (fun _ hk => hk.2) (.slice Ao52 t652.length co52)) (fun _ hk => hk.2) (.slice Ao53 t655.length co53)) (fun _ h_ => h_.1))) hb); replace BK631 := zz (blk_below (g := gb631) (o := .cells #[.slice A0_0 l0_0.length c0_0, .slice A0_1 l0_1.length c0_1, .slice A0_2 l0_2.length c0_2, .slice A0_3 l0_3.length c0_3] 27 (0, 0)) (by (with_reducible repeat (first | refine blk_drewN ?_ _ | refine blk_drew ?_ | refine blk_alloc ?_ _)); refine blk_far ?_ NB631_658.out _; (with_reducible repeat (first | refine blk_drewN ?_ _ | refine blk_drew ?_ | refine blk_alloc ?_ _)); refine blk_far ?_ NB631_658.out _; (with_reducible repeat (first | refine blk_drewN ?_ _ | refine blk_drew ?_ | refine blk_alloc ?_ _)); refine blk_far ?_ NB631_658.out _; (with_reducible repeat (first | refine blk_drewN ?_ _ | refine blk_drew ?_ | refine blk_alloc ?_ _)); refine blk_far ?_ NB631_658.out _; (with_reducible repeat (first | refine blk_drewN ?_ _ | refine blk_drew ?_ | refine blk_alloc ?_ _)); exact BK631.out) hb); replace BK658 := zz (blk_below (g := gb658) (o := .cells #[.slice Ao48 t646.length co48, .slice Ao51 t649.length co51, .slice Ao52 t652.length co52, .slice Ao53 t655.length co53] 35 (0, 0)) (by (with_reducible repeat (first | refine blk_drewN ?_ _ | refine blk_drew ?_ | refine blk_alloc ?_ _)); refine blk_put (cs := #[.slice Ao48 t646.length co48, .slice Ao51 t649.length co51, .slice Ao52 t652.length co52, .slice none 0 0]) ?_ 3 _ rfl; (with_reducible repeat (first | refine blk_drewN ?_ _ | refine blk_drew ?_ | refine blk_alloc ?_ _)); refine blk_put (cs := #[.slice Ao48 t646.length co48, .slice Ao51 t649.length co51, .slice none 0 0, .slice none 0 0]) ?_ 2 _ rfl; (with_reducible repeat (first | refine blk_drewN ?_ _ | refine blk_drew ?_ | refine blk_alloc ?_ _)); refine blk_put (cs := #[.slice Ao48 t646.length co48, .slice none 0 0, .slice none 0 0, .slice none 0 0]) ?_ 1 _ rfl; (with_reducible repeat (first | refine blk_drewN ?_ _ | refine blk_drew ?_ | refine blk_alloc ?_ _)); refine blk_put (cs := #[.slice none 0 0, .slice none 0 0, .slice none 0 0, .slice none 0 0]) ?_ 0 _ rfl; (with_reducible repeat (first | refine blk_drewN ?_ _ | refine blk_drew ?_ | refine blk_alloc ?_ _)); exact BK658.out) hb); replace HB := zz (zv zb hb); (try clear hb); (try clear hb2); (try clear hk); (try clear hi)))
 replace HO635 := zz (Kd.S_drew HO635.out)
 replace HO638 := zz (Kd.S_drew HO638.out)
 replace HO641 := zz (Kd.S_drew HO641.out)
 replace HO644 := zz (Kd.R_drew HO644.out)
 replace HO648 := zz (Kd.S_drew HO648.out)
 replace HO651 := zz (Kd.S_drew HO651.out)
 replace HO654 := zz (Kd.S_drew HO654.out)
 replace HO657 := zz (Kd.R_drew HO657.out)
 replace BK631 := zz (blk_drew BK631.out)
 replace BK658 := zz (blk_drew BK658.out)
 replace HB := zz (below_drew1 HB.out)
 refine start_ (n := 5) (S := fun w' => w'.cell? ⟨gb658, 0, none⟩ = some (.slice Ao48 t646.length co48) ∧ w'.cell? ⟨gb658, 1, none⟩ = some (.slice Ao51 t649.length co51) ∧ w'.cell? ⟨gb658, 2, none⟩ = some (.slice Ao52 t652.length co52) ∧ w'.cell? ⟨gb658, 3, none⟩ = some (.slice Ao53 t655.length co53) ∧ w'.cell? ⟨gb631, 0, none⟩ = some (.slice A0_0 l0_0.length c0_0) ∧ w'.cell? ⟨gb631, 1, none⟩ = some (.slice A0_1 l0_1.length c0_1) ∧ w'.cell? ⟨gb631, 2, none⟩ = some (.slice A0_2 l0_2.length c0_2) ∧ w'.cell? ⟨gb631, 3, none⟩ = some (.slice A0_3 l0_3.length c0_3)) (ds := []) (bp 0 5) zk rfl rfl ⟨(blk_cell BK658.out 0).trans rfl, (blk_cell BK658.out 1).trans rfl, (blk_cell BK658.out 2).trans rfl, (blk_cell BK658.out 3).trans rfl, (blk_cell BK631.out 0).trans rfl, (blk_cell BK631.out 1).trans rfl, (blk_cell BK631.out 2).trans rfl, (blk_cell BK631.out 3).trans rfl⟩ (fun hHeld => ?_)
 generalize w54.drew = w55 at HO635 HO638 HO641 HO644 HO648 HO651 HO654 HO657 BK631 BK658 HB hHeld ⊢
 refine take_ (i := 0) (N := some 22) (v := ?_) (a' := ?_) #[true, false, false, false, false] rfl rfl zk (fun _ _ _ h => h) (Or.inl ⟨by rfl, ?_⟩) hHeld ?_ ?_
 rotate_left
 ·rintro w' ⟨s0, s1, s2, s3, s4, s5, s6, s7⟩
  go_simp
  with_reducible rfl
 rotate_left
 ·simp only [Act.put, List.setIfInBounds_toArray, List.set_cons_zero, List.set_cons_succ, i64_w, i32_w]
  rfl
 refine take_ (i := 1) (N := some 23) (v := ?_) (a' := ?_) #[true, true, false, false, false] rfl rfl zk (fun _ _ _ h => h) (Or.inl ⟨by rfl, ?_⟩) hHeld ?_ ?_
 rotate_left
 ·rintro w' ⟨s0, s1, s2, s3, s4, s5, s6, s7⟩
  go_simp
  with_reducible rfl
 rotate_left
 ·simp only [Act.put, List.setIfInBounds_toArray, List.set_cons_zero, List.set_cons_succ, i64_w, i32_w]
  rfl
 refine one_ (i := 2) (N := some 24) #[true, true, true, false, false] rfl rfl zk (by decide) (fun K hK => ?_)
 refine zh Tryz.func9 #[.agg #[.slice A0_0 l0_0.length c0_0, .slice A0_1 l0_1.length c0_1, .slice A0_2 l0_2.length c0_2, .slice A0_3 l0_3.length c0_3]] ?_
 with_reducible refine (laws_toWorld.calls k _ _ l0_0 _ _ l0_1 _ _ l0_2 _ _ l0_3 t660 t663 t666 t669 _ ?s1 ?s2 ?s3 ?s4 ?s5 ?s6 ?s7 ?s8 A32.out).mono ?_
 (case s1 => exact zc HR0_0.out)
 (case s2 => exact HC0_0.out)
 (case s3 => exact zc HR0_1.out)
 (case s4 => exact HC0_1.out)
 (case s5 => exact zc HR0_2.out)
 (case s6 => exact HC0_2.out)
 (case s7 => exact zc HR0_3.out)
 (case s8 => exact HC0_3.out)
 rintro e w56 ⟨v661, v664, v667, v670, rfl, ho0, ho1, ho2, ho3, hb⟩
 refine ⟨_, rfl, ?_⟩
 have HO662 := zz (Kd.S_lower (Kd.S_new' (Kd.S_new' ho0 (Kd.S_lt (zS HO635.out))) (Kd.S_lt (zS HO648.out))) (below_size zb))
 replace HO635 := zz (Kd.S_elder' (zS HO635.out) (Kd.S_base ho0) hb)
 replace HO648 := zz (Kd.S_elder' (zS HO648.out) (Kd.S_base ho0) hb)
 have HO665 := zz (Kd.S_lower (Kd.S_new' (Kd.S_new' ho1 (Kd.S_lt (zS HO638.out))) (Kd.S_lt (zS HO651.out))) (below_size zb))
 replace HO638 := zz (Kd.S_elder' (zS HO638.out) (Kd.S_base ho1) hb)
 replace HO651 := zz (Kd.S_elder' (zS HO651.out) (Kd.S_base ho1) hb)
 have HO668 := zz (Kd.S_lower (Kd.S_new' (Kd.S_new' ho2 (Kd.S_lt (zS HO641.out))) (Kd.S_lt (zS HO654.out))) (below_size zb))
 replace HO641 := zz (Kd.S_elder' (zS HO641.out) (Kd.S_base ho2) hb)
 replace HO654 := zz (Kd.S_elder' (zS HO654.out) (Kd.S_base ho2) hb)
 have HO671 := zz (Kd.R_lower (Kd.R_new' (Kd.R_new' ho3 (Kd.R_lt (zR HO644.out))) (Kd.R_lt (zR HO657.out))) (below_size zb))
 replace HO644 := zz (Kd.R_elder' (zR HO644.out) (Kd.R_base ho3) hb)
 replace HO657 := zz (Kd.R_elder' (zR HO657.out) (Kd.R_base ho3) hb)
 replace BK631 := zz (zJ BK631 hb)
 replace BK658 := zz (zJ BK658 hb)
 replace HB := zz (zv zb hb)
 (try clear hb)
 (try clear hb2)
 (try clear hk)
 (try clear hi)
 (try clear ho0)
 (try clear ho1)
 (try clear ho2)
 (try clear ho3)
 obtain ⟨Ao57, co57, eo57⟩ := Kd.S_slice HO662.out
 (first | subst eo57 | (injection eo57 with f1_ f2_ f3_; have f4_ := f1_.symm; have f5_ := f3_.symm; clear f1_ f2_ f3_; subst f4_; subst f5_))
 obtain ⟨Ao58, co58, eo58⟩ := Kd.S_slice HO665.out
 (first | subst eo58 | (injection eo58 with f1_ f2_ f3_; have f4_ := f1_.symm; have f5_ := f3_.symm; clear f1_ f2_ f3_; subst f4_; subst f5_))
 obtain ⟨Ao59, co59, eo59⟩ := Kd.S_slice HO668.out
 (first | subst eo59 | (injection eo59 with f1_ f2_ f3_; have f4_ := f1_.symm; have f5_ := f3_.symm; clear f1_ f2_ f3_; subst f4_; subst f5_))
 obtain ⟨Ao60, co60, eo60⟩ := Kd.R_slice HO671.out
 (first | subst eo60 | (injection eo60 with f1_ f2_ f3_; have f4_ := f1_.symm; have f5_ := f3_.symm; clear f1_ f2_ f3_; subst f4_; subst f5_))
 refine hK.out _ _ ⟨(blk_cell BK658.out 0).trans rfl, (blk_cell BK658.out 1).trans rfl, (blk_cell BK658.out 2).trans rfl, (blk_cell BK658.out 3).trans rfl, (blk_cell BK631.out 0).trans rfl, (blk_cell BK631.out 1).trans rfl, (blk_cell BK631.out 2).trans rfl, (blk_cell BK631.out 3).trans rfl⟩ (fun hHeld => ?_)
 clear hK K
 refine zn 24 ?_
 refine one_ (i := 3) (N := some 25) #[true, true, true, true, false] rfl rfl zk (by decide) (fun K hK => ?_)
 refine zh Tryz.func11 #[.agg #[.slice Ao48 t646.length co48, .slice Ao51 t649.length co51, .slice Ao52 t652.length co52, .slice Ao53 t655.length co53], .agg #[.slice Ao57 t660.length co57, .slice Ao58 t663.length co58, .slice Ao59 t666.length co59, .slice Ao60 t669.length co60]] ?_
 with_reducible refine (laws_eqWorld.calls k _ _ t646 _ _ t649 _ _ t652 _ _ t655 _ _ t660 _ _ t663 _ _ t666 _ _ t669 _ _ ?s1 ?s2 ?s3 ?s4 ?s5 ?s6 ?s7 ?s8 ?s9 ?s10 ?s11 ?s12 ?s13 ?s14 ?s15 ?s16 A33.out).mono ?_
 (case s1 => repeat (first | exact (Kd.S_reads' HO648.out).2.2 | (with_reducible refine Kd.C_alloc ?_ _) | (with_reducible refine Kd.C_drewN ?_ _) | (with_reducible refine Kd.C_drew ?_)))
 (case s2 => exact (Kd.S_reads' HO648.out).2.1)
 (case s3 => repeat (first | exact (Kd.S_reads' HO651.out).2.2 | (with_reducible refine Kd.C_alloc ?_ _) | (with_reducible refine Kd.C_drewN ?_ _) | (with_reducible refine Kd.C_drew ?_)))
 (case s4 => exact (Kd.S_reads' HO651.out).2.1)
 (case s5 => repeat (first | exact (Kd.S_reads' HO654.out).2.2 | (with_reducible refine Kd.C_alloc ?_ _) | (with_reducible refine Kd.C_drewN ?_ _) | (with_reducible refine Kd.C_drew ?_)))
 (case s6 => exact (Kd.S_reads' HO654.out).2.1)
 (case s7 => repeat (first | exact (Kd.R_reads' HO657.out).2.2 | (with_reducible refine Kd.C_alloc ?_ _) | (with_reducible refine Kd.C_drewN ?_ _) | (with_reducible refine Kd.C_drew ?_)))
 (case s8 => exact (Kd.R_reads' HO657.out).2.1)
 (case s9 => repeat (first | exact (Kd.S_reads' HO662.out).2.2 | (with_reducible refine Kd.C_alloc ?_ _) | (with_reducible refine Kd.C_drewN ?_ _) | (with_reducible refine Kd.C_drew ?_)))
 (case s10 => exact (Kd.S_reads' HO662.out).2.1)
 (case s11 => repeat (first | exact (Kd.S_reads' HO665.out).2.2 | (with_reducible refine Kd.C_alloc ?_ _) | (with_reducible refine Kd.C_drewN ?_ _) | (with_reducible refine Kd.C_drew ?_)))
 (case s12 => exact (Kd.S_reads' HO665.out).2.1)
 (case s13 => repeat (first | exact (Kd.S_reads' HO668.out).2.2 | (with_reducible refine Kd.C_alloc ?_ _) | (with_reducible refine Kd.C_drewN ?_ _) | (with_reducible refine Kd.C_drew ?_)))
 (case s14 => exact (Kd.S_reads' HO668.out).2.1)
 (case s15 => repeat (first | exact (Kd.R_reads' HO671.out).2.2 | (with_reducible refine Kd.C_alloc ?_ _) | (with_reducible refine Kd.C_drewN ?_ _) | (with_reducible refine Kd.C_drew ?_)))
 (case s16 => exact (Kd.R_reads' HO671.out).2.1)
 rintro e w61 ⟨rfl, hb⟩
 refine ⟨_, rfl, ?_⟩
 replace HO635 := zz (Kd.S_below (zS HO635.out) hb)
 replace HO638 := zz (Kd.S_below (zS HO638.out) hb)
 replace HO641 := zz (Kd.S_below (zS HO641.out) hb)
 replace HO644 := zz (Kd.R_below (zR HO644.out) hb)
 replace HO648 := zz (Kd.S_below (zS HO648.out) hb)
 replace HO651 := zz (Kd.S_below (zS HO651.out) hb)
 replace HO654 := zz (Kd.S_below (zS HO654.out) hb)
 replace HO657 := zz (Kd.R_below (zR HO657.out) hb)
 replace HO662 := zz (Kd.S_below (zS HO662.out) hb)
 replace HO665 := zz (Kd.S_below (zS HO665.out) hb)
 replace HO668 := zz (Kd.S_below (zS HO668.out) hb)
 replace HO671 := zz (Kd.R_below (zR HO671.out) hb)
 replace BK631 := zz (zJ BK631 hb)
 replace BK658 := zz (zJ BK658 hb)
 replace HB := zz (zv zb hb)
 (try clear hb)
 (try clear hb2)
 (try clear hk)
 (try clear hi)
 refine hK.out _ _ ⟨(blk_cell BK658.out 0).trans rfl, (blk_cell BK658.out 1).trans rfl, (blk_cell BK658.out 2).trans rfl, (blk_cell BK658.out 3).trans rfl, (blk_cell BK631.out 0).trans rfl, (blk_cell BK631.out 1).trans rfl, (blk_cell BK631.out 2).trans rfl, (blk_cell BK631.out 3).trans rfl⟩ (fun hHeld => ?_)
 clear hK K
 refine zn 25 ?_
 by_cases c34 : t672 = true
 ·subst c34
  rw [if_pos rfl] at H
  obtain rfl := zi H
  refine pure_ (i := 4) (N := some 26) (v := ?_) (a' := ?_) #[true, true, true, true, true] rfl rfl zk (fun _ _ _ h => h) (Or.inl ⟨by rfl, ?_⟩) ?_ ?_
  rotate_left
  ·intro w'
   go_simp
   with_reducible rfl
  rotate_left
  ·simp only [Act.put, List.setIfInBounds_toArray, List.set_cons_zero, List.set_cons_succ, i64_w, i32_w]
   rfl
  refine done_ zk ?_
  try go_wp2
  go_ret
  exact ⟨ze, zb⟩
 replace c34 := Bool.eq_false_iff.mpr c34
 subst c34
 rw [if_neg (show ¬ (false = true) by decide)] at H
 obtain rfl := zi H
 refine pure_ (i := 4) (N := some 26) (v := ?_) (a' := ?_) #[true, true, true, true, true] rfl rfl zk (fun _ _ _ h => h) (Or.inl ⟨by rfl, ?_⟩) ?_ ?_
 rotate_left
 ·intro w'
  go_simp
  with_reducible rfl
 rotate_left
 ·simp only [Act.put, List.setIfInBounds_toArray, List.set_cons_zero, List.set_cons_succ, i64_w, i32_w]
  rfl
 refine done_ zk ?_
 try go_wp2
 go_ret
 exact ⟨ze, zb⟩
end Go.Proofs.YtcekmnclmldmmaaGreatDoor.Q
