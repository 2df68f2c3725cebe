import Derived.Test.YtcekmnclmldmmaaGreatDoorB41
set_option linter.unusedVariables false
set_option linter.unusedSimpArgs false
namespace Go.Proofs.YtcekmnclmldmmaaGreatDoor.Q
open Go.RowKit W1 W2 W3
attribute [local go_sem] max2_int min2_int max_two min_two max_three min_three max_four min_four
attribute [local go_sem high] bl_leq bl_gtr bl_geq
set_option maxHeartbeats 8000000
set_option maxRecDepth 100000
def laws_toWorld.f (k : Nat) (l0_0 : List (S103)) (l0_1 : List (S107)) (l0_2 : List (S110)) (l0_3 : List (S112)) : Option ((List (S94)) × (List (S67)) × (List (S61)) × (List (S64))) := (laws_toItemS.f k l0_0).bind fun t427 => ((laws_toProfileS.f k l0_1).bind fun t430 => ((laws_toPendingS.f k l0_2).bind fun t433 => ((laws_toNextS.f k l0_3).bind fun t436 => (some (t427, t430, t433, t436)))))
theorem laws_toWorld.mono : ∀ a0 a1 a2 a3 k, LeO (laws_toWorld.f k a0 a1 a2 a3) (laws_toWorld.f (k + 1) a0 a1 a2 a3) := by
 intro a0 a1 a2 a3 k
 unfold laws_toWorld.f
 have m0 := @laws_toItemS.mono
 have m1 := @laws_toNextS.mono
 have m2 := @laws_toPendingS.mono
 have m3 := @laws_toProfileS.mono
 exact zM
theorem laws_toWorld.calls (k : Nat) (A0_0 : Option Addr) (c0_0 : Nat) (l0_0 : List (S103)) (A0_1 : Option Addr) (c0_1 : Nat) (l0_1 : List (S107)) (A0_2 : Option Addr) (c0_2 : Nat) (l0_2 : List (S110)) (A0_3 : Option Addr) (c0_3 : Nat) (l0_3 : List (S112)) (r1 : List (S94)) (r2 : List (S67)) (r3 : List (S61)) (r4 : List (S64)) (w : World) (hr0_0 : Kd.C k103 w A0_0 l0_0.length l0_0) (hc0_0 : l0_0.length ≤ c0_0) (hr0_1 : Kd.C k107 w A0_1 l0_1.length l0_1) (hc0_1 : l0_1.length ≤ c0_1) (hr0_2 : Kd.C k110 w A0_2 l0_2.length l0_2) (hc0_2 : l0_2.length ≤ c0_2) (hr0_3 : Kd.C k112 w A0_3 l0_3.length l0_3) (hc0_3 : l0_3.length ≤ c0_3) (h : laws_toWorld.f k l0_0 l0_1 l0_2 l0_3 = some (r1, r2, r3, r4)) :
 Calls Tryz.prog 9 #[.agg #[.slice A0_0 l0_0.length c0_0, .slice A0_1 l0_1.length c0_1, .slice A0_2 l0_2.length c0_2, .slice A0_3 l0_3.length c0_3]] w fun e w' => ∃ v0_ v1_ v2_ v3_ : Value, e = .returned (.agg #[v0_, v1_, v2_, v3_]) ∧ Kd.S k94 94 w' w.heap.size (fun _ => True) v0_ r1 ∧ Kd.S k67 67 w' w.heap.size (fun _ => True) v1_ r2 ∧ Kd.S k61 61 w' w.heap.size (fun _ => True) v2_ r3 ∧ Kd.R k64 64 w' w.heap.size (fun _ => True) v3_ r4 ∧ Below w.heap.size w w' := by
 have hu27 := Tryz.underlying27
 have hu35 := Tryz.underlying35
 have HR0_0 := zz hr0_0
 have HC0_0 := zz hc0_0
 clear hr0_0 hc0_0
 have HR0_1 := zz hr0_1
 have HC0_1 := zz hc0_1
 clear hr0_1 hc0_1
 have HR0_2 := zz hr0_2
 have HC0_2 := zz hc0_2
 clear hr0_2 hc0_2
 have HR0_3 := zz hr0_3
 have HC0_3 := zz hc0_3
 clear hr0_3 hc0_3
 have HB := zz (Below.refl w.heap.size w)
 unfold laws_toWorld.f at h
 have H := h
 clear h
 replace H := zf H
 obtain ⟨t427, A20, H⟩ := H
 try dsimp only at H
 have A2 := zz A20
 clear A20
 replace H := zf H
 obtain ⟨t430, A30, H⟩ := H
 try dsimp only at H
 have A3 := zz A30
 clear A30
 replace H := zf H
 obtain ⟨t433, A40, H⟩ := H
 try dsimp only at H
 have A4 := zz A40
 clear A40
 replace H := zf H
 obtain ⟨t436, A50, H⟩ := H
 try dsimp only at H
 have A5 := zz A50
 clear A50
 simp only [Option.some.injEq, Prod.mk.injEq] at H
 obtain ⟨rfl, rfl, rfl, rfl⟩ := H
 go_enter Tryz.func9, Tryz.ntmps9
 go_wp2_with (first | (refine zX 1 27 #[.slice A0_0 l0_0.length c0_0, .slice A0_1 l0_1.length c0_1, .slice A0_2 l0_2.length c0_2, .slice A0_3 l0_3.length c0_3] ?_; intro gb424 hg w6 hbox hb; have BK424 := zz (hbox); have GW424 := zz ((zg : w.heap.size ≤ gb424)); have GE424 := zz ((zg : w.heap.size ≤ gb424)); replace HB := zz (zv zb hb); clear hb hbox hg) | (refine zX 2 35 #[.slice none 0 0, .slice none 0 0, .slice none 0 0, .slice none 0 0] ?_; intro gb425 hg w7 hbox hb; have BK425 := zz (hbox); have GW425 := zz ((zg : w.heap.size ≤ gb425)); have GE425 := zz ((zg : w.heap.size ≤ gb425)); replace HB := zz (zv zb hb); have NB424_425 := zz (zH BK424 hg); have NB425_424 := zz (zI BK424 hg); replace BK424 := zz (zJ BK424 hb); clear hb hbox hg) | (refine zX 3 35 #[.slice none 0 0, .slice none 0 0, .slice none 0 0, .slice none 0 0] ?_; intro gb426 hg w8 hbox hb; have BK426 := zz (hbox); have GW426 := zz ((zg : w.heap.size ≤ gb426)); have GE426 := zz ((zg : w.heap.size ≤ gb426)); replace HB := zz (zv zb hb); have NB424_426 := zz (zH BK424 hg); have NB426_424 := zz (zI BK424 hg); replace BK424 := zz (zJ BK424 hb); have NB425_426 := zz (zH BK425 hg); have NB426_425 := zz (zI BK425 hg); replace BK425 := zz (zJ BK425 hb); clear hb hbox hg; have hnb9 := NB424_425.out; have hnc9 := NB425_424.out; have hnb10 := NB424_426.out; have hnc10 := NB426_424.out; obtain ⟨hcz11_0, hcz11_1, hcz11_2, hcz11_3, hfz11_0, hfz11_1, hfz11_2, hfz11_3⟩ := zc4 BK424.out) | (refine zL 38 6 Tryz.func38 #[.slice A0_0 l0_0.length c0_0] ?_; (with_reducible refine (laws_toItemS.calls k _ _ l0_0 t427 _ ?s1 ?s2 A2.out).mono ?_); (case s1 => exact zc HR0_0.out); (case s2 => exact HC0_0.out); rintro e w12 ⟨v428, rfl, ho0, hb⟩; refine ⟨_, rfl, ?_⟩; have HO429 := zz (Kd.S_lower ho0 (below_size zb)); replace BK424 := zz (zJ BK424 hb); replace BK425 := zz (zJ BK425 hb); replace BK426 := zz (zJ BK426 hb); replace HB := zz (zv zb hb); (try clear hb); (try clear hb2); (try clear hk); (try clear hi); (try clear ho0); obtain ⟨Ao13, co13, eo13⟩ := Kd.S_slice HO429.out; subst eo13; have hnb14 := NB426_425.out; have hnc14 := NB425_426.out; obtain ⟨hcz15_0, hcz15_1, hcz15_2, hcz15_3, hfz15_0, hfz15_1, hfz15_2, hfz15_3⟩ := zc4 BK426.out; obtain ⟨hcz16_0, hcz16_1, hcz16_2, hcz16_3, hfz16_0, hfz16_1, hfz16_2, hfz16_3⟩ := zc4 BK424.out) | (refine zL 39 10 Tryz.func39 #[.slice A0_1 l0_1.length c0_1] ?_; (with_reducible refine (laws_toProfileS.calls k _ _ l0_1 t430 _ ?s1 ?s2 A3.out).mono ?_); (case s1 => exact Kd.C_below HR0_1.out zb); (case s2 => exact HC0_1.out); rintro e w17 ⟨v431, rfl, ho0, hb⟩; refine ⟨_, rfl, ?_⟩; replace HO429 := zz (Kd.S_below (by (with_reducible repeat (first | apply Kd.S_alloc | apply Kd.S_drewN | apply Kd.S_drew)); exact (Kd.S_mono (Kd.S_far (p := ⟨gb426, 0, none⟩) (Kd.S_types HO429.out BK426.out (by decide)) (fun _ hk => hk.2) (.slice Ao13 t427.length co13)) (fun _ h_ => h_.1))) hb); have HO432 := zz (Kd.S_lower ho0 (below_size zb)); replace BK424 := zz (blk_below (g := gb424) (o := .cells #[.slice A0_0 l0_0.length c0_0, .slice A0_1 l0_1.length c0_1, .slice A0_2 l0_2.length c0_2, .slice A0_3 l0_3.length c0_3] 27 (0, 0)) (by (with_reducible repeat (first | refine blk_drewN ?_ _ | refine blk_drew ?_ | refine blk_alloc ?_ _)); refine blk_far ?_ NB424_426.out _; (with_reducible repeat (first | refine blk_drewN ?_ _ | refine blk_drew ?_ | refine blk_alloc ?_ _)); exact BK424.out) hb); replace BK425 := zz (blk_below (g := gb425) (o := .cells #[.slice none 0 0, .slice none 0 0, .slice none 0 0, .slice none 0 0] 35 (0, 0)) (by (with_reducible repeat (first | refine blk_drewN ?_ _ | refine blk_drew ?_ | refine blk_alloc ?_ _)); refine blk_far ?_ NB425_426.out _; (with_reducible repeat (first | refine blk_drewN ?_ _ | refine blk_drew ?_ | refine blk_alloc ?_ _)); exact BK425.out) hb); replace BK426 := zz (blk_below (g := gb426) (o := .cells #[.slice Ao13 t427.length co13, .slice none 0 0, .slice none 0 0, .slice none 0 0] 35 (0, 0)) (by (with_reducible repeat (first | refine blk_drewN ?_ _ | refine blk_drew ?_ | refine blk_alloc ?_ _)); refine blk_put (cs := #[.slice none 0 0, .slice none 0 0, .slice none 0 0, .slice none 0 0]) ?_ 0 _ rfl; (with_reducible repeat (first | refine blk_drewN ?_ _ | refine blk_drew ?_ | refine blk_alloc ?_ _)); exact BK426.out) hb); replace HB := zz (zv zb hb); (try clear hb); (try clear hb2); (try clear hk); (try clear hi); (try clear ho0); obtain ⟨Ao18, co18, eo18⟩ := Kd.S_slice HO432.out; subst eo18; obtain ⟨hcz19_0, hcz19_1, hcz19_2, hcz19_3, hfz19_0, hfz19_1, hfz19_2, hfz19_3⟩ := zc4 BK426.out; obtain ⟨hcz20_0, hcz20_1, hcz20_2, hcz20_3, hfz20_0, hfz20_1, hfz20_2, hfz20_3⟩ := zc4 BK424.out) | (refine zL 40 14 Tryz.func40 #[.slice A0_2 l0_2.length c0_2] ?_; (with_reducible refine (laws_toPendingS.calls k _ _ l0_2 t433 _ ?s1 ?s2 A4.out).mono ?_); (case s1 => exact Kd.C_below HR0_2.out zb); (case s2 => exact HC0_2.out); rintro e w21 ⟨v434, rfl, ho0, hb⟩; refine ⟨_, rfl, ?_⟩; replace HO429 := zz (Kd.S_below (by (with_reducible repeat (first | apply Kd.S_alloc | apply Kd.S_drewN | apply Kd.S_drew)); exact (Kd.S_mono (Kd.S_far (p := ⟨gb426, 1, none⟩) (Kd.S_types HO429.out BK426.out (by decide)) (fun _ hk => hk.2) (.slice Ao18 t430.length co18)) (fun _ h_ => h_.1))) hb); replace HO432 := zz (Kd.S_below (by (with_reducible repeat (first | apply Kd.S_alloc | apply Kd.S_drewN | apply Kd.S_drew)); exact (Kd.S_mono (Kd.S_far (p := ⟨gb426, 1, none⟩) (Kd.S_types HO432.out BK426.out (by decide)) (fun _ hk => hk.2) (.slice Ao18 t430.length co18)) (fun _ h_ => h_.1))) hb); have HO435 := zz (Kd.S_lower ho0 (below_size zb)); replace BK424 := zz (blk_below (g := gb424) (o := .cells #[.slice A0_0 l0_0.length c0_0, .slice A0_1 l0_1.length c0_1, .slice A0_2 l0_2.length c0_2, .slice A0_3 l0_3.length c0_3] 27 (0, 0)) (by (with_reducible repeat (first | refine blk_drewN ?_ _ | refine blk_drew ?_ | refine blk_alloc ?_ _)); refine blk_far ?_ NB424_426.out _; (with_reducible repeat (first | refine blk_drewN ?_ _ | refine blk_drew ?_ | refine blk_alloc ?_ _)); exact BK424.out) hb); replace BK425 := zz (blk_below (g := gb425) (o := .cells #[.slice none 0 0, .slice none 0 0, .slice none 0 0, .slice none 0 0] 35 (0, 0)) (by (with_reducible repeat (first | refine blk_drewN ?_ _ | refine blk_drew ?_ | refine blk_alloc ?_ _)); refine blk_far ?_ NB425_426.out _; (with_reducible repeat (first | refine blk_drewN ?_ _ | refine blk_drew ?_ | refine blk_alloc ?_ _)); exact BK425.out) hb); replace BK426 := zz (blk_below (g := gb426) (o := .cells #[.slice Ao13 t427.length co13, .slice Ao18 t430.length co18, .slice none 0 0, .slice none 0 0] 35 (0, 0)) (by (with_reducible repeat (first | refine blk_drewN ?_ _ | refine blk_drew ?_ | refine blk_alloc ?_ _)); refine blk_put (cs := #[.slice Ao13 t427.length co13, .slice none 0 0, .slice none 0 0, .slice none 0 0]) ?_ 1 _ rfl; (with_reducible repeat (first | refine blk_drewN ?_ _ | refine blk_drew ?_ | refine blk_alloc ?_ _)); exact BK426.out) hb); replace HB := zz (zv zb hb); (try clear hb); (try clear hb2); (try clear hk); (try clear hi); (try clear ho0); obtain ⟨Ao22, co22, eo22⟩ := Kd.S_slice HO435.out; subst eo22; obtain ⟨hcz23_0, hcz23_1, hcz23_2, hcz23_3, hfz23_0, hfz23_1, hfz23_2, hfz23_3⟩ := zc4 BK426.out; obtain ⟨hcz24_0, hcz24_1, hcz24_2, hcz24_3, hfz24_0, hfz24_1, hfz24_2, hfz24_3⟩ := zc4 BK424.out) | (refine zL 41 18 Tryz.func41 #[.slice A0_3 l0_3.length c0_3] ?_; (with_reducible refine (laws_toNextS.calls k _ _ l0_3 t436 _ ?s1 ?s2 A5.out).mono ?_); (case s1 => exact Kd.C_below HR0_3.out zb); (case s2 => exact HC0_3.out); rintro e w25 ⟨v437, rfl, ho0, hb⟩; refine ⟨_, rfl, ?_⟩; replace HO429 := zz (Kd.S_below (by (with_reducible repeat (first | apply Kd.S_alloc | apply Kd.S_drewN | apply Kd.S_drew)); exact (Kd.S_mono (Kd.S_far (p := ⟨gb426, 2, none⟩) (Kd.S_types HO429.out BK426.out (by decide)) (fun _ hk => hk.2) (.slice Ao22 t433.length co22)) (fun _ h_ => h_.1))) hb); replace HO432 := zz (Kd.S_below (by (with_reducible repeat (first | apply Kd.S_alloc | apply Kd.S_drewN | apply Kd.S_drew)); exact (Kd.S_mono (Kd.S_far (p := ⟨gb426, 2, none⟩) (Kd.S_types HO432.out BK426.out (by decide)) (fun _ hk => hk.2) (.slice Ao22 t433.length co22)) (fun _ h_ => h_.1))) hb); replace HO435 := zz (Kd.S_below (by (with_reducible repeat (first | apply Kd.S_alloc | apply Kd.S_drewN | apply Kd.S_drew)); exact (Kd.S_mono (Kd.S_far (p := ⟨gb426, 2, none⟩) (Kd.S_types HO435.out BK426.out (by decide)) (fun _ hk => hk.2) (.slice Ao22 t433.length co22)) (fun _ h_ => h_.1))) hb); have HO438 := zz (Kd.R_lower ho0 (below_size zb)); replace BK424 := zz (blk_below (g := gb424) (o := .cells #[.slice A0_0 l0_0.length c0_0, .slice A0_1 l0_1.length c0_1, .slice A0_2 l0_2.length c0_2, .slice A0_3 l0_3.length c0_3] 27 (0, 0)) (by (with_reducible repeat (first | refine blk_drewN ?_ _ | refine blk_drew ?_ | refine blk_alloc ?_ _)); refine blk_far ?_ NB424_426.out _; (with_reducible repeat (first | refine blk_drewN ?_ _ | refine blk_drew ?_ | refine blk_alloc ?_ _)); exact BK424.out) hb); replace BK425 := zz (blk_below (g := gb425) (o := .cells #[.slice none 0 0, .slice none 0 0, .slice none 0 0, .slice none 0 0] 35 (0, 0)) (by (with_reducible repeat (first | refine blk_drewN ?_ _ | refine blk_drew ?_ | refine blk_alloc ?_ _)); refine blk_far ?_ NB425_426.out _; (with_reducible repeat (first | refine blk_drewN ?_ _ | refine blk_drew ?_ | refine blk_alloc ?_ _)); exact BK425.out) hb); replace BK426 := zz (blk_below (g := gb426) (o := .cells #[.slice Ao13 t427.length co13, .slice Ao18 t430.length co18, .slice Ao22 t433.length co22, .slice none 0 0] 35 (0, 0)) (by (with_reducible repeat (first | refine blk_drewN ?_ _ | refine blk_drew ?_ | refine blk_alloc ?_ _)); refine blk_put (cs := #[.slice Ao13 t427.length co13, .slice Ao18 t430.length co18, .slice none 0 0, .slice none 0 0]) ?_ 2 _ rfl; (with_reducible repeat (first | refine blk_drewN ?_ _ | refine blk_drew ?_ | refine blk_alloc ?_ _)); exact BK426.out) hb); replace HB := zz (zv zb hb); (try clear hb); (try clear hb2); (try clear hk); (try clear hi); (try clear ho0); obtain ⟨Ao26, co26, eo26⟩ := Kd.R_slice HO438.out; subst eo26; obtain ⟨hcz27_0, hcz27_1, hcz27_2, hcz27_3, hfz27_0, hfz27_1, hfz27_2, hfz27_3⟩ := zc4 BK426.out; obtain ⟨hcz28_0, hcz28_1, hcz28_2, hcz28_3, hfz28_0, hfz28_1, hfz28_2, hfz28_3⟩ := zc4 BK425.out))
 refine bodyPost_ret (results_cell_row rfl _ _ gb425 35 #[.slice Ao13 t427.length co13, .slice Ao18 t430.length co18, .slice Ao22 t433.length co22, .slice Ao26 t436.length co26] (0, 0) _ rfl (by (with_reducible repeat (first | refine blk_drewN ?_ _ | refine blk_drew ?_ | refine blk_alloc ?_ _)); refine blk_put (cs := #[.slice Ao13 t427.length co13, .slice Ao18 t430.length co18, .slice Ao22 t433.length co22, .slice none 0 0]) ?_ 3 _ rfl; (with_reducible repeat (first | refine blk_drewN ?_ _ | refine blk_drew ?_ | refine blk_alloc ?_ _)); refine blk_put (cs := #[.slice Ao13 t427.length co13, .slice Ao18 t430.length co18, .slice none 0 0, .slice none 0 0]) ?_ 2 _ rfl; (with_reducible repeat (first | refine blk_drewN ?_ _ | refine blk_drew ?_ | refine blk_alloc ?_ _)); refine blk_put (cs := #[.slice Ao13 t427.length co13, .slice none 0 0, .slice none 0 0, .slice none 0 0]) ?_ 1 _ rfl; (with_reducible repeat (first | refine blk_drewN ?_ _ | refine blk_drew ?_ | refine blk_alloc ?_ _)); refine blk_put (cs := #[.slice none 0 0, .slice none 0 0, .slice none 0 0, .slice none 0 0]) ?_ 0 _ rfl; (with_reducible repeat (first | refine blk_drewN ?_ _ | refine blk_drew ?_ | refine blk_alloc ?_ _)); refine blk_far ?_ NB425_426.out _; (with_reducible repeat (first | refine blk_drewN ?_ _ | refine blk_drew ?_ | refine blk_alloc ?_ _)); exact BK425.out) Tryz.underlying35 rfl zk) rfl ?_
 exact ⟨_, _, _, _, ze, by (with_reducible repeat (first | apply Kd.S_alloc | apply Kd.S_drewN | apply Kd.S_drew)); exact Kd.S_mono (Kd.S_far (p := ⟨gb425, 3, none⟩) (Kd.S_far (p := ⟨gb425, 2, none⟩) (Kd.S_far (p := ⟨gb425, 1, none⟩) (Kd.S_far (p := ⟨gb425, 0, none⟩) (Kd.S_far (p := ⟨gb426, 3, none⟩) (Kd.S_types (Kd.S_types HO429.out BK426.out (by decide)) BK425.out (by decide)) (fun _ hk => hk.1.2) (.slice Ao26 t436.length co26)) (fun _ hk => hk.2) (.slice Ao13 t427.length co13)) (fun _ hk => hk.2) (.slice Ao18 t430.length co18)) (fun _ hk => hk.2) (.slice Ao22 t433.length co22)) (fun _ hk => hk.2) (.slice Ao26 t436.length co26)) (fun _ hk => trivial), by (with_reducible repeat (first | apply Kd.S_alloc | apply Kd.S_drewN | apply Kd.S_drew)); exact Kd.S_mono (Kd.S_far (p := ⟨gb425, 3, none⟩) (Kd.S_far (p := ⟨gb425, 2, none⟩) (Kd.S_far (p := ⟨gb425, 1, none⟩) (Kd.S_far (p := ⟨gb425, 0, none⟩) (Kd.S_far (p := ⟨gb426, 3, none⟩) (Kd.S_types (Kd.S_types HO432.out BK426.out (by decide)) BK425.out (by decide)) (fun _ hk => hk.1.2) (.slice Ao26 t436.length co26)) (fun _ hk => hk.2) (.slice Ao13 t427.length co13)) (fun _ hk => hk.2) (.slice Ao18 t430.length co18)) (fun _ hk => hk.2) (.slice Ao22 t433.length co22)) (fun _ hk => hk.2) (.slice Ao26 t436.length co26)) (fun _ hk => trivial), by (with_reducible repeat (first | apply Kd.S_alloc | apply Kd.S_drewN | apply Kd.S_drew)); exact Kd.S_mono (Kd.S_far (p := ⟨gb425, 3, none⟩) (Kd.S_far (p := ⟨gb425, 2, none⟩) (Kd.S_far (p := ⟨gb425, 1, none⟩) (Kd.S_far (p := ⟨gb425, 0, none⟩) (Kd.S_far (p := ⟨gb426, 3, none⟩) (Kd.S_types (Kd.S_types HO435.out BK426.out (by decide)) BK425.out (by decide)) (fun _ hk => hk.1.2) (.slice Ao26 t436.length co26)) (fun _ hk => hk.2) (.slice Ao13 t427.length co13)) (fun _ hk => hk.2) (.slice Ao18 t430.length co18)) (fun _ hk => hk.2) (.slice Ao22 t433.length co22)) (fun _ hk => hk.2) (.slice Ao26 t436.length co26)) (fun _ hk => trivial), by (with_reducible repeat (first | apply Kd.R_alloc | apply Kd.R_drewN | apply Kd.R_drew)); exact Kd.R_mono (Kd.R_far (p := ⟨gb425, 3, none⟩) (Kd.R_far (p := ⟨gb425, 2, none⟩) (Kd.R_far (p := ⟨gb425, 1, none⟩) (Kd.R_far (p := ⟨gb425, 0, none⟩) (Kd.R_far (p := ⟨gb426, 3, none⟩) (Kd.R_types (Kd.R_types HO438.out BK426.out (by decide)) BK425.out (by decide)) (fun _ hk => hk.1.2) (.slice Ao26 t436.length co26)) (fun _ hk => hk.2) (.slice Ao13 t427.length co13)) (fun _ hk => hk.2) (.slice Ao18 t430.length co18)) (fun _ hk => hk.2) (.slice Ao22 t433.length co22)) (fun _ hk => hk.2) (.slice Ao26 t436.length co26)) (fun _ hk => trivial), zb⟩
def laws_eqStringS.l0 : Nat → List ByteArray → List ByteArray → Int → Option (Bool)
 | 0, _, _, _ => none
 | k + 1, x0, x1, x5 => if x5 < (x0.length : Int) then (if 0 ≤ x5 then (if x5 < (x1.length : Int) then (if (rdOf ByteArray.empty x0 x5).toList = (rdOf ByteArray.empty x1 x5).toList then (laws_eqStringS.l0 k x0 x1 (wrap64 (x5 + 1))) else (some false)) else (none)) else (none)) else (some true)
def laws_eqStringS.f (k : Nat) (l0 : List ByteArray) (l1 : List ByteArray) : Option (Bool) := if (l0.length : Int) = (l1.length : Int) then (laws_eqStringS.l0 k l0 l1 0) else (some false)
theorem laws_eqStringS.mono_l : ∀ k, (∀ y0 y1 y2, LeO (laws_eqStringS.l0 k y0 y1 y2) (laws_eqStringS.l0 (k + 1) y0 y1 y2))
 | 0 => fun _ _ _ r h => by simp [laws_eqStringS.l0] at h
 | k + 1 => by
  have ih0 := laws_eqStringS.mono_l k
  ·intro y0 y1 y2
   unfold laws_eqStringS.l0
   exact zM
theorem laws_eqStringS.mono : ∀ a0 a1 k, LeO (laws_eqStringS.f k a0 a1) (laws_eqStringS.f (k + 1) a0 a1) := by
 intro a0 a1 k
 have ih0 := laws_eqStringS.mono_l k
 unfold laws_eqStringS.f
 exact zM
theorem laws_eqStringS.calls (k : Nat) (A0 : Option Addr) (c0 : Nat) (l0 : List ByteArray) (A1 : Option Addr) (c1 : Nat) (l1 : List ByteArray) (r : Bool) (w : World) (hr0 : Kd.C Kd.string w A0 l0.length l0) (hc0 : l0.length ≤ c0) (hr1 : Kd.C Kd.string w A1 l1.length l1) (hc1 : l1.length ≤ c1) (h : laws_eqStringS.f k l0 l1 = some r) :
 Calls Tryz.prog 14 #[.slice A0 l0.length c0, .slice A1 l1.length c1] w fun e w' => e = .returned (.bool r) ∧ Below w.heap.size w w' := by
 have HR0 := zz hr0
 have HC0 := zz hc0
 clear hr0 hc0
 have HR1 := zz hr1
 have HC1 := zz hc1
 clear hr1 hc1
 have HB := zz (Below.refl w.heap.size w)
 unfold laws_eqStringS.f at h
 have H := h
 clear h
 replace HB := HB.out
 have HW := zz (Below.refl w.heap.size w)
 go_enter Tryz.func14, Tryz.ntmps14
 by_cases c3 : (l0.length : Int) = (l1.length : Int)
 case neg =>
  rw [if_neg c3] at H
  obtain ⟨c3b0, c3b1⟩ := zw c3
  have c3b2 : (l0.length == l1.length) = false := by first | simpa using c3 | (simp at c3 ⊢; omega)
  obtain rfl := zi H
  go_wp2_with (fail)
  go_ret
  exact ⟨ze, zv HW.out HB⟩
 rw [if_pos c3] at H
 obtain ⟨c3b0, c3b1⟩ := zq c3
 have c3b2 : (l0.length == l1.length) = true := by first | simpa using c3 | (simp at c3 ⊢; omega)
 clear c3
 go_wp2_with (fail)
 go_loopg [5] k (fun kq v5 w' => ∃ (x5_kl4 : Int), v5 = .int .i64 x5_kl4 ∧ Aside0 (laws_eqStringS.l0 kq l0 l1 x5_kl4 = some r) ∧ Aside0 (kq ≤ k) ∧ Aside0 (Below w.heap.size w w'))
 case atStart => exact ⟨(0), zr, ⟨H⟩, ⟨Nat.le_refl _⟩, ⟨HB⟩⟩
 case round =>
  clear H HB
  obtain ⟨x5_kl4, rfl, H, HKkl4, HB⟩ := hrel
  replace HB := HB.out
  replace H := H.out
  have HLkl4 := zz (Below.refl w.heap.size w)
  cases gk with
  | zero => exact absurd H (by simp [laws_eqStringS.l0])
  | succ kl4 =>
   simp only [laws_eqStringS.l0] at H
   by_cases c5 : x5_kl4 < (l0.length : Int)
   case neg =>
    rw [if_neg c5] at H
    have c5b0 := z0 c5
    clear c5
    obtain rfl := zi H
    go_wp2_with (fail)
    go_ret
    exact ⟨ze, zv HW.out HB⟩
   rw [if_pos c5] at H
   have c5b0 := z1 c5
   clear c5
   go_wp2_with (fail)
   try simp only [Act.put, List.setIfInBounds_toArray, List.set_cons_zero, List.set_cons_succ]
   refine wp_region_inv_lit (C := fun W_ => Below w.heap.size w W_) zk zk (below_drew1 HB) ?_
   by_cases c6 : 0 ≤ x5_kl4
   case neg => exact zno H c6
   rw [if_pos c6] at H
   have c6b0 := z1 c6
   clear c6
   have p589 : 0 ≤ (x5_kl4 : Int) := z2
   have q589 : (x5_kl4 : Int) < (l0.length : Int) := z2
   obtain ⟨ad589, e589, hx589_0⟩ := Kd.at_string HR0.out x5_kl4 p589 q589
   cases e589
   replace hx589_0 := cellB hx589_0
   replace p589 := eq_true p589
   replace q589 := eq_true q589
   by_cases c7 : x5_kl4 < (l1.length : Int)
   case neg => exact zno H c7
   rw [if_pos c7] at H
   have c7b0 := z1 c7
   clear c7
   have p590 : 0 ≤ (x5_kl4 : Int) := z2
   have q590 : (x5_kl4 : Int) < (l1.length : Int) := z2
   obtain ⟨ad590, e590, hx590_0⟩ := Kd.at_string HR1.out x5_kl4 p590 q590
   cases e590
   replace hx590_0 := cellB hx590_0
   replace p590 := eq_true p590
   replace q590 := eq_true q590
   by_cases c8 : (rdOf ByteArray.empty l0 x5_kl4).toList = (rdOf ByteArray.empty l1 x5_kl4).toList
   case neg =>
    rw [if_neg c8] at H
    obtain ⟨c8b0, c8b1⟩ := zw c8
    obtain rfl := zi H
    repeat (first | go_big_quiet_skip | (go_big_quiet_want; go_big_quiet_op; first | go_big_quiet_on | (refine zE ?_; go_big_quiet_on)))
    clear HB
    refine zW fun w10 (HB : Below w.heap.size w w10) => ?_
    go_wp2_with (fail)
    go_ret
    exact ⟨ze, zv HW.out HB⟩
   rw [if_pos c8] at H
   obtain ⟨c8b0, c8b1⟩ := zq c8
   clear c8
   repeat (first | go_big_quiet_skip | (go_big_quiet_want; go_big_quiet_op; first | go_big_quiet_on | (refine zE ?_; go_big_quiet_on)))
   clear HB
   refine zW fun w9 (HB : Below w.heap.size w w9) => ?_
   go_wp2_with (fail)
   go_roundg kl4
   case measure => have := HKkl4.out; omega
   case rel => exact ⟨(wrap64 (x5_kl4 + 1)), zr, ⟨H⟩, ⟨by have := HKkl4.out; omega⟩, ⟨zv HLkl4.out HB⟩⟩
def laws_eqEntry.f (a0_0 : ByteArray) (a0_1 : Int) (a0_2 : ByteArray) (a0_3 : Bool) (a1_0 : ByteArray) (a1_1 : Int) (a1_2 : ByteArray) (a1_3 : Bool) : Option (Bool) := if a0_0.toList = a1_0.toList then (if a0_1 = a1_1 then (if a0_2.toList = a1_2.toList then (if (a0_3 != a1_3) = true then (some false) else (some true)) else (some false)) else (some false)) else (some false)
theorem laws_eqEntry.calls (a0_0 : ByteArray) (a0_1 : Int) (a0_2 : ByteArray) (a0_3 : Bool) (a1_0 : ByteArray) (a1_1 : Int) (a1_2 : ByteArray) (a1_3 : Bool) (r : Bool) (w : World) (h : laws_eqEntry.f a0_0 a0_1 a0_2 a0_3 a1_0 a1_1 a1_2 a1_3 = some r) :
 Calls Tryz.prog 67 #[.agg #[.string a0_0, .int .i64 a0_1, .string a0_2, .bool a0_3], .agg #[.string a1_0, .int .i64 a1_1, .string a1_2, .bool a1_3]] w fun e w' => e = .returned (.bool r) ∧ Below w.heap.size w w' := by
 have hu96 := Tryz.underlying96
 have HB := zz (Below.refl w.heap.size w)
 unfold laws_eqEntry.f at h
 have H := h
 clear h
 replace HB := HB.out
 have HW := zz (Below.refl w.heap.size w)
 go_enter Tryz.func67, Tryz.ntmps67
 by_cases c3 : a0_0.toList = a1_0.toList
 case neg =>
  rw [if_neg c3] at H
  obtain ⟨c3b0, c3b1⟩ := zw c3
  obtain rfl := zi H
  go_wp2_with (first | (refine zN 2 ?_; (try (refine z4 ?_; dsimp only)); refine zX 2 96 #[.string a0_0, .int .i64 a0_1, .string a0_2, .bool a0_3] ?_; intro gb591 hg w15 hbox hb; have hst := zv HB hb; clear hg hb HB; replace HW := zz (zv HW.out hst); obtain ⟨hbx591_0, hbx591_1, hbx591_2, hbx591_3⟩ := zx4 hbox; have HB := Below.refl w15.heap.size w15; clear hbox hst) | (refine zN 3 ?_; (try (refine z4 ?_; dsimp only)); refine zX 3 96 #[.string a1_0, .int .i64 a1_1, .string a1_2, .bool a1_3] ?_; intro gb592 hg w16 hbox hb; have hst := zv HB hb; clear hg hb HB; replace HW := zz (zv HW.out hst); replace hbx591_0 := rebase hbx591_0 hst; replace hbx591_1 := rebase hbx591_1 hst; replace hbx591_2 := rebase hbx591_2 hst; replace hbx591_3 := rebase hbx591_3 hst; obtain ⟨hbx592_0, hbx592_1, hbx592_2, hbx592_3⟩ := zx4 hbox; have HB := Below.refl w16.heap.size w16; clear hbox hst))
  go_ret
  exact ⟨ze, zv HW.out HB⟩
 rw [if_pos c3] at H
 obtain ⟨c3b0, c3b1⟩ := zq c3
 clear c3
 by_cases c4 : a0_1 = a1_1
 case neg =>
  rw [if_neg c4] at H
  obtain ⟨c4b0, c4b1⟩ := zw c4
  obtain rfl := zi H
  go_wp2_with (first | (refine zN 2 ?_; (try (refine z4 ?_; dsimp only)); refine zX 2 96 #[.string a0_0, .int .i64 a0_1, .string a0_2, .bool a0_3] ?_; intro gb591 hg w13 hbox hb; have hst := zv HB hb; clear hg hb HB; replace HW := zz (zv HW.out hst); obtain ⟨hbx591_0, hbx591_1, hbx591_2, hbx591_3⟩ := zx4 hbox; have HB := Below.refl w13.heap.size w13; clear hbox hst) | (refine zN 3 ?_; (try (refine z4 ?_; dsimp only)); refine zX 3 96 #[.string a1_0, .int .i64 a1_1, .string a1_2, .bool a1_3] ?_; intro gb592 hg w14 hbox hb; have hst := zv HB hb; clear hg hb HB; replace HW := zz (zv HW.out hst); replace hbx591_0 := rebase hbx591_0 hst; replace hbx591_1 := rebase hbx591_1 hst; replace hbx591_2 := rebase hbx591_2 hst; replace hbx591_3 := rebase hbx591_3 hst; obtain ⟨hbx592_0, hbx592_1, hbx592_2, hbx592_3⟩ := zx4 hbox; have HB := Below.refl w14.heap.size w14; clear hbox hst))
  go_ret
  exact ⟨ze, zv HW.out HB⟩
 rw [if_pos c4] at H
 obtain ⟨c4b0, c4b1⟩ := zq c4
 clear c4
 by_cases c5 : a0_2.toList = a1_2.toList
 case neg =>
  rw [if_neg c5] at H
  obtain ⟨c5b0, c5b1⟩ := zw c5
  obtain rfl := zi H
  go_wp2_with (first | (refine zN 2 ?_; (try (refine z4 ?_; dsimp only)); refine zX 2 96 #[.string a0_0, .int .i64 a0_1, .string a0_2, .bool a0_3] ?_; intro gb591 hg w11 hbox hb; have hst := zv HB hb; clear hg hb HB; replace HW := zz (zv HW.out hst); obtain ⟨hbx591_0, hbx591_1, hbx591_2, hbx591_3⟩ := zx4 hbox; have HB := Below.refl w11.heap.size w11; clear hbox hst) | (refine zN 3 ?_; (try (refine z4 ?_; dsimp only)); refine zX 3 96 #[.string a1_0, .int .i64 a1_1, .string a1_2, .bool a1_3] ?_; intro gb592 hg w12 hbox hb; have hst := zv HB hb; clear hg hb HB; replace HW := zz (zv HW.out hst); replace hbx591_0 := rebase hbx591_0 hst; replace hbx591_1 := rebase hbx591_1 hst; replace hbx591_2 := rebase hbx591_2 hst; replace hbx591_3 := rebase hbx591_3 hst; obtain ⟨hbx592_0, hbx592_1, hbx592_2, hbx592_3⟩ := zx4 hbox; have HB := Below.refl w12.heap.size w12; clear hbox hst))
  go_ret
  exact ⟨ze, zv HW.out HB⟩
 rw [if_pos c5] at H
 obtain ⟨c5b0, c5b1⟩ := zq c5
 clear c5
 by_cases c6 : (a0_3 != a1_3) = true
 case neg =>
  rw [if_neg c6] at H
  have c6b0 : (a0_3 != a1_3) = false := by simpa using c6
  (try (have c6b1 : decide (a0_3 = a1_3) = true := by simpa using c6))
  (try (have c6b2 : (a0_3 == a1_3) = true := by simpa using c6))
  clear c6
  obtain rfl := zi H
  go_wp2_with (first | (refine zN 2 ?_; (try (refine z4 ?_; dsimp only)); refine zX 2 96 #[.string a0_0, .int .i64 a0_1, .string a0_2, .bool a0_3] ?_; intro gb591 hg w9 hbox hb; have hst := zv HB hb; clear hg hb HB; replace HW := zz (zv HW.out hst); obtain ⟨hbx591_0, hbx591_1, hbx591_2, hbx591_3⟩ := zx4 hbox; have HB := Below.refl w9.heap.size w9; clear hbox hst) | (refine zN 3 ?_; (try (refine z4 ?_; dsimp only)); refine zX 3 96 #[.string a1_0, .int .i64 a1_1, .string a1_2, .bool a1_3] ?_; intro gb592 hg w10 hbox hb; have hst := zv HB hb; clear hg hb HB; replace HW := zz (zv HW.out hst); replace hbx591_0 := rebase hbx591_0 hst; replace hbx591_1 := rebase hbx591_1 hst; replace hbx591_2 := rebase hbx591_2 hst; replace hbx591_3 := rebase hbx591_3 hst; obtain ⟨hbx592_0, hbx592_1, hbx592_2, hbx592_3⟩ := zx4 hbox; have HB := Below.refl w10.heap.size w10; clear hbox hst))
  go_ret
  exact ⟨ze, zv HW.out HB⟩
 rw [if_pos c6] at H
 have c6b0 : (a0_3 != a1_3) = true := c6
 (try (have c6b1 : decide (a0_3 = a1_3) = false := by simpa using c6))
 (try (have c6b2 : (a0_3 == a1_3) = false := by simpa using c6))
 (try (have c6b3 : ¬ (a0_3 = a1_3) := by simpa using c6))
 clear c6
 obtain rfl := zi H
 go_wp2_with (first | (refine zN 2 ?_; (try (refine z4 ?_; dsimp only)); refine zX 2 96 #[.string a0_0, .int .i64 a0_1, .string a0_2, .bool a0_3] ?_; intro gb591 hg w7 hbox hb; have hst := zv HB hb; clear hg hb HB; replace HW := zz (zv HW.out hst); obtain ⟨hbx591_0, hbx591_1, hbx591_2, hbx591_3⟩ := zx4 hbox; have HB := Below.refl w7.heap.size w7; clear hbox hst) | (refine zN 3 ?_; (try (refine z4 ?_; dsimp only)); refine zX 3 96 #[.string a1_0, .int .i64 a1_1, .string a1_2, .bool a1_3] ?_; intro gb592 hg w8 hbox hb; have hst := zv HB hb; clear hg hb HB; replace HW := zz (zv HW.out hst); replace hbx591_0 := rebase hbx591_0 hst; replace hbx591_1 := rebase hbx591_1 hst; replace hbx591_2 := rebase hbx591_2 hst; replace hbx591_3 := rebase hbx591_3 hst; obtain ⟨hbx592_0, hbx592_1, hbx592_2, hbx592_3⟩ := zx4 hbox; have HB := Below.refl w8.heap.size w8; clear hbox hst))
 go_ret
 exact ⟨ze, zv HW.out HB⟩
def laws_eqEntryS.l0 : Nat → List (S96) → List (S96) → Int → Option (Bool)
 | 0, _, _, _ => none
 | k + 1, x0, x1, x5 => if x5 < (x0.length : Int) then (if 0 ≤ x5 then (if x5 < (x1.length : Int) then ((laws_eqEntry.f ((rd_T96 x0 x5).f0) ((rd_T96 x0 x5).f1) ((rd_T96 x0 x5).f2) ((rd_T96 x0 x5).f3) ((rd_T96 x1 x5).f0) ((rd_T96 x1 x5).f1) ((rd_T96 x1 x5).f2) ((rd_T96 x1 x5).f3)).bind fun t595 => (if t595 = true then (laws_eqEntryS.l0 k x0 x1 (wrap64 (x5 + 1))) else (some false))) else (none)) else (none)) else (some true)
def laws_eqEntryS.f (k : Nat) (l0 : List (S96)) (l1 : List (S96)) : Option (Bool) := if (l0.length : Int) = (l1.length : Int) then (laws_eqEntryS.l0 k l0 l1 0) else (some false)
theorem laws_eqEntryS.mono_l : ∀ k, (∀ y0 y1 y2, LeO (laws_eqEntryS.l0 k y0 y1 y2) (laws_eqEntryS.l0 (k + 1) y0 y1 y2))
 | 0 => fun _ _ _ r h => by simp [laws_eqEntryS.l0] at h
 | k + 1 => by
  have ih0 := laws_eqEntryS.mono_l k
  ·intro y0 y1 y2
   unfold laws_eqEntryS.l0
   exact zM
theorem laws_eqEntryS.mono : ∀ a0 a1 k, LeO (laws_eqEntryS.f k a0 a1) (laws_eqEntryS.f (k + 1) a0 a1) := by
 intro a0 a1 k
 have ih0 := laws_eqEntryS.mono_l k
 unfold laws_eqEntryS.f
 exact zM
theorem laws_eqEntryS.calls (k : Nat) (A0 : Option Addr) (c0 : Nat) (l0 : List (S96)) (A1 : Option Addr) (c1 : Nat) (l1 : List (S96)) (r : Bool) (w : World) (hr0 : Kd.C k96 w A0 l0.length l0) (hc0 : l0.length ≤ c0) (hr1 : Kd.C k96 w A1 l1.length l1) (hc1 : l1.length ≤ c1) (h : laws_eqEntryS.f k l0 l1 = some r) :
 Calls Tryz.prog 22 #[.slice A0 l0.length c0, .slice A1 l1.length c1] w fun e w' => e = .returned (.bool r) ∧ Below w.heap.size w w' := by
 have hu96 := Tryz.underlying96
 have HR0 := zz hr0
 have HC0 := zz hc0
 clear hr0 hc0
 have HR1 := zz hr1
 have HC1 := zz hc1
 clear hr1 hc1
 have HB := zz (Below.refl w.heap.size w)
 unfold laws_eqEntryS.f at h
 have H := h
 clear h
 replace HB := HB.out
 have HW := zz (Below.refl w.heap.size w)
 go_enter Tryz.func22, Tryz.ntmps22
 by_cases c3 : (l0.length : Int) = (l1.length : Int)
 case neg =>
  rw [if_neg c3] at H
  obtain ⟨c3b0, c3b1⟩ := zw c3
  have c3b2 : (l0.length == l1.length) = false := by first | simpa using c3 | (simp at c3 ⊢; omega)
  obtain rfl := zi H
  go_wp2_with (fail)
  go_ret
  exact ⟨ze, zv HW.out HB⟩
 rw [if_pos c3] at H
 obtain ⟨c3b0, c3b1⟩ := zq c3
 have c3b2 : (l0.length == l1.length) = true := by first | simpa using c3 | (simp at c3 ⊢; omega)
 clear c3
 go_wp2_with (fail)
 go_loopg [5] k (fun kq v5 w' => ∃ (x5_kl4 : Int), v5 = .int .i64 x5_kl4 ∧ Aside0 (laws_eqEntryS.l0 kq l0 l1 x5_kl4 = some r) ∧ Aside0 (kq ≤ k) ∧ Aside0 (Below w.heap.size w w'))
 case atStart => exact ⟨(0), zr, ⟨H⟩, ⟨Nat.le_refl _⟩, ⟨HB⟩⟩
 case round =>
  clear H HB
  obtain ⟨x5_kl4, rfl, H, HKkl4, HB⟩ := hrel
  replace HB := HB.out
  replace H := H.out
  have HLkl4 := zz (Below.refl w.heap.size w)
  cases gk with
  | zero => exact absurd H (by simp [laws_eqEntryS.l0])
  | succ kl4 =>
   simp only [laws_eqEntryS.l0] at H
   by_cases c5 : x5_kl4 < (l0.length : Int)
   case neg =>
    rw [if_neg c5] at H
    have c5b0 := z0 c5
    clear c5
    obtain rfl := zi H
    go_wp2_with (fail)
    go_ret
    exact ⟨ze, zv HW.out HB⟩
   rw [if_pos c5] at H
   have c5b0 := z1 c5
   clear c5
   go_wp2_with (fail)
   try simp only [Act.put, List.setIfInBounds_toArray, List.set_cons_zero, List.set_cons_succ]
   refine wp_region_inv_lit (C := fun W_ => Below w.heap.size w W_) zk zk (below_drew1 HB) ?_
   by_cases c6 : 0 ≤ x5_kl4
   case neg => exact zno H c6
   rw [if_pos c6] at H
   have c6b0 := z1 c6
   clear c6
   have p593 : 0 ≤ (x5_kl4 : Int) := z2
   have q593 : (x5_kl4 : Int) < (l0.length : Int) := z2
   obtain ⟨ad593, e593, hx593_0, hx593_1, hx593_2, hx593_3⟩ := at_T96 HR0.out x5_kl4 p593 q593
   cases e593
   replace hx593_0 := cellB hx593_0
   replace hx593_1 := cellB hx593_1
   replace hx593_2 := cellB hx593_2
   replace hx593_3 := cellB hx593_3
   replace p593 := eq_true p593
   replace q593 := eq_true q593
   by_cases c7 : x5_kl4 < (l1.length : Int)
   case neg => exact zno H c7
   rw [if_pos c7] at H
   have c7b0 := z1 c7
   clear c7
   have p594 : 0 ≤ (x5_kl4 : Int) := z2
   have q594 : (x5_kl4 : Int) < (l1.length : Int) := z2
   obtain ⟨ad594, e594, hx594_0, hx594_1, hx594_2, hx594_3⟩ := at_T96 HR1.out x5_kl4 p594 q594
   cases e594
   replace hx594_0 := cellB hx594_0
   replace hx594_1 := cellB hx594_1
   replace hx594_2 := cellB hx594_2
   replace hx594_3 := cellB hx594_3
   replace p594 := eq_true p594
   replace q594 := eq_true q594
   replace H := zf H
   obtain ⟨t595, A8, H⟩ := H
   try dsimp only at H
   replace A8 := zz A8
   by_cases c9 : t595 = true
   ·subst c9
    rw [if_pos rfl] at H
    repeat (first | go_big_quiet_skip | (go_big_quiet_want; go_big_quiet_op; first | go_big_quiet_on | (with_reducible apply Exists.intro; refine ⟨fun W hW => ?_, ?_⟩; (first | with_reducible rfl | (go_at_call 67; exact callB (laws_eqEntry.calls _ _ _ _ _ _ _ _ _ _  A8.out) hW) | (go_simp; with_reducible rfl)); go_big_quiet_on)))
    clear HB
    refine zW fun w10 (HB : Below w.heap.size w w10) => ?_
    go_wp2_with (fail)
    go_roundg kl4
    case measure => have := HKkl4.out; omega
    case rel => exact ⟨(wrap64 (x5_kl4 + 1)), zr, ⟨H⟩, ⟨by have := HKkl4.out; omega⟩, ⟨zv HLkl4.out HB⟩⟩
   replace c9 := Bool.eq_false_iff.mpr c9
   subst c9
   rw [if_neg (by decide)] at H
   obtain rfl := zi H
   repeat (first | go_big_quiet_skip | (go_big_quiet_want; go_big_quiet_op; first | go_big_quiet_on | (with_reducible apply Exists.intro; refine ⟨fun W hW => ?_, ?_⟩; (first | with_reducible rfl | (go_at_call 67; exact callB (laws_eqEntry.calls _ _ _ _ _ _ _ _ _ _  A8.out) hW) | (go_simp; with_reducible rfl)); go_big_quiet_on)))
   clear HB
   refine zW fun w11 (HB : Below w.heap.size w w11) => ?_
   go_wp2_with (fail)
   go_ret
   exact ⟨ze, zv HW.out HB⟩
end Go.Proofs.YtcekmnclmldmmaaGreatDoor.Q
