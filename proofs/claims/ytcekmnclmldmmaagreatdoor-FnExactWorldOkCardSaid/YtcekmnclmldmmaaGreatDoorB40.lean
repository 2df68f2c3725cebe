import Derived.Test.YtcekmnclmldmmaaGreatDoorB39
set_option linter.unusedVariables false
set_option linter.unusedSimpArgs false
namespace Go.Proofs.YtcekmnclmldmmaaGreatDoor.Q
open Go.RowKit W1 W2 W3
attribute [local go_sem] max2_int min2_int max_two min_two max_three min_three max_four min_four
attribute [local go_sem high] bl_leq bl_gtr bl_geq
set_option maxHeartbeats 8000000
set_option maxRecDepth 100000
def laws_toGenS.l0 : Nat → List (S161) → List (S70) → Int → Option ((List (S70)))
 | 0, _, _, _ => none
 | k + 1, x0, x3, x4 => if x4 < (x0.length : Int) then (if 0 ≤ x4 then ((laws_toGen.f ((rd_T161 x0 x4).f0) ((rd_T161 x0 x4).f1)).bind fun bt379 => (if x4 < (x3.length : Int) then (laws_toGenS.l0 k x0 (x3.set (x4 : Int).toNat (⟨bt379.1, bt379.2⟩ : S70)) (wrap64 (x4 + 1))) else (none))) else (none)) else (some x3)
def laws_toGenS.f (k : Nat) (l0 : List (S161)) : Option ((List (S70))) := if 0 ≤ (l0.length : Int) then (if ((l0.length : Int) : Int).toNat ≤ 11728124029610 then (laws_toGenS.l0 k l0 (List.replicate ((l0.length : Int) : Int).toNat z70) 0) else (none)) else (none)
theorem laws_toGenS.mono_l : ∀ k, (∀ y0 y1 y2, LeO (laws_toGenS.l0 k y0 y1 y2) (laws_toGenS.l0 (k + 1) y0 y1 y2))
 | 0 => fun _ _ _ r h => by simp [laws_toGenS.l0] at h
 | k + 1 => by
  have ih0 := laws_toGenS.mono_l k
  ·intro y0 y1 y2
   unfold laws_toGenS.l0
   exact zM
theorem laws_toGenS.mono : ∀ a0 k, LeO (laws_toGenS.f k a0) (laws_toGenS.f (k + 1) a0) := by
 intro a0 k
 have ih0 := laws_toGenS.mono_l k
 unfold laws_toGenS.f
 exact zM
theorem laws_toGenS.calls (k : Nat) (A0 : Option Addr) (c0 : Nat) (l0 : List (S161)) (r : List (S70)) (w : World) (hr0 : Kd.C k161 w A0 l0.length l0) (hc0 : l0.length ≤ c0) (h : laws_toGenS.f k l0 = some r) :
 Calls Tryz.prog 124 #[.slice A0 l0.length c0] w fun e w' => ∃ v0_ : Value, e = .returned (v0_) ∧ Kd.R k70 70 w' w.heap.size (fun _ => True) v0_ r ∧ Below w.heap.size w w' := by
 have hu161 := Tryz.underlying161
 have hu70 := Tryz.underlying70
 have HR0 := zz hr0
 have HC0 := zz hc0
 clear hr0 hc0
 have HB := zz (Below.refl w.heap.size w)
 unfold laws_toGenS.f at h
 have H := h
 clear h
 by_cases c2 : 0 ≤ (l0.length : Int)
 case neg => exact zno H c2
 rw [if_pos c2] at H
 have c2b0 := eq_true c2
 have c2b1 := z1 c2
 clear c2
 by_cases c3 : ((l0.length : Int) : Int).toNat ≤ 11728124029610
 case neg => exact zno H c3
 rw [if_pos c3] at H
 have c3b0 := eq_true c3
 have c3b1 := z1 c3
 clear c3
 obtain ⟨y375, hy375⟩ : ∃ y_ : List (S70), y_ = (List.replicate ((l0.length : Int) : Int).toNat z70) := ⟨_, rfl⟩
 replace H : (laws_toGenS.l0 k l0 y375 0) = some r := by first | (rw [hy375]; with_reducible exact H) | (have H2_ := (Option.bind_some _ _).symm.trans H; rw [hy375]; with_reducible exact H2_) | (have H2_ := (Option.bind_some _ _).symm.trans H; with_reducible exact H2_) | with_reducible exact H | (rw [hy375]; exact H) | exact H
 have Ny375 := zz hy375
 clear hy375
 have H' := zz H
 clear H
 go_enter Tryz.func124, Tryz.ntmps124
 go_wp2_with (first | (refine zN 7 ?_; refine Kd.R_make k70 _ 70 rfl (N := 7) rfl 65 _ _ rfl (l0.length : Int) rfl rfl Tryz.underlying65 (.agg #[(.int .i64 0), (.string ⟨#[]⟩)]) 24 info70 rfl (by decide) (by omega) z70 (ok := fun _ => True) (okp := fun _ => True) (k70_mkM _ _ _ z70 ) (fun _ hk => hk) trivial (z2) (Nat.le_trans (Nat.mul_le_mul_right _ (z2 : (l0.length : Int).toNat ≤ 11728124029610)) (by omega)) (Below.refl _ _) (Nat.le_refl _) ?_; intro v376 w4 ho5 hb hg_ hnew_; clear hg_ hnew_; (first | rw [← Ny375.out] at ho5 | (simp only [Int.reduceToNat] at ho5; rw [← Ny375.out] at ho5)); have HO377 := zz (Kd.R_lower ho5 (below_size zb)); replace HB := zz (zv zb hb); clear hb ho5))
 go_loopg [4] k (fun kq v4 w' => ∃ (x3_1 : List (S70)) (x4_1 : Int), v4 = .int .i64 x4_1 ∧ Aside0 (laws_toGenS.l0 kq l0 x3_1 x4_1 = some r) ∧ Aside0 (kq ≤ k) ∧ Aside0 (Kd.R k70 70 w' w.heap.size (fun _ => True) v376 x3_1) ∧ Aside0 (Below w.heap.size w w'))
 case atStart => exact ⟨(y375), (0), zr, H', ⟨Nat.le_refl _⟩, ⟨by (with_reducible repeat (first | apply Kd.R_alloc | apply Kd.R_drewN | apply Kd.R_drew)); exact HO377.out⟩, ⟨zb⟩⟩
 case round =>
  clear H'
  try clear c1
  try clear c2
  try clear c2b0
  try clear c2b1
  try clear p2
  try clear c3
  try clear c3b0
  try clear c3b1
  obtain ⟨x3_1, x4_1, rfl, HA, HK1, HO_3, HB⟩ := hrel
  cases gk with
  | zero => exact absurd HA.out (by simp [laws_toGenS.l0])
  | succ k1 =>
   have H := HA.out
   clear HA
   simp only [laws_toGenS.l0] at H
   by_cases c6 : x4_1 < (l0.length : Int)
   case neg =>
    rw [if_neg c6] at H
    have c6b0 := z0 c6
    clear c6
    obtain rfl := zi H
    go_wp2
    go_ret
    exact ⟨_, ze, by (with_reducible repeat (first | apply Kd.R_alloc | apply Kd.R_drewN | apply Kd.R_drew)); exact HO_3.out, zb⟩
   rw [if_pos c6] at H
   have c6b0 := z1 c6
   clear c6
   by_cases c7 : 0 ≤ x4_1
   case neg => exact zno H c7
   rw [if_pos c7] at H
   have c7b0 := z1 c7
   clear c7
   replace H := zf H
   obtain ⟨⟨t379, t380⟩, A80, H⟩ := H
   try dsimp only at H
   have A8 := zz A80
   clear A80
   by_cases c9 : x4_1 < (x3_1.length : Int)
   case neg => exact zno H c9
   rw [if_pos c9] at H
   have c9b0 := z1 c9
   clear c9
   obtain ⟨y381, hy381⟩ : ∃ y_ : List (S70), y_ = (x3_1.set (x4_1 : Int).toNat (⟨t379, t380⟩ : S70)) := ⟨_, rfl⟩
   replace H : (laws_toGenS.l0 k1 l0 y381 (wrap64 (x4_1 + 1))) = some r := by first | (rw [hy381]; with_reducible exact H) | (have H2_ := (Option.bind_some _ _).symm.trans H; rw [hy381]; with_reducible exact H2_) | (have H2_ := (Option.bind_some _ _).symm.trans H; with_reducible exact H2_) | with_reducible exact H | (rw [hy381]; exact H) | exact H
   have Ny381 := zz hy381
   clear hy381
   have H' := zz H
   clear H
   have p378 : 0 ≤ (x4_1 : Int) := z2
   have q378 : x4_1 < (l0.length : Int) := z2
   obtain ⟨ad378, e378, hx378_0, hx378_1⟩ := at_T161 HR0.out x4_1 p378 q378
   cases e378
   replace hx378_0 := z3 HB.out hx378_0
   replace hx378_1 := z3 HB.out hx378_1
   replace p378 := eq_true p378
   replace q378 := eq_true q378
   go_wp2_with (first | (refine zL 144 20 Tryz.func144 #[.agg #[.int .i64 ((rd_T161 l0 x4_1).f0), .string ((rd_T161 l0 x4_1).f1)]] ?_; (with_reducible refine (laws_toGen.calls ((rd_T161 l0 x4_1).f0) ((rd_T161 l0 x4_1).f1) t379 t380 _ A8.out).mono ?_); rintro e w11 ⟨rfl, hb⟩; refine ⟨_, rfl, ?_⟩; replace HO_3 := zz (Kd.R_below (zR HO_3.out) hb); replace HB := zz (zv zb hb); (try clear hb); (try clear hb2); (try clear hk); (try clear hi); have p10 : 0 ≤ (x4_1 : Int) := z2; have q10 : (x4_1 : Int) < ((x3_1.length : Int) : Int) := z2; obtain ⟨go10, co10, eo10, gb10, gl10, cl10, HG10⟩ := Kd.R_form HO_3.out (by omega); (first | cases eo10 | (injection eo10 with ea_ en_ ec_; (first | subst ea_ | (injection ea_ with ea_; subst ea_)); subst ec_; clear en_)); have GB10 := zz gb10; have GG10 := zz HG10; clear gb10 gl10 HG10; obtain ⟨ce10, hcl10, hM10, hcc10, hfr10⟩ := Kd.R_elem HO_3.out z70 (x4_1 : Int) p10 q10; obtain rfl := k70_openM hM10; have hx10_0 : w11.cell? ⟨go10, (x4_1 : Int).toNat * 2, none⟩ = some (.int .i64 ((rd_T70 x3_1 x4_1).f0)) := hcc10 0 _ rfl; have hx10_1 : w11.cell? ⟨go10, (x4_1 : Int).toNat * 2 + 1, none⟩ = some (.string ((rd_T70 x3_1 x4_1).f1)) := hcc10 1 _ rfl; have hf10_0 : w11.frozen? ⟨go10, (x4_1 : Int).toNat * 2, none⟩ = false := hfr10 0; have hf10_1 : w11.frozen? ⟨go10, (x4_1 : Int).toNat * 2 + 1, none⟩ = false := hfr10 1; clear hcl10 hcc10 hfr10 hM10; replace p10 := eq_true p10; replace q10 := eq_true q10; have HX12 := zz (show Kd.R k70 70 w11 w.heap.size (fun _ => True) (.slice (some ⟨go10, 0, none⟩) x3_1.length co10) x3_1 from (zR HO_3.out)); obtain ⟨ce12, hcl12, hM12, hcc12, hfr12⟩ := Kd.R_elem HX12.out z70 (x4_1 : Int) (z2) (by have h_ : (x4_1 : Int) < ((x3_1.length : Int) : Int) := z2; first | exact h_ | (have e_ := (Kd.R_reads' HO_3.out).1; omega) | simpa using h_); obtain rfl := k70_openM hM12; have HP12 := Kd.R_seg HX12.out (x4_1 : Int) (z2) (by have h_ : (x4_1 : Int) < ((x3_1.length : Int) : Int) := z2; first | exact h_ | (have e_ := (Kd.R_reads' HO_3.out).1; omega) | simpa using h_) (seg := [.int .i64 t379, .string t380]) (j := 0) hcl12 hcc12 (show 2 ≤ 2 from by decide) (x' := (⟨t379, t380⟩ : S70)) (k70_mkM _ _ _ (⟨t379, t380⟩ : S70) ) (fun _ hk => hk); have hx12_0 := hcc12 0 _ rfl; (try simp only [show (k70).sz = 2 from rfl, Nat.mul_one, Nat.add_zero] at hx12_0); have hf12_0 := hfr12 0; (try simp only [show (k70).sz = 2 from rfl, Nat.mul_one, Nat.add_zero] at hf12_0); have hx12_1 := hcc12 1 _ rfl; (try simp only [show (k70).sz = 2 from rfl, Nat.mul_one, Nat.add_zero] at hx12_1); have hf12_1 := hfr12 1; (try simp only [show (k70).sz = 2 from rfl, Nat.mul_one, Nat.add_zero] at hf12_1); clear hcl12 hcc12 hfr12 hM12) | ((with_reducible refine gate_store (t := 70) (p := 21) rfl ?_); refine store_event (t := 70) (p := 21) (v := ?vo_w13) (w1 := ((w11.setCell ⟨go10, (x4_1 : Int).toNat * 2, none⟩ (.int .i64 t379)).setCell ⟨go10, (x4_1 : Int).toNat * 2 + 1, none⟩ (.string t380))) ?hg ?ho ?hn ?hr ?_; (case ho => rfl); (case hg => rfl); (case hn => rfl); (case hr => first | (go_simp; done) | (go_simp; rfl)); intro w13 hw; have hg : w11.grownBy w13 (some go10) := (by rw [hw]; exact HP12.2); have hp_ : Kd.R k70 70 w13 w.heap.size (fun _ => True) (.slice (some ⟨go10, 0, none⟩) x3_1.length co10) y381 := (by rw [hw, Ny381.out]; exact HP12.1); clear HP12; replace HO_3 := zz (hp_); replace HB := zz ((by rw [hw]; exact below_set (below_set (HB.out) GB10.out) GB10.out : Below w.heap.size w w13)); clear hg hw hp_))
   go_roundg k1
   case measure => have := HK1.out; omega
   case rel => exact ⟨(y381), (wrap64 (x4_1 + 1)), zr, H', ⟨by have := HK1.out; omega⟩, ⟨by (with_reducible repeat (first | apply Kd.R_alloc | apply Kd.R_drewN | apply Kd.R_drew)); exact HO_3.out⟩, ⟨zb⟩⟩
def laws_toProfile.f (k : Nat) (a0_0 : ByteArray) (a0_1 : Int) (l0_2 : List (S161)) : Option (ByteArray × Int × (List (S70))) := (laws_toGenS.f k l0_2).bind fun t385 => (some (a0_0, a0_1, t385))
theorem laws_toProfile.mono : ∀ a0 a1 a2 k, LeO (laws_toProfile.f k a0 a1 a2) (laws_toProfile.f (k + 1) a0 a1 a2) := by
 intro a0 a1 a2 k
 unfold laws_toProfile.f
 have m0 := @laws_toGenS.mono
 exact zM
theorem laws_toProfile.calls (k : Nat) (a0_0 : ByteArray) (a0_1 : Int) (A0_2 : Option Addr) (c0_2 : Nat) (l0_2 : List (S161)) (r1 : ByteArray) (r2 : Int) (r3 : List (S70)) (w : World) (hr0_2 : Kd.C k161 w A0_2 l0_2.length l0_2) (hc0_2 : l0_2.length ≤ c0_2) (h : laws_toProfile.f k a0_0 a0_1 l0_2 = some (r1, r2, r3)) :
 Calls Tryz.prog 86 #[.agg #[.string a0_0, .int .i64 a0_1, .slice A0_2 l0_2.length c0_2]] w fun e w' => ∃ v2_ : Value, e = .returned (.agg #[.string r1, .int .i64 r2, v2_]) ∧ Kd.R k70 70 w' w.heap.size (fun _ => True) v2_ r3 ∧ Below w.heap.size w w' := by
 have hu107 := Tryz.underlying107
 have hu67 := Tryz.underlying67
 have HR0_2 := zz hr0_2
 have HC0_2 := zz hc0_2
 clear hr0_2 hc0_2
 have HB := zz (Below.refl w.heap.size w)
 unfold laws_toProfile.f at h
 have H := h
 clear h
 replace H := zf H
 obtain ⟨t385, A20, H⟩ := H
 try dsimp only at H
 have A2 := zz A20
 clear A20
 simp only [Option.some.injEq, Prod.mk.injEq] at H
 obtain ⟨rfl, rfl, rfl⟩ := H
 go_enter Tryz.func86, Tryz.ntmps86
 go_wp2_with (first | (refine zX 1 107 #[.string a0_0, .int .i64 a0_1, .slice A0_2 l0_2.length c0_2] ?_; intro gb382 hg w3 hbox hb; have BK382 := zz (hbox); have GW382 := zz ((zg : w.heap.size ≤ gb382)); have GE382 := zz ((zg : w.heap.size ≤ gb382)); replace HB := zz (zv zb hb); clear hb hbox hg) | (refine zX 2 67 #[.string (⟨#[]⟩ : ByteArray), .int .i64 0, .slice none 0 0] ?_; intro gb383 hg w4 hbox hb; have BK383 := zz (hbox); have GW383 := zz ((zg : w.heap.size ≤ gb383)); have GE383 := zz ((zg : w.heap.size ≤ gb383)); replace HB := zz (zv zb hb); have NB382_383 := zz (zH BK382 hg); have NB383_382 := zz (zI BK382 hg); replace BK382 := zz (zJ BK382 hb); clear hb hbox hg) | (refine zX 3 67 #[.string (⟨#[]⟩ : ByteArray), .int .i64 0, .slice none 0 0] ?_; intro gb384 hg w5 hbox hb; have BK384 := zz (hbox); have GW384 := zz ((zg : w.heap.size ≤ gb384)); have GE384 := zz ((zg : w.heap.size ≤ gb384)); replace HB := zz (zv zb hb); have NB382_384 := zz (zH BK382 hg); have NB384_382 := zz (zI BK382 hg); replace BK382 := zz (zJ BK382 hb); have NB383_384 := zz (zH BK383 hg); have NB384_383 := zz (zI BK383 hg); replace BK383 := zz (zJ BK383 hb); clear hb hbox hg; have hnb6 := NB382_383.out; have hnc6 := NB383_382.out; have hnb7 := NB382_384.out; have hnc7 := NB384_382.out; obtain ⟨hcz8_0, hcz8_1, hcz8_2, hfz8_0, hfz8_1, hfz8_2⟩ := zc3 BK382.out; have hnb9 := NB384_383.out; have hnc9 := NB383_384.out; obtain ⟨hcz10_0, hcz10_1, hcz10_2, hfz10_0, hfz10_1, hfz10_2⟩ := zc3 BK384.out) | (refine zL 124 12 Tryz.func124 #[.slice A0_2 l0_2.length c0_2] ?_; (with_reducible refine (laws_toGenS.calls k _ _ l0_2 t385 _ ?s1 ?s2 A2.out).mono ?_); (case s1 => exact Kd.C_below HR0_2.out zb); (case s2 => exact HC0_2.out); rintro e w11 ⟨v386, rfl, ho0, hb⟩; refine ⟨_, rfl, ?_⟩; have HO387 := zz (Kd.R_lower ho0 (below_size zb)); replace BK382 := zz (blk_below (g := gb382) (o := .cells #[.string a0_0, .int .i64 a0_1, .slice A0_2 l0_2.length c0_2] 107 (0, 0)) (by (with_reducible repeat (first | refine blk_drewN ?_ _ | refine blk_drew ?_ | refine blk_alloc ?_ _)); refine blk_far ?_ NB382_384.out _; (with_reducible repeat (first | refine blk_drewN ?_ _ | refine blk_drew ?_ | refine blk_alloc ?_ _)); refine blk_far ?_ NB382_384.out _; (with_reducible repeat (first | refine blk_drewN ?_ _ | refine blk_drew ?_ | refine blk_alloc ?_ _)); exact BK382.out) hb); replace BK383 := zz (blk_below (g := gb383) (o := .cells #[.string (⟨#[]⟩ : ByteArray), .int .i64 0, .slice none 0 0] 67 (0, 0)) (by (with_reducible repeat (first | refine blk_drewN ?_ _ | refine blk_drew ?_ | refine blk_alloc ?_ _)); refine blk_far ?_ NB383_384.out _; (with_reducible repeat (first | refine blk_drewN ?_ _ | refine blk_drew ?_ | refine blk_alloc ?_ _)); refine blk_far ?_ NB383_384.out _; (with_reducible repeat (first | refine blk_drewN ?_ _ | refine blk_drew ?_ | refine blk_alloc ?_ _)); exact BK383.out) hb); replace BK384 := zz (blk_below (g := gb384) (o := .cells #[.string a0_0, .int .i64 a0_1, .slice none 0 0] 67 (0, 0)) (by (with_reducible repeat (first | refine blk_drewN ?_ _ | refine blk_drew ?_ | refine blk_alloc ?_ _)); refine blk_put (cs := #[.string a0_0, .int .i64 0, .slice none 0 0]) ?_ 1 _ rfl; (with_reducible repeat (first | refine blk_drewN ?_ _ | refine blk_drew ?_ | refine blk_alloc ?_ _)); refine blk_put (cs := #[.string (⟨#[]⟩ : ByteArray), .int .i64 0, .slice none 0 0]) ?_ 0 _ rfl; (with_reducible repeat (first | refine blk_drewN ?_ _ | refine blk_drew ?_ | refine blk_alloc ?_ _)); exact BK384.out) hb); replace HB := zz (zv zb hb); (try clear hb); (try clear hb2); (try clear hk); (try clear hi); (try clear ho0); obtain ⟨Ao12, co12, eo12⟩ := Kd.R_slice HO387.out; subst eo12; obtain ⟨hcz13_0, hcz13_1, hcz13_2, hfz13_0, hfz13_1, hfz13_2⟩ := zc3 BK384.out; obtain ⟨hcz14_0, hcz14_1, hcz14_2, hfz14_0, hfz14_1, hfz14_2⟩ := zc3 BK383.out))
 refine bodyPost_ret (results_cell_row rfl _ _ gb383 67 #[.string a0_0, .int .i64 a0_1, .slice Ao12 t385.length co12] (0, 0) _ rfl (by (with_reducible repeat (first | refine blk_drewN ?_ _ | refine blk_drew ?_ | refine blk_alloc ?_ _)); refine blk_put (cs := #[.string a0_0, .int .i64 a0_1, .slice none 0 0]) ?_ 2 _ rfl; (with_reducible repeat (first | refine blk_drewN ?_ _ | refine blk_drew ?_ | refine blk_alloc ?_ _)); refine blk_put (cs := #[.string a0_0, .int .i64 0, .slice none 0 0]) ?_ 1 _ rfl; (with_reducible repeat (first | refine blk_drewN ?_ _ | refine blk_drew ?_ | refine blk_alloc ?_ _)); refine blk_put (cs := #[.string (⟨#[]⟩ : ByteArray), .int .i64 0, .slice none 0 0]) ?_ 0 _ rfl; (with_reducible repeat (first | refine blk_drewN ?_ _ | refine blk_drew ?_ | refine blk_alloc ?_ _)); refine blk_far ?_ NB383_384.out _; (with_reducible repeat (first | refine blk_drewN ?_ _ | refine blk_drew ?_ | refine blk_alloc ?_ _)); exact BK383.out) Tryz.underlying67 rfl zk) rfl ?_
 exact ⟨_, ze, by (with_reducible repeat (first | apply Kd.R_alloc | apply Kd.R_drewN | apply Kd.R_drew)); exact Kd.R_mono (Kd.R_far (p := ⟨gb383, 2, none⟩) (Kd.R_far (p := ⟨gb383, 1, none⟩) (Kd.R_far (p := ⟨gb383, 0, none⟩) (Kd.R_far (p := ⟨gb384, 2, none⟩) (Kd.R_types (Kd.R_types HO387.out BK384.out (by decide)) BK383.out (by decide)) (fun _ hk => hk.1.2) (.slice Ao12 t385.length co12)) (fun _ hk => hk.2) (.string a0_0)) (fun _ hk => hk.2) (.int .i64 a0_1)) (fun _ hk => hk.2) (.slice Ao12 t385.length co12)) (fun _ hk => trivial), zb⟩
section
attribute [local go_sem] run_store_one
def laws_toProfileS.l0 : Nat → List (S107) → List (S67) → Int → Option ((List (S67)))
 | 0, _, _, _ => none
 | k + 1, x0, x3, x4 => if x4 < (x0.length : Int) then (if 0 ≤ x4 then ((laws_toProfile.f k ((rd_T107 x0 x4).f0) ((rd_T107 x0 x4).f1) ((rd_T107 x0 x4).f2)).bind fun bt392 => (if x4 < (x3.length : Int) then (laws_toProfileS.l0 k x0 (x3.set (x4 : Int).toNat (⟨bt392.1, bt392.2.1, bt392.2.2⟩ : S67)) (wrap64 (x4 + 1))) else (none))) else (none)) else (some x3)
def laws_toProfileS.f (k : Nat) (l0 : List (S107)) : Option ((List (S67))) := if 0 ≤ (l0.length : Int) then (if ((l0.length : Int) : Int).toNat ≤ 5864062014805 then (laws_toProfileS.l0 k l0 (List.replicate ((l0.length : Int) : Int).toNat z67) 0) else (none)) else (none)
theorem laws_toProfileS.mono_l : ∀ k, (∀ y0 y1 y2, LeO (laws_toProfileS.l0 k y0 y1 y2) (laws_toProfileS.l0 (k + 1) y0 y1 y2))
 | 0 => fun _ _ _ r h => by simp [laws_toProfileS.l0] at h
 | k + 1 => by
  have ih0 := laws_toProfileS.mono_l k
  ·intro y0 y1 y2
   unfold laws_toProfileS.l0
   have m0 := @laws_toProfile.mono
   exact zM
theorem laws_toProfileS.mono : ∀ a0 k, LeO (laws_toProfileS.f k a0) (laws_toProfileS.f (k + 1) a0) := by
 intro a0 k
 have ih0 := laws_toProfileS.mono_l k
 unfold laws_toProfileS.f
 have m0 := @laws_toProfile.mono
 exact zM
theorem laws_toProfileS.calls (k : Nat) (A0 : Option Addr) (c0 : Nat) (l0 : List (S107)) (r : List (S67)) (w : World) (hr0 : Kd.C k107 w A0 l0.length l0) (hc0 : l0.length ≤ c0) (h : laws_toProfileS.f k l0 = some r) :
 Calls Tryz.prog 39 #[.slice A0 l0.length c0] w fun e w' => ∃ v0_ : Value, e = .returned (v0_) ∧ Kd.S k67 67 w' w.heap.size (fun _ => True) v0_ r ∧ Below w.heap.size w w' := by
 have hu107 := Tryz.underlying107
 have hu67 := Tryz.underlying67
 have HR0 := zz hr0
 have HC0 := zz hc0
 clear hr0 hc0
 have HB := zz (Below.refl w.heap.size w)
 unfold laws_toProfileS.f at h
 have H := h
 clear h
 by_cases c2 : 0 ≤ (l0.length : Int)
 case neg => exact zno H c2
 rw [if_pos c2] at H
 have c2b0 := eq_true c2
 have c2b1 := z1 c2
 clear c2
 by_cases c3 : ((l0.length : Int) : Int).toNat ≤ 5864062014805
 case neg => exact zno H c3
 rw [if_pos c3] at H
 have c3b0 := eq_true c3
 have c3b1 := z1 c3
 clear c3
 obtain ⟨y388, hy388⟩ : ∃ y_ : List (S67), y_ = (List.replicate ((l0.length : Int) : Int).toNat z67) := ⟨_, rfl⟩
 replace H : (laws_toProfileS.l0 k l0 y388 0) = some r := by first | (rw [hy388]; with_reducible exact H) | (have H2_ := (Option.bind_some _ _).symm.trans H; rw [hy388]; with_reducible exact H2_) | (have H2_ := (Option.bind_some _ _).symm.trans H; with_reducible exact H2_) | with_reducible exact H | (rw [hy388]; exact H) | exact H
 have Ny388 := zz hy388
 clear hy388
 have H' := zz H
 clear H
 go_enter Tryz.func39, Tryz.ntmps39
 go_wp2_with (first | (refine zN 7 ?_; refine Kd.S_make k67 _ 67 rfl (N := 7) rfl 31 _ _ rfl (l0.length : Int) rfl rfl Tryz.underlying31 (.agg #[(.string ⟨#[]⟩), (.int .i64 0), (.slice none 0 0)]) 48 info67 rfl (by decide) (by omega) z67 (ok := fun _ => True) (okp := fun _ => True) (k67_mkM _ _ _ z67 (Kd.R_nil _ _ _ _ _)) (fun _ hk => hk) trivial (z2) (Nat.le_trans (Nat.mul_le_mul_right _ (z2 : (l0.length : Int).toNat ≤ 5864062014805)) (by omega)) (Below.refl _ _) (Nat.le_refl _) ?_; intro v389 w4 ho5 hb hg_ hnew_; clear hg_ hnew_; (first | rw [← Ny388.out] at ho5 | (simp only [Int.reduceToNat] at ho5; rw [← Ny388.out] at ho5)); have HO390 := zz (Kd.S_lower ho5 (below_size zb)); replace HB := zz (zv zb hb); clear hb ho5))
 go_loopg [4] k (fun kq v4 w' => ∃ (x3_1 : List (S67)) (x4_1 : Int), v4 = .int .i64 x4_1 ∧ Aside0 (laws_toProfileS.l0 kq l0 x3_1 x4_1 = some r) ∧ Aside0 (kq ≤ k) ∧ Aside0 (Kd.S k67 67 w' w.heap.size (fun _ => True) v389 x3_1) ∧ Aside0 (Below w.heap.size w w'))
 case atStart => exact ⟨(y388), (0), zr, H', ⟨Nat.le_refl _⟩, ⟨by (with_reducible repeat (first | apply Kd.S_alloc | apply Kd.S_drewN | apply Kd.S_drew)); exact HO390.out⟩, ⟨zb⟩⟩
 case round =>
  clear H'
  try clear c2
  try clear c2b0
  try clear c2b1
  try clear p2
  try clear c3
  try clear c3b0
  try clear c3b1
  obtain ⟨x3_1, x4_1, rfl, HA, HK1, HO_3, HB⟩ := hrel
  cases gk with
  | zero => exact absurd HA.out (by simp [laws_toProfileS.l0])
  | succ k1 =>
   have H := HA.out
   clear HA
   simp only [laws_toProfileS.l0] at H
   by_cases c6 : x4_1 < (l0.length : Int)
   case neg =>
    rw [if_neg c6] at H
    have c6b0 := z0 c6
    clear c6
    obtain rfl := zi H
    go_wp2
    go_ret
    exact ⟨_, ze, by (with_reducible repeat (first | apply Kd.S_alloc | apply Kd.S_drewN | apply Kd.S_drew)); exact HO_3.out, zb⟩
   rw [if_pos c6] at H
   have c6b0 := z1 c6
   clear c6
   by_cases c7 : 0 ≤ x4_1
   case neg => exact zno H c7
   rw [if_pos c7] at H
   have c7b0 := z1 c7
   clear c7
   replace H := zf H
   obtain ⟨⟨t392, t393, t394⟩, A80, H⟩ := H
   try dsimp only at H
   have A8 := zz A80
   clear A80
   by_cases c9 : x4_1 < (x3_1.length : Int)
   case neg => exact zno H c9
   rw [if_pos c9] at H
   have c9b0 := z1 c9
   clear c9
   obtain ⟨y397, hy397⟩ : ∃ y_ : List (S67), y_ = (x3_1.set (x4_1 : Int).toNat (⟨t392, t393, t394⟩ : S67)) := ⟨_, rfl⟩
   replace H : (laws_toProfileS.l0 k1 l0 y397 (wrap64 (x4_1 + 1))) = some r := by first | (rw [hy397]; with_reducible exact H) | (have H2_ := (Option.bind_some _ _).symm.trans H; rw [hy397]; with_reducible exact H2_) | (have H2_ := (Option.bind_some _ _).symm.trans H; with_reducible exact H2_) | with_reducible exact H | (rw [hy397]; exact H) | exact H
   have Ny397 := zz hy397
   clear hy397
   have H' := zz H
   clear H
   have p391 : 0 ≤ (x4_1 : Int) := z2
   have q391 : x4_1 < (l0.length : Int) := z2
   obtain ⟨ad391, A391_2, c391_2, e391, hx391_0, hx391_1, hx391_2, hl391_2, hi391_2⟩ := at_T107 HR0.out x4_1 p391 q391
   cases e391
   replace hx391_0 := z3 HB.out hx391_0
   replace hx391_1 := z3 HB.out hx391_1
   replace hx391_2 := z3 HB.out hx391_2
   have HR391_2 := zz hi391_2
   have HC391_2 := zz hl391_2
   clear hi391_2 hl391_2
   replace p391 := eq_true p391
   replace q391 := eq_true q391
   go_wp2_with (first | (refine zL 86 20 Tryz.func86 #[.agg #[.string ((rd_T107 l0 x4_1).f0), .int .i64 ((rd_T107 l0 x4_1).f1), .slice A391_2 ((rd_T107 l0 x4_1).f2).length c391_2]] ?_; (with_reducible refine (laws_toProfile.calls k1 ((rd_T107 l0 x4_1).f0) ((rd_T107 l0 x4_1).f1) _ _ ((rd_T107 l0 x4_1).f2) t392 t393 t394 _ ?s1 ?s2 A8.out).mono ?_); (case s1 => exact zc HR391_2.out); (case s2 => exact HC391_2.out); rintro e w11 ⟨v395, rfl, ho0, hb⟩; refine ⟨_, rfl, ?_⟩; replace HO_3 := zz (Kd.S_elder' (zS HO_3.out) (Kd.R_base ho0) hb); have HO396 := zz (Kd.R_lower ho0 (below_size zb)); replace HB := zz (zv zb hb); (try clear hb); (try clear hb2); (try clear hk); (try clear hi); (try clear ho0); have p10 : 0 ≤ (x4_1 : Int) := z2; have q10 : (x4_1 : Int) < ((x3_1.length : Int) : Int) := z2; obtain ⟨go10, co10, eo10, gb10, gl10, cl10, HG10⟩ := Kd.S_form HO_3.out (by omega); (first | cases eo10 | (injection eo10 with ea_ en_ ec_; (first | subst ea_ | (injection ea_ with ea_; subst ea_)); subst ec_; clear en_)); have GB10 := zz gb10; have GG10 := zz HG10; clear gb10 gl10 HG10; obtain ⟨_, ce10, hcl10, hM10, hcc10, hfr10, _, _⟩ := Kd.S_elem HO_3.out z67 (x4_1 : Int) p10 q10; obtain ⟨ve10_2, rfl, ge10_2⟩ := k67_openM hM10; have hx10_0 : w11.cell? ⟨go10, (x4_1 : Int).toNat * 3, none⟩ = some (.string ((rd_T67 x3_1 x4_1).f0)) := hcc10 0 _ rfl; have hx10_1 : w11.cell? ⟨go10, (x4_1 : Int).toNat * 3 + 1, none⟩ = some (.int .i64 ((rd_T67 x3_1 x4_1).f1)) := hcc10 1 _ rfl; have hx10_2 : w11.cell? ⟨go10, (x4_1 : Int).toNat * 3 + 2, none⟩ = some (ve10_2) := hcc10 2 _ rfl; have hf10_0 : w11.frozen? ⟨go10, (x4_1 : Int).toNat * 3, none⟩ = false := hfr10 0; have hf10_1 : w11.frozen? ⟨go10, (x4_1 : Int).toNat * 3 + 1, none⟩ = false := hfr10 1; have hf10_2 : w11.frozen? ⟨go10, (x4_1 : Int).toNat * 3 + 2, none⟩ = false := hfr10 2; clear hcl10 hcc10 hfr10 hM10; replace p10 := eq_true p10; replace q10 := eq_true q10; have n_ := zz (Kd.S_mono (ok' := (fun k_ => some k_ ≠ (v395 : Value).ownBlock)) HO_3.out (fun k_ hk => hk.2)); clear HO_3; have HO_3 := n_; clear n_; have HX12 := zz (show Kd.S k67 67 w11 w.heap.size (fun k_ => ((fun _ => True)) k_ ∧ ¬ ((fun k_ => some k_ = (v395 : Value).ownBlock)) k_) (.slice (some ⟨go10, 0, none⟩) x3_1.length co10) x3_1 from (by (with_reducible repeat (first | apply Kd.S_alloc | apply Kd.S_drewN | apply Kd.S_drew)); exact Kd.S_mono HO_3.out (fun k_ hk => ⟨trivial, fun e_ => hk e_⟩))); obtain ⟨oki12, ce12, hcl12, hM12, hcc12, hfr12, hoki12, hH12⟩ := Kd.S_elem HX12.out z67 (x4_1 : Int) (z2) (by have h_ : (x4_1 : Int) < ((x3_1.length : Int) : Int) := z2; first | exact h_ | (have e_ := (Kd.S_reads' HO_3.out).1; omega) | simpa using h_); obtain ⟨ve12_2, rfl, ge12_2⟩ := k67_openM hM12; have HP12 := Kd.S_seg hH12 (z2) (by have h_ : (x4_1 : Int) < ((x3_1.length : Int) : Int) := z2; first | exact h_ | (have e_ := (Kd.S_reads' HO_3.out).1; omega) | simpa using h_) (seg := [.string t392, .int .i64 t393, v395]) (j := 0) (show 3 ≤ 3 from by decide) (x' := (⟨t392, t393, t394⟩ : S67)) (k67_mkM _ _ _ (⟨t392, t393, t394⟩ : S67) (Kd.R_mono (Kd.R_tight rfl (Kd.R_mono (ok' := fun k_ => ((fun _ => True)) k_ ∧ k_ ≠ go10) (Kd.R_apart' (HO396.out) (Kd.S_typed HO_3.out) (by decide)) (fun k_ hk => ⟨trivial, fun e_ => (hk.2) (by rw [e_]; rfl)⟩))) (fun _ h_ => Or.inr (h_)))) (fun _ hk => hk) (fun k_ hk_ => ((Kd.R_mono (ok' := fun k_ => ((fun _ => True)) k_ ∧ k_ ≠ go10) (Kd.R_apart' (HO396.out) (Kd.S_typed HO_3.out) (by decide)) (fun k_ hk => ⟨trivial, fun e_ => (hk.2) (by rw [e_]; rfl)⟩))).1 k_ hk_.symm); have hx12_0 := hcc12 0 _ rfl; (try simp only [show (k67).sz = 3 from rfl, Nat.mul_one, Nat.add_zero] at hx12_0); have hf12_0 := hfr12 0; (try simp only [show (k67).sz = 3 from rfl, Nat.mul_one, Nat.add_zero] at hf12_0); have hx12_1 := hcc12 1 _ rfl; (try simp only [show (k67).sz = 3 from rfl, Nat.mul_one, Nat.add_zero] at hx12_1); have hf12_1 := hfr12 1; (try simp only [show (k67).sz = 3 from rfl, Nat.mul_one, Nat.add_zero] at hf12_1); have hx12_2 := hcc12 2 _ rfl; (try simp only [show (k67).sz = 3 from rfl, Nat.mul_one, Nat.add_zero] at hx12_2); have hf12_2 := hfr12 2; (try simp only [show (k67).sz = 3 from rfl, Nat.mul_one, Nat.add_zero] at hf12_2); clear hcl12 hcc12 hfr12 hM12 hoki12 hH12; have hone12_2 := R_one HO396.out) | ((with_reducible refine gate_store (t := 67) (p := 21) rfl ?_); refine store_event (t := 67) (p := 21) (v := ?vo_w13) (w1 := (((w11.setCell ⟨go10, (x4_1 : Int).toNat * 3, none⟩ (.string t392)).setCell ⟨go10, (x4_1 : Int).toNat * 3 + 1, none⟩ (.int .i64 t393)).setCell ⟨go10, (x4_1 : Int).toNat * 3 + 2, none⟩ (v395))) ?hg ?ho ?hn ?hr ?_; (case ho => rfl); (case hg => rfl); (case hn => rfl); (case hr => first | (go_simp; done) | (go_simp; rfl)); intro w13 hw; have hg : w11.grownBy w13 (some go10) := (by rw [hw]; exact HP12.2); have hp_ : Kd.S k67 67 w13 w.heap.size (fun _ => True) (.slice (some ⟨go10, 0, none⟩) x3_1.length co10) y397 := (by rw [hw, Ny397.out]; exact HP12.1); clear HP12; replace HO_3 := zz (hp_); replace HB := zz ((by rw [hw]; exact below_set (below_set (below_set (HB.out) GB10.out) GB10.out) GB10.out : Below w.heap.size w w13)); clear HO396; clear hg hw hp_))
   go_roundg k1
   case measure => have := HK1.out; omega
   case rel => exact ⟨(y397), (wrap64 (x4_1 + 1)), zr, H', ⟨by have := HK1.out; omega⟩, ⟨by (with_reducible repeat (first | apply Kd.S_alloc | apply Kd.S_drewN | apply Kd.S_drew)); exact HO_3.out⟩, ⟨zb⟩⟩
end
def laws_toPending.f (k : Nat) (a0_0 : ByteArray) (l0_1 : List (S159)) (a0_2 : ByteArray) : Option (ByteArray × (List (S96)) × ByteArray) := (laws_toEntryS.f k l0_1).bind fun t401 => (some (a0_0, t401, a0_2))
theorem laws_toPending.mono : ∀ a0 a1 a2 k, LeO (laws_toPending.f k a0 a1 a2) (laws_toPending.f (k + 1) a0 a1 a2) := by
 intro a0 a1 a2 k
 unfold laws_toPending.f
 have m0 := @laws_toEntryS.mono
 exact zM
theorem laws_toPending.calls (k : Nat) (a0_0 : ByteArray) (A0_1 : Option Addr) (c0_1 : Nat) (l0_1 : List (S159)) (a0_2 : ByteArray) (r1 : ByteArray) (r2 : List (S96)) (r3 : ByteArray) (w : World) (hr0_1 : Kd.C k159 w A0_1 l0_1.length l0_1) (hc0_1 : l0_1.length ≤ c0_1) (h : laws_toPending.f k a0_0 l0_1 a0_2 = some (r1, r2, r3)) :
 Calls Tryz.prog 87 #[.agg #[.string a0_0, .slice A0_1 l0_1.length c0_1, .string a0_2]] w fun e w' => ∃ v1_ : Value, e = .returned (.agg #[.string r1, v1_, .string r3]) ∧ Kd.R k96 96 w' w.heap.size (fun _ => True) v1_ r2 ∧ Below w.heap.size w w' := by
 have hu110 := Tryz.underlying110
 have hu61 := Tryz.underlying61
 have HR0_1 := zz hr0_1
 have HC0_1 := zz hc0_1
 clear hr0_1 hc0_1
 have HB := zz (Below.refl w.heap.size w)
 unfold laws_toPending.f at h
 have H := h
 clear h
 replace H := zf H
 obtain ⟨t401, A20, H⟩ := H
 try dsimp only at H
 have A2 := zz A20
 clear A20
 simp only [Option.some.injEq, Prod.mk.injEq] at H
 obtain ⟨rfl, rfl, rfl⟩ := H
 go_enter Tryz.func87, Tryz.ntmps87
 go_wp2_with (first | (refine zX 1 110 #[.string a0_0, .slice A0_1 l0_1.length c0_1, .string a0_2] ?_; intro gb398 hg w3 hbox hb; have BK398 := zz (hbox); have GW398 := zz ((zg : w.heap.size ≤ gb398)); have GE398 := zz ((zg : w.heap.size ≤ gb398)); replace HB := zz (zv zb hb); clear hb hbox hg) | (refine zX 2 61 #[.string (⟨#[]⟩ : ByteArray), .slice none 0 0, .string (⟨#[]⟩ : ByteArray)] ?_; intro gb399 hg w4 hbox hb; have BK399 := zz (hbox); have GW399 := zz ((zg : w.heap.size ≤ gb399)); have GE399 := zz ((zg : w.heap.size ≤ gb399)); replace HB := zz (zv zb hb); have NB398_399 := zz (zH BK398 hg); have NB399_398 := zz (zI BK398 hg); replace BK398 := zz (zJ BK398 hb); clear hb hbox hg) | (refine zX 3 61 #[.string (⟨#[]⟩ : ByteArray), .slice none 0 0, .string (⟨#[]⟩ : ByteArray)] ?_; intro gb400 hg w5 hbox hb; have BK400 := zz (hbox); have GW400 := zz ((zg : w.heap.size ≤ gb400)); have GE400 := zz ((zg : w.heap.size ≤ gb400)); replace HB := zz (zv zb hb); have NB398_400 := zz (zH BK398 hg); have NB400_398 := zz (zI BK398 hg); replace BK398 := zz (zJ BK398 hb); have NB399_400 := zz (zH BK399 hg); have NB400_399 := zz (zI BK399 hg); replace BK399 := zz (zJ BK399 hb); clear hb hbox hg; have hnb6 := NB398_399.out; have hnc6 := NB399_398.out; have hnb7 := NB398_400.out; have hnc7 := NB400_398.out; obtain ⟨hcz8_0, hcz8_1, hcz8_2, hfz8_0, hfz8_1, hfz8_2⟩ := zc3 BK398.out; have hnb9 := NB400_399.out; have hnc9 := NB399_400.out; obtain ⟨hcz10_0, hcz10_1, hcz10_2, hfz10_0, hfz10_1, hfz10_2⟩ := zc3 BK400.out) | (refine zL 123 9 Tryz.func123 #[.slice A0_1 l0_1.length c0_1] ?_; (with_reducible refine (laws_toEntryS.calls k _ _ l0_1 t401 _ ?s1 ?s2 A2.out).mono ?_); (case s1 => exact Kd.C_below HR0_1.out zb); (case s2 => exact HC0_1.out); rintro e w11 ⟨v402, rfl, ho0, hb⟩; refine ⟨_, rfl, ?_⟩; have HO403 := zz (Kd.R_lower ho0 (below_size zb)); replace BK398 := zz (blk_below (g := gb398) (o := .cells #[.string a0_0, .slice A0_1 l0_1.length c0_1, .string a0_2] 110 (0, 0)) (by (with_reducible repeat (first | refine blk_drewN ?_ _ | refine blk_drew ?_ | refine blk_alloc ?_ _)); refine blk_far ?_ NB398_400.out _; (with_reducible repeat (first | refine blk_drewN ?_ _ | refine blk_drew ?_ | refine blk_alloc ?_ _)); exact BK398.out) hb); replace BK399 := zz (blk_below (g := gb399) (o := .cells #[.string (⟨#[]⟩ : ByteArray), .slice none 0 0, .string (⟨#[]⟩ : ByteArray)] 61 (0, 0)) (by (with_reducible repeat (first | refine blk_drewN ?_ _ | refine blk_drew ?_ | refine blk_alloc ?_ _)); refine blk_far ?_ NB399_400.out _; (with_reducible repeat (first | refine blk_drewN ?_ _ | refine blk_drew ?_ | refine blk_alloc ?_ _)); exact BK399.out) hb); replace BK400 := zz (blk_below (g := gb400) (o := .cells #[.string a0_0, .slice none 0 0, .string (⟨#[]⟩ : ByteArray)] 61 (0, 0)) (by (with_reducible repeat (first | refine blk_drewN ?_ _ | refine blk_drew ?_ | refine blk_alloc ?_ _)); refine blk_put (cs := #[.string (⟨#[]⟩ : ByteArray), .slice none 0 0, .string (⟨#[]⟩ : ByteArray)]) ?_ 0 _ rfl; (with_reducible repeat (first | refine blk_drewN ?_ _ | refine blk_drew ?_ | refine blk_alloc ?_ _)); exact BK400.out) hb); replace HB := zz (zv zb hb); (try clear hb); (try clear hb2); (try clear hk); (try clear hi); (try clear ho0); obtain ⟨Ao12, co12, eo12⟩ := Kd.R_slice HO403.out; subst eo12; obtain ⟨hcz13_0, hcz13_1, hcz13_2, hfz13_0, hfz13_1, hfz13_2⟩ := zc3 BK400.out; obtain ⟨hcz14_0, hcz14_1, hcz14_2, hfz14_0, hfz14_1, hfz14_2⟩ := zc3 BK398.out; obtain ⟨hcz15_0, hcz15_1, hcz15_2, hfz15_0, hfz15_1, hfz15_2⟩ := zc3 BK399.out))
 refine bodyPost_ret (results_cell_row rfl _ _ gb399 61 #[.string a0_0, .slice Ao12 t401.length co12, .string a0_2] (0, 0) _ rfl (by (with_reducible repeat (first | refine blk_drewN ?_ _ | refine blk_drew ?_ | refine blk_alloc ?_ _)); refine blk_put (cs := #[.string a0_0, .slice Ao12 t401.length co12, .string (⟨#[]⟩ : ByteArray)]) ?_ 2 _ rfl; (with_reducible repeat (first | refine blk_drewN ?_ _ | refine blk_drew ?_ | refine blk_alloc ?_ _)); refine blk_put (cs := #[.string a0_0, .slice none 0 0, .string (⟨#[]⟩ : ByteArray)]) ?_ 1 _ rfl; (with_reducible repeat (first | refine blk_drewN ?_ _ | refine blk_drew ?_ | refine blk_alloc ?_ _)); refine blk_put (cs := #[.string (⟨#[]⟩ : ByteArray), .slice none 0 0, .string (⟨#[]⟩ : ByteArray)]) ?_ 0 _ rfl; (with_reducible repeat (first | refine blk_drewN ?_ _ | refine blk_drew ?_ | refine blk_alloc ?_ _)); refine blk_far ?_ NB399_400.out _; (with_reducible repeat (first | refine blk_drewN ?_ _ | refine blk_drew ?_ | refine blk_alloc ?_ _)); refine blk_far ?_ NB399_400.out _; (with_reducible repeat (first | refine blk_drewN ?_ _ | refine blk_drew ?_ | refine blk_alloc ?_ _)); exact BK399.out) Tryz.underlying61 rfl zk) rfl ?_
 exact ⟨_, ze, by (with_reducible repeat (first | apply Kd.R_alloc | apply Kd.R_drewN | apply Kd.R_drew)); exact Kd.R_mono (Kd.R_far (p := ⟨gb399, 2, none⟩) (Kd.R_far (p := ⟨gb399, 1, none⟩) (Kd.R_far (p := ⟨gb399, 0, none⟩) (Kd.R_far (p := ⟨gb400, 2, none⟩) (Kd.R_far (p := ⟨gb400, 1, none⟩) (Kd.R_types (Kd.R_types HO403.out BK400.out (by decide)) BK399.out (by decide)) (fun _ hk => hk.1.2) (.slice Ao12 t401.length co12)) (fun _ hk => hk.1.2) (.string a0_2)) (fun _ hk => hk.2) (.string a0_0)) (fun _ hk => hk.2) (.slice Ao12 t401.length co12)) (fun _ hk => hk.2) (.string a0_2)) (fun _ hk => trivial), zb⟩
end Go.Proofs.YtcekmnclmldmmaaGreatDoor.Q
