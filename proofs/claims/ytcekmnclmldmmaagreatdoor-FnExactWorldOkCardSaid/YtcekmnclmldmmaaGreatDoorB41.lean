import Derived.Test.YtcekmnclmldmmaaGreatDoorB40
set_option linter.unusedVariables false
set_option linter.unusedSimpArgs false
namespace Go.Proofs.YtcekmnclmldmmaaGreatDoor.Q
open Go.RowKit W1 W2 W3
attribute [local go_sem] max2_int min2_int max_two min_two max_three min_three max_four min_four
attribute [local go_sem high] bl_leq bl_gtr bl_geq
set_option maxHeartbeats 8000000
set_option maxRecDepth 100000
section
attribute [local go_sem] run_store_one
def laws_toPendingS.l0 : Nat → List (S110) → List (S61) → Int → Option ((List (S61)))
 | 0, _, _, _ => none
 | k + 1, x0, x3, x4 => if x4 < (x0.length : Int) then (if 0 ≤ x4 then ((laws_toPending.f k ((rd_T110 x0 x4).f0) ((rd_T110 x0 x4).f1) ((rd_T110 x0 x4).f2)).bind fun bt408 => (if x4 < (x3.length : Int) then (laws_toPendingS.l0 k x0 (x3.set (x4 : Int).toNat (⟨bt408.1, bt408.2.1, bt408.2.2⟩ : S61)) (wrap64 (x4 + 1))) else (none))) else (none)) else (some x3)
def laws_toPendingS.f (k : Nat) (l0 : List (S110)) : Option ((List (S61))) := if 0 ≤ (l0.length : Int) then (if ((l0.length : Int) : Int).toNat ≤ 5026338869833 then (laws_toPendingS.l0 k l0 (List.replicate ((l0.length : Int) : Int).toNat z61) 0) else (none)) else (none)
theorem laws_toPendingS.mono_l : ∀ k, (∀ y0 y1 y2, LeO (laws_toPendingS.l0 k y0 y1 y2) (laws_toPendingS.l0 (k + 1) y0 y1 y2))
 | 0 => fun _ _ _ r h => by simp [laws_toPendingS.l0] at h
 | k + 1 => by
  have ih0 := laws_toPendingS.mono_l k
  ·intro y0 y1 y2
   unfold laws_toPendingS.l0
   have m0 := @laws_toPending.mono
   exact zM
theorem laws_toPendingS.mono : ∀ a0 k, LeO (laws_toPendingS.f k a0) (laws_toPendingS.f (k + 1) a0) := by
 intro a0 k
 have ih0 := laws_toPendingS.mono_l k
 unfold laws_toPendingS.f
 have m0 := @laws_toPending.mono
 exact zM
theorem laws_toPendingS.calls (k : Nat) (A0 : Option Addr) (c0 : Nat) (l0 : List (S110)) (r : List (S61)) (w : World) (hr0 : Kd.C k110 w A0 l0.length l0) (hc0 : l0.length ≤ c0) (h : laws_toPendingS.f k l0 = some r) :
 Calls Tryz.prog 40 #[.slice A0 l0.length c0] w fun e w' => ∃ v0_ : Value, e = .returned (v0_) ∧ Kd.S k61 61 w' w.heap.size (fun _ => True) v0_ r ∧ Below w.heap.size w w' := by
 have hu110 := Tryz.underlying110
 have hu61 := Tryz.underlying61
 have HR0 := zz hr0
 have HC0 := zz hc0
 clear hr0 hc0
 have HB := zz (Below.refl w.heap.size w)
 unfold laws_toPendingS.f at h
 have H := h
 clear h
 by_cases c2 : 0 ≤ (l0.length : Int)
 case neg => exact zno H c2
 rw [if_pos c2] at H
 have c2b0 := eq_true c2
 have c2b1 := z1 c2
 clear c2
 by_cases c3 : ((l0.length : Int) : Int).toNat ≤ 5026338869833
 case neg => exact zno H c3
 rw [if_pos c3] at H
 have c3b0 := eq_true c3
 have c3b1 := z1 c3
 clear c3
 obtain ⟨y404, hy404⟩ : ∃ y_ : List (S61), y_ = (List.replicate ((l0.length : Int) : Int).toNat z61) := ⟨_, rfl⟩
 replace H : (laws_toPendingS.l0 k l0 y404 0) = some r := by first | (rw [hy404]; with_reducible exact H) | (have H2_ := (Option.bind_some _ _).symm.trans H; rw [hy404]; with_reducible exact H2_) | (have H2_ := (Option.bind_some _ _).symm.trans H; with_reducible exact H2_) | with_reducible exact H | (rw [hy404]; exact H) | exact H
 have Ny404 := zz hy404
 clear hy404
 have H' := zz H
 clear H
 go_enter Tryz.func40, Tryz.ntmps40
 go_wp2_with (first | (refine zN 7 ?_; refine Kd.S_make k61 _ 61 rfl (N := 7) rfl 32 _ _ rfl (l0.length : Int) rfl rfl Tryz.underlying32 (.agg #[(.string ⟨#[]⟩), (.slice none 0 0), (.string ⟨#[]⟩)]) 56 info61 rfl (by decide) (by omega) z61 (ok := fun _ => True) (okp := fun _ => True) (k61_mkM _ _ _ z61 (Kd.R_nil _ _ _ _ _)) (fun _ hk => hk) trivial (z2) (Nat.le_trans (Nat.mul_le_mul_right _ (z2 : (l0.length : Int).toNat ≤ 5026338869833)) (by omega)) (Below.refl _ _) (Nat.le_refl _) ?_; intro v405 w4 ho5 hb hg_ hnew_; clear hg_ hnew_; (first | rw [← Ny404.out] at ho5 | (simp only [Int.reduceToNat] at ho5; rw [← Ny404.out] at ho5)); have HO406 := zz (Kd.S_lower ho5 (below_size zb)); replace HB := zz (zv zb hb); clear hb ho5))
 go_loopg [4] k (fun kq v4 w' => ∃ (x3_1 : List (S61)) (x4_1 : Int), v4 = .int .i64 x4_1 ∧ Aside0 (laws_toPendingS.l0 kq l0 x3_1 x4_1 = some r) ∧ Aside0 (kq ≤ k) ∧ Aside0 (Kd.S k61 61 w' w.heap.size (fun _ => True) v405 x3_1) ∧ Aside0 (Below w.heap.size w w'))
 case atStart => exact ⟨(y404), (0), zr, H', ⟨Nat.le_refl _⟩, ⟨by (with_reducible repeat (first | apply Kd.S_alloc | apply Kd.S_drewN | apply Kd.S_drew)); exact HO406.out⟩, ⟨zb⟩⟩
 case round =>
  clear H'
  try clear c2
  try clear c2b0
  try clear c2b1
  try clear p2
  try clear c3
  try clear c3b0
  try clear c3b1
  try clear c4
  obtain ⟨x3_1, x4_1, rfl, HA, HK1, HO_3, HB⟩ := hrel
  cases gk with
  | zero => exact absurd HA.out (by simp [laws_toPendingS.l0])
  | succ k1 =>
   have H := HA.out
   clear HA
   simp only [laws_toPendingS.l0] at H
   by_cases c6 : x4_1 < (l0.length : Int)
   case neg =>
    rw [if_neg c6] at H
    have c6b0 := z0 c6
    clear c6
    obtain rfl := zi H
    go_wp2
    go_ret
    exact ⟨_, ze, by (with_reducible repeat (first | apply Kd.S_alloc | apply Kd.S_drewN | apply Kd.S_drew)); exact HO_3.out, zb⟩
   rw [if_pos c6] at H
   have c6b0 := z1 c6
   clear c6
   by_cases c7 : 0 ≤ x4_1
   case neg => exact zno H c7
   rw [if_pos c7] at H
   have c7b0 := z1 c7
   clear c7
   replace H := zf H
   obtain ⟨⟨t408, t409, t412⟩, A80, H⟩ := H
   try dsimp only at H
   have A8 := zz A80
   clear A80
   by_cases c9 : x4_1 < (x3_1.length : Int)
   case neg => exact zno H c9
   rw [if_pos c9] at H
   have c9b0 := z1 c9
   clear c9
   obtain ⟨y413, hy413⟩ : ∃ y_ : List (S61), y_ = (x3_1.set (x4_1 : Int).toNat (⟨t408, t409, t412⟩ : S61)) := ⟨_, rfl⟩
   replace H : (laws_toPendingS.l0 k1 l0 y413 (wrap64 (x4_1 + 1))) = some r := by first | (rw [hy413]; with_reducible exact H) | (have H2_ := (Option.bind_some _ _).symm.trans H; rw [hy413]; with_reducible exact H2_) | (have H2_ := (Option.bind_some _ _).symm.trans H; with_reducible exact H2_) | with_reducible exact H | (rw [hy413]; exact H) | exact H
   have Ny413 := zz hy413
   clear hy413
   have H' := zz H
   clear H
   have p407 : 0 ≤ (x4_1 : Int) := z2
   have q407 : x4_1 < (l0.length : Int) := z2
   obtain ⟨ad407, A407_1, c407_1, e407, hx407_0, hx407_1, hx407_2, hl407_1, hi407_1⟩ := at_T110 HR0.out x4_1 p407 q407
   cases e407
   replace hx407_0 := z3 HB.out hx407_0
   replace hx407_1 := z3 HB.out hx407_1
   replace hx407_2 := z3 HB.out hx407_2
   have HR407_1 := zz hi407_1
   have HC407_1 := zz hl407_1
   clear hi407_1 hl407_1
   replace p407 := eq_true p407
   replace q407 := eq_true q407
   go_wp2_with (first | (refine zL 87 20 Tryz.func87 #[.agg #[.string ((rd_T110 l0 x4_1).f0), .slice A407_1 ((rd_T110 l0 x4_1).f1).length c407_1, .string ((rd_T110 l0 x4_1).f2)]] ?_; (with_reducible refine (laws_toPending.calls k1 ((rd_T110 l0 x4_1).f0) _ _ ((rd_T110 l0 x4_1).f1) ((rd_T110 l0 x4_1).f2) t408 t409 t412 _ ?s1 ?s2 A8.out).mono ?_); (case s1 => exact zc HR407_1.out); (case s2 => exact HC407_1.out); rintro e w11 ⟨v410, rfl, ho0, hb⟩; refine ⟨_, rfl, ?_⟩; replace HO_3 := zz (Kd.S_elder' (zS HO_3.out) (Kd.R_base ho0) hb); have HO411 := zz (Kd.R_lower ho0 (below_size zb)); replace HB := zz (zv zb hb); (try clear hb); (try clear hb2); (try clear hk); (try clear hi); (try clear ho0); have p10 : 0 ≤ (x4_1 : Int) := z2; have q10 : (x4_1 : Int) < ((x3_1.length : Int) : Int) := z2; obtain ⟨go10, co10, eo10, gb10, gl10, cl10, HG10⟩ := Kd.S_form HO_3.out (by omega); (first | cases eo10 | (injection eo10 with ea_ en_ ec_; (first | subst ea_ | (injection ea_ with ea_; subst ea_)); subst ec_; clear en_)); have GB10 := zz gb10; have GG10 := zz HG10; clear gb10 gl10 HG10; obtain ⟨_, ce10, hcl10, hM10, hcc10, hfr10, _, _⟩ := Kd.S_elem HO_3.out z61 (x4_1 : Int) p10 q10; obtain ⟨ve10_1, rfl, ge10_1⟩ := k61_openM hM10; have hx10_0 : w11.cell? ⟨go10, (x4_1 : Int).toNat * 3, none⟩ = some (.string ((rd_T61 x3_1 x4_1).f0)) := hcc10 0 _ rfl; have hx10_1 : w11.cell? ⟨go10, (x4_1 : Int).toNat * 3 + 1, none⟩ = some (ve10_1) := hcc10 1 _ rfl; have hx10_2 : w11.cell? ⟨go10, (x4_1 : Int).toNat * 3 + 2, none⟩ = some (.string ((rd_T61 x3_1 x4_1).f2)) := hcc10 2 _ rfl; have hf10_0 : w11.frozen? ⟨go10, (x4_1 : Int).toNat * 3, none⟩ = false := hfr10 0; have hf10_1 : w11.frozen? ⟨go10, (x4_1 : Int).toNat * 3 + 1, none⟩ = false := hfr10 1; have hf10_2 : w11.frozen? ⟨go10, (x4_1 : Int).toNat * 3 + 2, none⟩ = false := hfr10 2; clear hcl10 hcc10 hfr10 hM10; replace p10 := eq_true p10; replace q10 := eq_true q10; have n_ := zz (Kd.S_mono (ok' := (fun k_ => some k_ ≠ (v410 : Value).ownBlock)) HO_3.out (fun k_ hk => hk.2)); clear HO_3; have HO_3 := n_; clear n_; have HX12 := zz (show Kd.S k61 61 w11 w.heap.size (fun k_ => ((fun _ => True)) k_ ∧ ¬ ((fun k_ => some k_ = (v410 : Value).ownBlock)) k_) (.slice (some ⟨go10, 0, none⟩) x3_1.length co10) x3_1 from (by (with_reducible repeat (first | apply Kd.S_alloc | apply Kd.S_drewN | apply Kd.S_drew)); exact Kd.S_mono HO_3.out (fun k_ hk => ⟨trivial, fun e_ => hk e_⟩))); obtain ⟨oki12, ce12, hcl12, hM12, hcc12, hfr12, hoki12, hH12⟩ := Kd.S_elem HX12.out z61 (x4_1 : Int) (z2) (by have h_ : (x4_1 : Int) < ((x3_1.length : Int) : Int) := z2; first | exact h_ | (have e_ := (Kd.S_reads' HO_3.out).1; omega) | simpa using h_); obtain ⟨ve12_1, rfl, ge12_1⟩ := k61_openM hM12; have HP12 := Kd.S_seg hH12 (z2) (by have h_ : (x4_1 : Int) < ((x3_1.length : Int) : Int) := z2; first | exact h_ | (have e_ := (Kd.S_reads' HO_3.out).1; omega) | simpa using h_) (seg := [.string t408, v410, .string t412]) (j := 0) (show 3 ≤ 3 from by decide) (x' := (⟨t408, t409, t412⟩ : S61)) (k61_mkM _ _ _ (⟨t408, t409, t412⟩ : S61) (Kd.R_mono (Kd.R_tight rfl (Kd.R_mono (ok' := fun k_ => ((fun _ => True)) k_ ∧ k_ ≠ go10) (Kd.R_apart' (HO411.out) (Kd.S_typed HO_3.out) (by decide)) (fun k_ hk => ⟨trivial, fun e_ => (hk.2) (by rw [e_]; rfl)⟩))) (fun _ h_ => Or.inr (h_)))) (fun _ hk => hk) (fun k_ hk_ => ((Kd.R_mono (ok' := fun k_ => ((fun _ => True)) k_ ∧ k_ ≠ go10) (Kd.R_apart' (HO411.out) (Kd.S_typed HO_3.out) (by decide)) (fun k_ hk => ⟨trivial, fun e_ => (hk.2) (by rw [e_]; rfl)⟩))).1 k_ hk_.symm); have hx12_0 := hcc12 0 _ rfl; (try simp only [show (k61).sz = 3 from rfl, Nat.mul_one, Nat.add_zero] at hx12_0); have hf12_0 := hfr12 0; (try simp only [show (k61).sz = 3 from rfl, Nat.mul_one, Nat.add_zero] at hf12_0); have hx12_1 := hcc12 1 _ rfl; (try simp only [show (k61).sz = 3 from rfl, Nat.mul_one, Nat.add_zero] at hx12_1); have hf12_1 := hfr12 1; (try simp only [show (k61).sz = 3 from rfl, Nat.mul_one, Nat.add_zero] at hf12_1); have hx12_2 := hcc12 2 _ rfl; (try simp only [show (k61).sz = 3 from rfl, Nat.mul_one, Nat.add_zero] at hx12_2); have hf12_2 := hfr12 2; (try simp only [show (k61).sz = 3 from rfl, Nat.mul_one, Nat.add_zero] at hf12_2); clear hcl12 hcc12 hfr12 hM12 hoki12 hH12; have hone12_1 := R_one HO411.out) | ((with_reducible refine gate_store (t := 61) (p := 21) rfl ?_); refine store_event (t := 61) (p := 21) (v := ?vo_w13) (w1 := (((w11.setCell ⟨go10, (x4_1 : Int).toNat * 3, none⟩ (.string t408)).setCell ⟨go10, (x4_1 : Int).toNat * 3 + 1, none⟩ (v410)).setCell ⟨go10, (x4_1 : Int).toNat * 3 + 2, none⟩ (.string t412))) ?hg ?ho ?hn ?hr ?_; (case ho => rfl); (case hg => rfl); (case hn => rfl); (case hr => first | (go_simp; done) | (go_simp; rfl)); intro w13 hw; have hg : w11.grownBy w13 (some go10) := (by rw [hw]; exact HP12.2); have hp_ : Kd.S k61 61 w13 w.heap.size (fun _ => True) (.slice (some ⟨go10, 0, none⟩) x3_1.length co10) y413 := (by rw [hw, Ny413.out]; exact HP12.1); clear HP12; replace HO_3 := zz (hp_); replace HB := zz ((by rw [hw]; exact below_set (below_set (below_set (HB.out) GB10.out) GB10.out) GB10.out : Below w.heap.size w w13)); clear HO411; clear hg hw hp_))
   go_roundg k1
   case measure => have := HK1.out; omega
   case rel => exact ⟨(y413), (wrap64 (x4_1 + 1)), zr, H', ⟨by have := HK1.out; omega⟩, ⟨by (with_reducible repeat (first | apply Kd.S_alloc | apply Kd.S_drewN | apply Kd.S_drew)); exact HO_3.out⟩, ⟨zb⟩⟩
end
def laws_toNext.f (a0_0 : ByteArray) (a0_1 : ByteArray) : Option (ByteArray × ByteArray) := some (a0_0, a0_1)
theorem laws_toNext.calls (a0_0 : ByteArray) (a0_1 : ByteArray) (r1 : ByteArray) (r2 : ByteArray) (w : World) (h : laws_toNext.f a0_0 a0_1 = some (r1, r2)) :
 Calls Tryz.prog 88 #[.agg #[.string a0_0, .string a0_1]] w fun e w' => e = .returned (.agg #[.string r1, .string r2]) ∧ Below w.heap.size w w' := by
 have hu112 := Tryz.underlying112
 have hu64 := Tryz.underlying64
 have HB := zz (Below.refl w.heap.size w)
 unfold laws_toNext.f at h
 have H := h
 clear h
 simp only [Option.some.injEq, Prod.mk.injEq] at H
 obtain ⟨rfl, rfl⟩ := H
 go_enter Tryz.func88, Tryz.ntmps88
 go_wp2_with (first | (refine zX 1 112 #[.string a0_0, .string a0_1] ?_; intro gb414 hg w2 hbox hb; have BK414 := zz (hbox); have GW414 := zz ((zg : w.heap.size ≤ gb414)); have GE414 := zz ((zg : w.heap.size ≤ gb414)); replace HB := zz (zv zb hb); clear hb hbox hg) | (refine zX 2 64 #[.string (⟨#[]⟩ : ByteArray), .string (⟨#[]⟩ : ByteArray)] ?_; intro gb415 hg w3 hbox hb; have BK415 := zz (hbox); have GW415 := zz ((zg : w.heap.size ≤ gb415)); have GE415 := zz ((zg : w.heap.size ≤ gb415)); replace HB := zz (zv zb hb); have NB414_415 := zz (zH BK414 hg); have NB415_414 := zz (zI BK414 hg); replace BK414 := zz (zJ BK414 hb); clear hb hbox hg) | (refine zX 3 64 #[.string (⟨#[]⟩ : ByteArray), .string (⟨#[]⟩ : ByteArray)] ?_; intro gb416 hg w4 hbox hb; have BK416 := zz (hbox); have GW416 := zz ((zg : w.heap.size ≤ gb416)); have GE416 := zz ((zg : w.heap.size ≤ gb416)); replace HB := zz (zv zb hb); have NB414_416 := zz (zH BK414 hg); have NB416_414 := zz (zI BK414 hg); replace BK414 := zz (zJ BK414 hb); have NB415_416 := zz (zH BK415 hg); have NB416_415 := zz (zI BK415 hg); replace BK415 := zz (zJ BK415 hb); clear hb hbox hg; have hnb5 := NB414_415.out; have hnc5 := NB415_414.out; have hnb6 := NB414_416.out; have hnc6 := NB416_414.out; obtain ⟨hcz7_0, hcz7_1, hfz7_0, hfz7_1⟩ := zc2 BK414.out; have hnb8 := NB416_415.out; have hnc8 := NB415_416.out; obtain ⟨hcz9_0, hcz9_1, hfz9_0, hfz9_1⟩ := zc2 BK416.out; obtain ⟨hcz10_0, hcz10_1, hfz10_0, hfz10_1⟩ := zc2 BK415.out))
 refine bodyPost_ret (results_cell_row rfl _ _ gb415 64 #[.string a0_0, .string a0_1] (0, 0) _ rfl (by (with_reducible repeat (first | refine blk_drewN ?_ _ | refine blk_drew ?_ | refine blk_alloc ?_ _)); refine blk_put (cs := #[.string a0_0, .string (⟨#[]⟩ : ByteArray)]) ?_ 1 _ rfl; (with_reducible repeat (first | refine blk_drewN ?_ _ | refine blk_drew ?_ | refine blk_alloc ?_ _)); refine blk_put (cs := #[.string (⟨#[]⟩ : ByteArray), .string (⟨#[]⟩ : ByteArray)]) ?_ 0 _ rfl; (with_reducible repeat (first | refine blk_drewN ?_ _ | refine blk_drew ?_ | refine blk_alloc ?_ _)); refine blk_far ?_ NB415_416.out _; (with_reducible repeat (first | refine blk_drewN ?_ _ | refine blk_drew ?_ | refine blk_alloc ?_ _)); refine blk_far ?_ NB415_416.out _; (with_reducible repeat (first | refine blk_drewN ?_ _ | refine blk_drew ?_ | refine blk_alloc ?_ _)); exact BK415.out) Tryz.underlying64 rfl zk) rfl ?_
 exact ⟨ze, zb⟩
def laws_toNextS.l0 : Nat → List (S112) → List (S64) → Int → Option ((List (S64)))
 | 0, _, _, _ => none
 | k + 1, x0, x3, x4 => if x4 < (x0.length : Int) then (if 0 ≤ x4 then ((laws_toNext.f ((rd_T112 x0 x4).f0) ((rd_T112 x0 x4).f1)).bind fun bt421 => (if x4 < (x3.length : Int) then (laws_toNextS.l0 k x0 (x3.set (x4 : Int).toNat (⟨bt421.1, bt421.2⟩ : S64)) (wrap64 (x4 + 1))) else (none))) else (none)) else (some x3)
def laws_toNextS.f (k : Nat) (l0 : List (S112)) : Option ((List (S64))) := if 0 ≤ (l0.length : Int) then (if ((l0.length : Int) : Int).toNat ≤ 8796093022208 then (laws_toNextS.l0 k l0 (List.replicate ((l0.length : Int) : Int).toNat z64) 0) else (none)) else (none)
theorem laws_toNextS.mono_l : ∀ k, (∀ y0 y1 y2, LeO (laws_toNextS.l0 k y0 y1 y2) (laws_toNextS.l0 (k + 1) y0 y1 y2))
 | 0 => fun _ _ _ r h => by simp [laws_toNextS.l0] at h
 | k + 1 => by
  have ih0 := laws_toNextS.mono_l k
  ·intro y0 y1 y2
   unfold laws_toNextS.l0
   exact zM
theorem laws_toNextS.mono : ∀ a0 k, LeO (laws_toNextS.f k a0) (laws_toNextS.f (k + 1) a0) := by
 intro a0 k
 have ih0 := laws_toNextS.mono_l k
 unfold laws_toNextS.f
 exact zM
theorem laws_toNextS.calls (k : Nat) (A0 : Option Addr) (c0 : Nat) (l0 : List (S112)) (r : List (S64)) (w : World) (hr0 : Kd.C k112 w A0 l0.length l0) (hc0 : l0.length ≤ c0) (h : laws_toNextS.f k l0 = some r) :
 Calls Tryz.prog 41 #[.slice A0 l0.length c0] w fun e w' => ∃ v0_ : Value, e = .returned (v0_) ∧ Kd.R k64 64 w' w.heap.size (fun _ => True) v0_ r ∧ Below w.heap.size w w' := by
 have hu112 := Tryz.underlying112
 have hu64 := Tryz.underlying64
 have HR0 := zz hr0
 have HC0 := zz hc0
 clear hr0 hc0
 have HB := zz (Below.refl w.heap.size w)
 unfold laws_toNextS.f at h
 have H := h
 clear h
 by_cases c2 : 0 ≤ (l0.length : Int)
 case neg => exact zno H c2
 rw [if_pos c2] at H
 have c2b0 := eq_true c2
 have c2b1 := z1 c2
 clear c2
 by_cases c3 : ((l0.length : Int) : Int).toNat ≤ 8796093022208
 case neg => exact zno H c3
 rw [if_pos c3] at H
 have c3b0 := eq_true c3
 have c3b1 := z1 c3
 clear c3
 obtain ⟨y417, hy417⟩ : ∃ y_ : List (S64), y_ = (List.replicate ((l0.length : Int) : Int).toNat z64) := ⟨_, rfl⟩
 replace H : (laws_toNextS.l0 k l0 y417 0) = some r := by first | (rw [hy417]; with_reducible exact H) | (have H2_ := (Option.bind_some _ _).symm.trans H; rw [hy417]; with_reducible exact H2_) | (have H2_ := (Option.bind_some _ _).symm.trans H; with_reducible exact H2_) | with_reducible exact H | (rw [hy417]; exact H) | exact H
 have Ny417 := zz hy417
 clear hy417
 have H' := zz H
 clear H
 go_enter Tryz.func41, Tryz.ntmps41
 go_wp2_with (first | (refine zN 7 ?_; refine Kd.R_make k64 _ 64 rfl (N := 7) rfl 33 _ _ rfl (l0.length : Int) rfl rfl Tryz.underlying33 (.agg #[(.string ⟨#[]⟩), (.string ⟨#[]⟩)]) 32 info64 rfl (by decide) (by omega) z64 (ok := fun _ => True) (okp := fun _ => True) (k64_mkM _ _ _ z64 ) (fun _ hk => hk) trivial (z2) (Nat.le_trans (Nat.mul_le_mul_right _ (z2 : (l0.length : Int).toNat ≤ 8796093022208)) (by omega)) (Below.refl _ _) (Nat.le_refl _) ?_; intro v418 w4 ho5 hb hg_ hnew_; clear hg_ hnew_; (first | rw [← Ny417.out] at ho5 | (simp only [Int.reduceToNat] at ho5; rw [← Ny417.out] at ho5)); have HO419 := zz (Kd.R_lower ho5 (below_size zb)); replace HB := zz (zv zb hb); clear hb ho5))
 go_loopg [4] k (fun kq v4 w' => ∃ (x3_1 : List (S64)) (x4_1 : Int), v4 = .int .i64 x4_1 ∧ Aside0 (laws_toNextS.l0 kq l0 x3_1 x4_1 = some r) ∧ Aside0 (kq ≤ k) ∧ Aside0 (Kd.R k64 64 w' w.heap.size (fun _ => True) v418 x3_1) ∧ Aside0 (Below w.heap.size w w'))
 case atStart => exact ⟨(y417), (0), zr, H', ⟨Nat.le_refl _⟩, ⟨by (with_reducible repeat (first | apply Kd.R_alloc | apply Kd.R_drewN | apply Kd.R_drew)); exact HO419.out⟩, ⟨zb⟩⟩
 case round =>
  clear H'
  try clear c2
  try clear c2b0
  try clear c2b1
  try clear p2
  try clear c3
  try clear c3b0
  try clear c3b1
  try clear c4
  obtain ⟨x3_1, x4_1, rfl, HA, HK1, HO_3, HB⟩ := hrel
  cases gk with
  | zero => exact absurd HA.out (by simp [laws_toNextS.l0])
  | succ k1 =>
   have H := HA.out
   clear HA
   simp only [laws_toNextS.l0] at H
   by_cases c6 : x4_1 < (l0.length : Int)
   case neg =>
    rw [if_neg c6] at H
    have c6b0 := z0 c6
    clear c6
    obtain rfl := zi H
    go_wp2
    go_ret
    exact ⟨_, ze, by (with_reducible repeat (first | apply Kd.R_alloc | apply Kd.R_drewN | apply Kd.R_drew)); exact HO_3.out, zb⟩
   rw [if_pos c6] at H
   have c6b0 := z1 c6
   clear c6
   by_cases c7 : 0 ≤ x4_1
   case neg => exact zno H c7
   rw [if_pos c7] at H
   have c7b0 := z1 c7
   clear c7
   replace H := zf H
   obtain ⟨⟨t421, t422⟩, A80, H⟩ := H
   try dsimp only at H
   have A8 := zz A80
   clear A80
   by_cases c9 : x4_1 < (x3_1.length : Int)
   case neg => exact zno H c9
   rw [if_pos c9] at H
   have c9b0 := z1 c9
   clear c9
   obtain ⟨y423, hy423⟩ : ∃ y_ : List (S64), y_ = (x3_1.set (x4_1 : Int).toNat (⟨t421, t422⟩ : S64)) := ⟨_, rfl⟩
   replace H : (laws_toNextS.l0 k1 l0 y423 (wrap64 (x4_1 + 1))) = some r := by first | (rw [hy423]; with_reducible exact H) | (have H2_ := (Option.bind_some _ _).symm.trans H; rw [hy423]; with_reducible exact H2_) | (have H2_ := (Option.bind_some _ _).symm.trans H; with_reducible exact H2_) | with_reducible exact H | (rw [hy423]; exact H) | exact H
   have Ny423 := zz hy423
   clear hy423
   have H' := zz H
   clear H
   have p420 : 0 ≤ (x4_1 : Int) := z2
   have q420 : x4_1 < (l0.length : Int) := z2
   obtain ⟨ad420, e420, hx420_0, hx420_1⟩ := at_T112 HR0.out x4_1 p420 q420
   cases e420
   replace hx420_0 := z3 HB.out hx420_0
   replace hx420_1 := z3 HB.out hx420_1
   replace p420 := eq_true p420
   replace q420 := eq_true q420
   go_wp2_with (first | (refine zL 88 20 Tryz.func88 #[.agg #[.string ((rd_T112 l0 x4_1).f0), .string ((rd_T112 l0 x4_1).f1)]] ?_; (with_reducible refine (laws_toNext.calls ((rd_T112 l0 x4_1).f0) ((rd_T112 l0 x4_1).f1) t421 t422 _ A8.out).mono ?_); rintro e w11 ⟨rfl, hb⟩; refine ⟨_, rfl, ?_⟩; replace HO_3 := zz (Kd.R_below (zR HO_3.out) hb); replace HB := zz (zv zb hb); (try clear hb); (try clear hb2); (try clear hk); (try clear hi); have p10 : 0 ≤ (x4_1 : Int) := z2; have q10 : (x4_1 : Int) < ((x3_1.length : Int) : Int) := z2; obtain ⟨go10, co10, eo10, gb10, gl10, cl10, HG10⟩ := Kd.R_form HO_3.out (by omega); (first | cases eo10 | (injection eo10 with ea_ en_ ec_; (first | subst ea_ | (injection ea_ with ea_; subst ea_)); subst ec_; clear en_)); have GB10 := zz gb10; have GG10 := zz HG10; clear gb10 gl10 HG10; obtain ⟨ce10, hcl10, hM10, hcc10, hfr10⟩ := Kd.R_elem HO_3.out z64 (x4_1 : Int) p10 q10; obtain rfl := k64_openM hM10; have hx10_0 : w11.cell? ⟨go10, (x4_1 : Int).toNat * 2, none⟩ = some (.string ((rd_T64 x3_1 x4_1).f0)) := hcc10 0 _ rfl; have hx10_1 : w11.cell? ⟨go10, (x4_1 : Int).toNat * 2 + 1, none⟩ = some (.string ((rd_T64 x3_1 x4_1).f1)) := hcc10 1 _ rfl; have hf10_0 : w11.frozen? ⟨go10, (x4_1 : Int).toNat * 2, none⟩ = false := hfr10 0; have hf10_1 : w11.frozen? ⟨go10, (x4_1 : Int).toNat * 2 + 1, none⟩ = false := hfr10 1; clear hcl10 hcc10 hfr10 hM10; replace p10 := eq_true p10; replace q10 := eq_true q10; have HX12 := zz (show Kd.R k64 64 w11 w.heap.size (fun _ => True) (.slice (some ⟨go10, 0, none⟩) x3_1.length co10) x3_1 from (zR HO_3.out)); obtain ⟨ce12, hcl12, hM12, hcc12, hfr12⟩ := Kd.R_elem HX12.out z64 (x4_1 : Int) (z2) (by have h_ : (x4_1 : Int) < ((x3_1.length : Int) : Int) := z2; first | exact h_ | (have e_ := (Kd.R_reads' HO_3.out).1; omega) | simpa using h_); obtain rfl := k64_openM hM12; have HP12 := Kd.R_seg HX12.out (x4_1 : Int) (z2) (by have h_ : (x4_1 : Int) < ((x3_1.length : Int) : Int) := z2; first | exact h_ | (have e_ := (Kd.R_reads' HO_3.out).1; omega) | simpa using h_) (seg := [.string t421, .string t422]) (j := 0) hcl12 hcc12 (show 2 ≤ 2 from by decide) (x' := (⟨t421, t422⟩ : S64)) (k64_mkM _ _ _ (⟨t421, t422⟩ : S64) ) (fun _ hk => hk); have hx12_0 := hcc12 0 _ rfl; (try simp only [show (k64).sz = 2 from rfl, Nat.mul_one, Nat.add_zero] at hx12_0); have hf12_0 := hfr12 0; (try simp only [show (k64).sz = 2 from rfl, Nat.mul_one, Nat.add_zero] at hf12_0); have hx12_1 := hcc12 1 _ rfl; (try simp only [show (k64).sz = 2 from rfl, Nat.mul_one, Nat.add_zero] at hx12_1); have hf12_1 := hfr12 1; (try simp only [show (k64).sz = 2 from rfl, Nat.mul_one, Nat.add_zero] at hf12_1); clear hcl12 hcc12 hfr12 hM12) | ((with_reducible refine gate_store (t := 64) (p := 21) rfl ?_); refine store_event (t := 64) (p := 21) (v := ?vo_w13) (w1 := ((w11.setCell ⟨go10, (x4_1 : Int).toNat * 2, none⟩ (.string t421)).setCell ⟨go10, (x4_1 : Int).toNat * 2 + 1, none⟩ (.string t422))) ?hg ?ho ?hn ?hr ?_; (case ho => rfl); (case hg => rfl); (case hn => rfl); (case hr => first | (go_simp; done) | (go_simp; rfl)); intro w13 hw; have hg : w11.grownBy w13 (some go10) := (by rw [hw]; exact HP12.2); have hp_ : Kd.R k64 64 w13 w.heap.size (fun _ => True) (.slice (some ⟨go10, 0, none⟩) x3_1.length co10) y423 := (by rw [hw, Ny423.out]; exact HP12.1); clear HP12; replace HO_3 := zz (hp_); replace HB := zz ((by rw [hw]; exact below_set (below_set (HB.out) GB10.out) GB10.out : Below w.heap.size w w13)); clear hg hw hp_))
   go_roundg k1
   case measure => have := HK1.out; omega
   case rel => exact ⟨(y423), (wrap64 (x4_1 + 1)), zr, H', ⟨by have := HK1.out; omega⟩, ⟨by (with_reducible repeat (first | apply Kd.R_alloc | apply Kd.R_drewN | apply Kd.R_drew)); exact HO_3.out⟩, ⟨zb⟩⟩
end Go.Proofs.YtcekmnclmldmmaaGreatDoor.Q
