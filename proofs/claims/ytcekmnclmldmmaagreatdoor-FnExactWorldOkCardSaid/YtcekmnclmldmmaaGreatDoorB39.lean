import Derived.Test.YtcekmnclmldmmaaGreatDoorB38
set_option linter.unusedVariables false
set_option linter.unusedSimpArgs false
namespace Go.Proofs.YtcekmnclmldmmaaGreatDoor.Q
open Go.RowKit W1 W2 W3
attribute [local go_sem] max2_int min2_int max_two min_two max_three min_three max_four min_four
attribute [local go_sem high] bl_leq bl_gtr bl_geq
set_option maxHeartbeats 8000000
set_option maxRecDepth 100000
def laws_toStringS.l0 : Nat → List ByteArray → List ByteArray → Int → Option (List ByteArray)
 | 0, _, _, _ => none
 | k + 1, x0, x3, x4 => if x4 < (x0.length : Int) then (if 0 ≤ x4 then (if x4 < (x3.length : Int) then (laws_toStringS.l0 k x0 (x3.set (x4 : Int).toNat (rdOf ByteArray.empty x0 x4)) (wrap64 (x4 + 1))) else (none)) else (none)) else (some x3)
def laws_toStringS.f (k : Nat) (l0 : List ByteArray) : Option (List ByteArray) := if 0 ≤ (l0.length : Int) then (if ((l0.length : Int) : Int).toNat ≤ 17592186044416 then (laws_toStringS.l0 k l0 (List.replicate ((l0.length : Int) : Int).toNat (⟨#[]⟩ : ByteArray)) 0) else (none)) else (none)
theorem laws_toStringS.mono_l : ∀ k, (∀ y0 y1 y2, LeO (laws_toStringS.l0 k y0 y1 y2) (laws_toStringS.l0 (k + 1) y0 y1 y2))
 | 0 => fun _ _ _ r h => by simp [laws_toStringS.l0] at h
 | k + 1 => by
  have ih0 := laws_toStringS.mono_l k
  ·intro y0 y1 y2
   unfold laws_toStringS.l0
   exact zM
theorem laws_toStringS.mono : ∀ a0 k, LeO (laws_toStringS.f k a0) (laws_toStringS.f (k + 1) a0) := by
 intro a0 k
 have ih0 := laws_toStringS.mono_l k
 unfold laws_toStringS.f
 exact zM
theorem laws_toStringS.calls (k : Nat) (A0 : Option Addr) (c0 : Nat) (l0 : List ByteArray) (r : List ByteArray) (w : World) (hr0 : Kd.C Kd.string w A0 l0.length l0) (hc0 : l0.length ≤ c0) (h : laws_toStringS.f k l0 = some r) :
 Calls Tryz.prog 20 #[.slice A0 l0.length c0] w fun e w' => ∃ v0_ : Value, e = .returned (v0_) ∧ Kd.R Kd.string 9 w' w.heap.size (fun _ => True) v0_ r ∧ Below w.heap.size w w' := by
 have HR0 := zz hr0
 have HC0 := zz hc0
 clear hr0 hc0
 have HB := zz (Below.refl w.heap.size w)
 unfold laws_toStringS.f at h
 have H := h
 clear h
 by_cases c2 : 0 ≤ (l0.length : Int)
 case neg => exact zno H c2
 rw [if_pos c2] at H
 have c2b0 := eq_true c2
 have c2b1 := z1 c2
 clear c2
 by_cases c3 : ((l0.length : Int) : Int).toNat ≤ 17592186044416
 case neg => exact zno H c3
 rw [if_pos c3] at H
 have c3b0 := eq_true c3
 have c3b1 := z1 c3
 clear c3
 obtain ⟨y332, hy332⟩ : ∃ y_ : List ByteArray, y_ = (List.replicate ((l0.length : Int) : Int).toNat (⟨#[]⟩ : ByteArray)) := ⟨_, rfl⟩
 replace H : (laws_toStringS.l0 k l0 y332 0) = some r := by first | (rw [hy332]; with_reducible exact H) | (have H2_ := (Option.bind_some _ _).symm.trans H; rw [hy332]; with_reducible exact H2_) | (have H2_ := (Option.bind_some _ _).symm.trans H; with_reducible exact H2_) | with_reducible exact H | (rw [hy332]; exact H) | exact H
 have Ny332 := zz hy332
 clear hy332
 have H' := zz H
 clear H
 go_enter Tryz.func20, Tryz.ntmps20
 go_wp2_with (first | (refine zN 7 ?_; refine Kd.R_make Kd.string _ 9 rfl (N := 7) rfl 39 _ _ rfl (l0.length : Int) rfl rfl Tryz.underlying39 (.string ⟨#[]⟩) 16 info9 rfl (by decide) (by omega) (⟨#[]⟩ : ByteArray) (ok := fun _ => True) (okp := fun _ => True) rfl (fun _ hk => hk) trivial (z2) (Nat.le_trans (Nat.mul_le_mul_right _ (z2 : (l0.length : Int).toNat ≤ 17592186044416)) (by omega)) (Below.refl _ _) (Nat.le_refl _) ?_; intro v333 w4 ho5 hb hg_ hnew_; clear hg_ hnew_; (first | rw [← Ny332.out] at ho5 | (simp only [Int.reduceToNat] at ho5; rw [← Ny332.out] at ho5)); have HO334 := zz (Kd.R_lower ho5 (below_size zb)); replace HB := zz (zv zb hb); clear hb ho5))
 go_loopg [4] k (fun kq v4 w' => ∃ (x3_1 : List ByteArray) (x4_1 : Int), v4 = .int .i64 x4_1 ∧ Aside0 (laws_toStringS.l0 kq l0 x3_1 x4_1 = some r) ∧ Aside0 (kq ≤ k) ∧ Aside0 (Kd.R Kd.string 9 w' w.heap.size (fun _ => True) v333 x3_1) ∧ Aside0 (Below w.heap.size w w'))
 case atStart => exact ⟨(y332), (0), zr, H', ⟨Nat.le_refl _⟩, ⟨by (with_reducible repeat (first | apply Kd.R_alloc | apply Kd.R_drewN | apply Kd.R_drew)); exact HO334.out⟩, ⟨zb⟩⟩
 case round =>
  clear H'
  try clear c2
  try clear c2b0
  try clear c2b1
  try clear p2
  try clear c3
  try clear c3b0
  try clear c3b1
  obtain ⟨x3_1, x4_1, rfl, HA, HK1, HO_3, HB⟩ := hrel
  cases gk with
  | zero => exact absurd HA.out (by simp [laws_toStringS.l0])
  | succ k1 =>
   have H := HA.out
   clear HA
   simp only [laws_toStringS.l0] at H
   by_cases c6 : x4_1 < (l0.length : Int)
   case neg =>
    rw [if_neg c6] at H
    have c6b0 := z0 c6
    clear c6
    obtain rfl := zi H
    go_wp2
    go_ret
    exact ⟨_, ze, by (with_reducible repeat (first | apply Kd.R_alloc | apply Kd.R_drewN | apply Kd.R_drew)); exact HO_3.out, zb⟩
   rw [if_pos c6] at H
   have c6b0 := z1 c6
   clear c6
   by_cases c7 : 0 ≤ x4_1
   case neg => exact zno H c7
   rw [if_pos c7] at H
   have c7b0 := z1 c7
   clear c7
   by_cases c8 : x4_1 < (x3_1.length : Int)
   case neg => exact zno H c8
   rw [if_pos c8] at H
   have c8b0 := z1 c8
   clear c8
   obtain ⟨y336, hy336⟩ : ∃ y_ : List ByteArray, y_ = (x3_1.set (x4_1 : Int).toNat (rdOf ByteArray.empty l0 x4_1)) := ⟨_, rfl⟩
   replace H : (laws_toStringS.l0 k1 l0 y336 (wrap64 (x4_1 + 1))) = some r := by first | (rw [hy336]; with_reducible exact H) | (have H2_ := (Option.bind_some _ _).symm.trans H; rw [hy336]; with_reducible exact H2_) | (have H2_ := (Option.bind_some _ _).symm.trans H; with_reducible exact H2_) | with_reducible exact H | (rw [hy336]; exact H) | exact H
   have Ny336 := zz hy336
   clear hy336
   have H' := zz H
   clear H
   have p335 : 0 ≤ (x4_1 : Int) := z2
   have q335 : x4_1 < (l0.length : Int) := z2
   obtain ⟨ad335, e335, hx335_0⟩ := Kd.at_string HR0.out x4_1 p335 q335
   cases e335
   replace hx335_0 := z3 HB.out hx335_0
   replace p335 := eq_true p335
   replace q335 := eq_true q335
   have p9 : 0 ≤ (x4_1 : Int) := z2
   have q9 : (x4_1 : Int) < ((x3_1.length : Int) : Int) := z2
   obtain ⟨go9, co9, eo9, gb9, gl9, cl9, HG9⟩ := Kd.R_form HO_3.out (by omega)
   (first | cases eo9 | (injection eo9 with ea_ en_ ec_; (first | subst ea_ | (injection ea_ with ea_; subst ea_)); subst ec_; clear en_))
   have GB9 := zz gb9
   have GG9 := zz HG9
   clear gb9 gl9 HG9
   obtain ⟨hx9_0, hf9_0⟩ := Kd.R_celln (⟨#[]⟩ : ByteArray) HO_3.out (x4_1 : Int) p9 q9
   replace p9 := eq_true p9
   replace q9 := eq_true q9
   have HP10 := Kd.R_putg HO_3.out (x4_1 : Int) (rdOf ByteArray.empty l0 x4_1)
   go_wp2_with (first | ((with_reducible refine gate_store (t := 9) (p := 20) rfl ?_); refine store_event (t := 9) (p := 20) (v := ?vo_w11) (w1 := (wr.setCell ⟨go9, (x4_1 : Int).toNat, none⟩ (.string (rdOf ByteArray.empty l0 x4_1)))) ?hg ?ho ?hn ?hr ?_; (case ho => rfl); (case hg => rfl); (case hn => rfl); (case hr => first | (go_simp; done) | (go_simp; rfl)); intro w11 hw; have hg : wr.grownBy w11 (some go9) := (by rw [hw]; exact HP10.2); have hp_ : Kd.R Kd.string 9 w11 w.heap.size (fun _ => True) (.slice (some ⟨go9, 0, none⟩) x3_1.length co9) y336 := (by rw [hw, Ny336.out]; exact HP10.1); clear HP10; replace HO_3 := zz (hp_); replace HB := zz ((by rw [hw]; exact below_set (HB.out) GB9.out : Below w.heap.size w w11)); clear hg hw hp_))
   go_roundg k1
   case measure => have := HK1.out; omega
   case rel => exact ⟨(y336), (wrap64 (x4_1 + 1)), zr, H', ⟨by have := HK1.out; omega⟩, ⟨by (with_reducible repeat (first | apply Kd.R_alloc | apply Kd.R_drewN | apply Kd.R_drew)); exact HO_3.out⟩, ⟨zb⟩⟩
def laws_toItem.f (k : Nat) (a0_0 : ByteArray) (a0_1 : ByteArray) (l0_2 : List ByteArray) (a0_3 : ByteArray) (l0_4 : List (S159)) : Option (ByteArray × ByteArray × List ByteArray × ByteArray × (List (S96))) := (laws_toStringS.f k l0_2).bind fun t352 => ((laws_toEntryS.f k l0_4).bind fun t355 => (some (a0_0, a0_1, t352, a0_3, t355)))
theorem laws_toItem.mono : ∀ a0 a1 a2 a3 a4 k, LeO (laws_toItem.f k a0 a1 a2 a3 a4) (laws_toItem.f (k + 1) a0 a1 a2 a3 a4) := by
 intro a0 a1 a2 a3 a4 k
 unfold laws_toItem.f
 have m0 := @laws_toEntryS.mono
 have m1 := @laws_toStringS.mono
 exact zM
theorem laws_toItem.calls (k : Nat) (a0_0 : ByteArray) (a0_1 : ByteArray) (A0_2 : Option Addr) (c0_2 : Nat) (l0_2 : List ByteArray) (a0_3 : ByteArray) (A0_4 : Option Addr) (c0_4 : Nat) (l0_4 : List (S159)) (r1 : ByteArray) (r2 : ByteArray) (r3 : List ByteArray) (r4 : ByteArray) (r5 : List (S96)) (w : World) (hr0_2 : Kd.C Kd.string w A0_2 l0_2.length l0_2) (hc0_2 : l0_2.length ≤ c0_2) (hr0_4 : Kd.C k159 w A0_4 l0_4.length l0_4) (hc0_4 : l0_4.length ≤ c0_4) (h : laws_toItem.f k a0_0 a0_1 l0_2 a0_3 l0_4 = some (r1, r2, r3, r4, r5)) :
 Calls Tryz.prog 85 #[.agg #[.string a0_0, .string a0_1, .slice A0_2 l0_2.length c0_2, .string a0_3, .slice A0_4 l0_4.length c0_4]] w fun e w' => ∃ v2_ v4_ : Value, e = .returned (.agg #[.string r1, .string r2, v2_, .string r4, v4_]) ∧ Kd.R Kd.string 9 w' w.heap.size (fun _ => True) v2_ r3 ∧ Kd.R k96 96 w' w.heap.size (fun _ => True) v4_ r5 ∧ Below w.heap.size w w' := by
 have hu103 := Tryz.underlying103
 have hu94 := Tryz.underlying94
 have HR0_2 := zz hr0_2
 have HC0_2 := zz hc0_2
 clear hr0_2 hc0_2
 have HR0_4 := zz hr0_4
 have HC0_4 := zz hc0_4
 clear hr0_4 hc0_4
 have HB := zz (Below.refl w.heap.size w)
 unfold laws_toItem.f at h
 have H := h
 clear h
 replace H := zf H
 obtain ⟨t352, A20, H⟩ := H
 try dsimp only at H
 have A2 := zz A20
 clear A20
 replace H := zf H
 obtain ⟨t355, A30, H⟩ := H
 try dsimp only at H
 have A3 := zz A30
 clear A30
 simp only [Option.some.injEq, Prod.mk.injEq] at H
 obtain ⟨rfl, rfl, rfl, rfl, rfl⟩ := H
 go_enter Tryz.func85, Tryz.ntmps85
 go_wp2_with (first | (refine zX 1 103 #[.string a0_0, .string a0_1, .slice A0_2 l0_2.length c0_2, .string a0_3, .slice A0_4 l0_4.length c0_4] ?_; intro gb349 hg w4 hbox hb; have BK349 := zz (hbox); have GW349 := zz ((zg : w.heap.size ≤ gb349)); have GE349 := zz ((zg : w.heap.size ≤ gb349)); replace HB := zz (zv zb hb); clear hb hbox hg) | (refine zX 2 94 #[.string (⟨#[]⟩ : ByteArray), .string (⟨#[]⟩ : ByteArray), .slice none 0 0, .string (⟨#[]⟩ : ByteArray), .slice none 0 0] ?_; intro gb350 hg w5 hbox hb; have BK350 := zz (hbox); have GW350 := zz ((zg : w.heap.size ≤ gb350)); have GE350 := zz ((zg : w.heap.size ≤ gb350)); replace HB := zz (zv zb hb); have NB349_350 := zz (zH BK349 hg); have NB350_349 := zz (zI BK349 hg); replace BK349 := zz (zJ BK349 hb); clear hb hbox hg) | (refine zX 3 94 #[.string (⟨#[]⟩ : ByteArray), .string (⟨#[]⟩ : ByteArray), .slice none 0 0, .string (⟨#[]⟩ : ByteArray), .slice none 0 0] ?_; intro gb351 hg w6 hbox hb; have BK351 := zz (hbox); have GW351 := zz ((zg : w.heap.size ≤ gb351)); have GE351 := zz ((zg : w.heap.size ≤ gb351)); replace HB := zz (zv zb hb); have NB349_351 := zz (zH BK349 hg); have NB351_349 := zz (zI BK349 hg); replace BK349 := zz (zJ BK349 hb); have NB350_351 := zz (zH BK350 hg); have NB351_350 := zz (zI BK350 hg); replace BK350 := zz (zJ BK350 hb); clear hb hbox hg; have hnb7 := NB349_350.out; have hnc7 := NB350_349.out; have hnb8 := NB349_351.out; have hnc8 := NB351_349.out; obtain ⟨hcz9_0, hcz9_1, hcz9_2, hcz9_3, hcz9_4, hfz9_0, hfz9_1, hfz9_2, hfz9_3, hfz9_4⟩ := zc5 BK349.out; have hnb10 := NB351_350.out; have hnc10 := NB350_351.out; obtain ⟨hcz11_0, hcz11_1, hcz11_2, hcz11_3, hcz11_4, hfz11_0, hfz11_1, hfz11_2, hfz11_3, hfz11_4⟩ := zc5 BK351.out) | (refine zL 20 12 Tryz.func20 #[.slice A0_2 l0_2.length c0_2] ?_; (with_reducible refine (laws_toStringS.calls k _ _ l0_2 t352 _ ?s1 ?s2 A2.out).mono ?_); (case s1 => exact Kd.C_below HR0_2.out zb); (case s2 => exact HC0_2.out); rintro e w12 ⟨v353, rfl, ho0, hb⟩; refine ⟨_, rfl, ?_⟩; have HO354 := zz (Kd.R_lower ho0 (below_size zb)); replace BK349 := zz (blk_below (g := gb349) (o := .cells #[.string a0_0, .string a0_1, .slice A0_2 l0_2.length c0_2, .string a0_3, .slice A0_4 l0_4.length c0_4] 103 (0, 0)) (by (with_reducible repeat (first | refine blk_drewN ?_ _ | refine blk_drew ?_ | refine blk_alloc ?_ _)); refine blk_far ?_ NB349_351.out _; (with_reducible repeat (first | refine blk_drewN ?_ _ | refine blk_drew ?_ | refine blk_alloc ?_ _)); refine blk_far ?_ NB349_351.out _; (with_reducible repeat (first | refine blk_drewN ?_ _ | refine blk_drew ?_ | refine blk_alloc ?_ _)); exact BK349.out) hb); replace BK350 := zz (blk_below (g := gb350) (o := .cells #[.string (⟨#[]⟩ : ByteArray), .string (⟨#[]⟩ : ByteArray), .slice none 0 0, .string (⟨#[]⟩ : ByteArray), .slice none 0 0] 94 (0, 0)) (by (with_reducible repeat (first | refine blk_drewN ?_ _ | refine blk_drew ?_ | refine blk_alloc ?_ _)); refine blk_far ?_ NB350_351.out _; (with_reducible repeat (first | refine blk_drewN ?_ _ | refine blk_drew ?_ | refine blk_alloc ?_ _)); refine blk_far ?_ NB350_351.out _; (with_reducible repeat (first | refine blk_drewN ?_ _ | refine blk_drew ?_ | refine blk_alloc ?_ _)); exact BK350.out) hb); replace BK351 := zz (blk_below (g := gb351) (o := .cells #[.string a0_0, .string a0_1, .slice none 0 0, .string (⟨#[]⟩ : ByteArray), .slice none 0 0] 94 (0, 0)) (by (with_reducible repeat (first | refine blk_drewN ?_ _ | refine blk_drew ?_ | refine blk_alloc ?_ _)); refine blk_put (cs := #[.string a0_0, .string (⟨#[]⟩ : ByteArray), .slice none 0 0, .string (⟨#[]⟩ : ByteArray), .slice none 0 0]) ?_ 1 _ rfl; (with_reducible repeat (first | refine blk_drewN ?_ _ | refine blk_drew ?_ | refine blk_alloc ?_ _)); refine blk_put (cs := #[.string (⟨#[]⟩ : ByteArray), .string (⟨#[]⟩ : ByteArray), .slice none 0 0, .string (⟨#[]⟩ : ByteArray), .slice none 0 0]) ?_ 0 _ rfl; (with_reducible repeat (first | refine blk_drewN ?_ _ | refine blk_drew ?_ | refine blk_alloc ?_ _)); exact BK351.out) hb); replace HB := zz (zv zb hb); (try clear hb); (try clear hb2); (try clear hk); (try clear hi); (try clear ho0); obtain ⟨Ao13, co13, eo13⟩ := Kd.R_slice HO354.out; subst eo13; obtain ⟨hcz14_0, hcz14_1, hcz14_2, hcz14_3, hcz14_4, hfz14_0, hfz14_1, hfz14_2, hfz14_3, hfz14_4⟩ := zc5 BK351.out; obtain ⟨hcz15_0, hcz15_1, hcz15_2, hcz15_3, hcz15_4, hfz15_0, hfz15_1, hfz15_2, hfz15_3, hfz15_4⟩ := zc5 BK349.out) | (refine zL 123 19 Tryz.func123 #[.slice A0_4 l0_4.length c0_4] ?_; (with_reducible refine (laws_toEntryS.calls k _ _ l0_4 t355 _ ?s1 ?s2 A3.out).mono ?_); (case s1 => exact Kd.C_below HR0_4.out zb); (case s2 => exact HC0_4.out); rintro e w16 ⟨v356, rfl, ho0, hb⟩; refine ⟨_, rfl, ?_⟩; replace HO354 := zz (Kd.R_below (by (with_reducible repeat (first | apply Kd.R_alloc | apply Kd.R_drewN | apply Kd.R_drew)); exact (Kd.R_mono (Kd.R_far (p := ⟨gb351, 3, none⟩) (Kd.R_far (p := ⟨gb351, 2, none⟩) (Kd.R_types HO354.out BK351.out (by decide)) (fun _ hk => hk.2) (.slice Ao13 t352.length co13)) (fun _ hk => hk.2) (.string a0_3)) (fun _ h_ => h_.1))) hb); have HO357 := zz (Kd.R_lower ho0 (below_size zb)); replace BK349 := zz (blk_below (g := gb349) (o := .cells #[.string a0_0, .string a0_1, .slice A0_2 l0_2.length c0_2, .string a0_3, .slice A0_4 l0_4.length c0_4] 103 (0, 0)) (by (with_reducible repeat (first | refine blk_drewN ?_ _ | refine blk_drew ?_ | refine blk_alloc ?_ _)); refine blk_far ?_ NB349_351.out _; (with_reducible repeat (first | refine blk_drewN ?_ _ | refine blk_drew ?_ | refine blk_alloc ?_ _)); refine blk_far ?_ NB349_351.out _; (with_reducible repeat (first | refine blk_drewN ?_ _ | refine blk_drew ?_ | refine blk_alloc ?_ _)); exact BK349.out) hb); replace BK350 := zz (blk_below (g := gb350) (o := .cells #[.string (⟨#[]⟩ : ByteArray), .string (⟨#[]⟩ : ByteArray), .slice none 0 0, .string (⟨#[]⟩ : ByteArray), .slice none 0 0] 94 (0, 0)) (by (with_reducible repeat (first | refine blk_drewN ?_ _ | refine blk_drew ?_ | refine blk_alloc ?_ _)); refine blk_far ?_ NB350_351.out _; (with_reducible repeat (first | refine blk_drewN ?_ _ | refine blk_drew ?_ | refine blk_alloc ?_ _)); refine blk_far ?_ NB350_351.out _; (with_reducible repeat (first | refine blk_drewN ?_ _ | refine blk_drew ?_ | refine blk_alloc ?_ _)); exact BK350.out) hb); replace BK351 := zz (blk_below (g := gb351) (o := .cells #[.string a0_0, .string a0_1, .slice Ao13 t352.length co13, .string a0_3, .slice none 0 0] 94 (0, 0)) (by (with_reducible repeat (first | refine blk_drewN ?_ _ | refine blk_drew ?_ | refine blk_alloc ?_ _)); refine blk_put (cs := #[.string a0_0, .string a0_1, .slice Ao13 t352.length co13, .string (⟨#[]⟩ : ByteArray), .slice none 0 0]) ?_ 3 _ rfl; (with_reducible repeat (first | refine blk_drewN ?_ _ | refine blk_drew ?_ | refine blk_alloc ?_ _)); refine blk_put (cs := #[.string a0_0, .string a0_1, .slice none 0 0, .string (⟨#[]⟩ : ByteArray), .slice none 0 0]) ?_ 2 _ rfl; (with_reducible repeat (first | refine blk_drewN ?_ _ | refine blk_drew ?_ | refine blk_alloc ?_ _)); exact BK351.out) hb); replace HB := zz (zv zb hb); (try clear hb); (try clear hb2); (try clear hk); (try clear hi); (try clear ho0); obtain ⟨Ao17, co17, eo17⟩ := Kd.R_slice HO357.out; subst eo17; obtain ⟨hcz18_0, hcz18_1, hcz18_2, hcz18_3, hcz18_4, hfz18_0, hfz18_1, hfz18_2, hfz18_3, hfz18_4⟩ := zc5 BK351.out; obtain ⟨hcz19_0, hcz19_1, hcz19_2, hcz19_3, hcz19_4, hfz19_0, hfz19_1, hfz19_2, hfz19_3, hfz19_4⟩ := zc5 BK350.out))
 refine bodyPost_ret (results_cell_row rfl _ _ gb350 94 #[.string a0_0, .string a0_1, .slice Ao13 t352.length co13, .string a0_3, .slice Ao17 t355.length co17] (0, 0) _ rfl (by (with_reducible repeat (first | refine blk_drewN ?_ _ | refine blk_drew ?_ | refine blk_alloc ?_ _)); refine blk_put (cs := #[.string a0_0, .string a0_1, .slice Ao13 t352.length co13, .string a0_3, .slice none 0 0]) ?_ 4 _ rfl; (with_reducible repeat (first | refine blk_drewN ?_ _ | refine blk_drew ?_ | refine blk_alloc ?_ _)); refine blk_put (cs := #[.string a0_0, .string a0_1, .slice Ao13 t352.length co13, .string (⟨#[]⟩ : ByteArray), .slice none 0 0]) ?_ 3 _ rfl; (with_reducible repeat (first | refine blk_drewN ?_ _ | refine blk_drew ?_ | refine blk_alloc ?_ _)); refine blk_put (cs := #[.string a0_0, .string a0_1, .slice none 0 0, .string (⟨#[]⟩ : ByteArray), .slice none 0 0]) ?_ 2 _ rfl; (with_reducible repeat (first | refine blk_drewN ?_ _ | refine blk_drew ?_ | refine blk_alloc ?_ _)); refine blk_put (cs := #[.string a0_0, .string (⟨#[]⟩ : ByteArray), .slice none 0 0, .string (⟨#[]⟩ : ByteArray), .slice none 0 0]) ?_ 1 _ rfl; (with_reducible repeat (first | refine blk_drewN ?_ _ | refine blk_drew ?_ | refine blk_alloc ?_ _)); refine blk_put (cs := #[.string (⟨#[]⟩ : ByteArray), .string (⟨#[]⟩ : ByteArray), .slice none 0 0, .string (⟨#[]⟩ : ByteArray), .slice none 0 0]) ?_ 0 _ rfl; (with_reducible repeat (first | refine blk_drewN ?_ _ | refine blk_drew ?_ | refine blk_alloc ?_ _)); refine blk_far ?_ NB350_351.out _; (with_reducible repeat (first | refine blk_drewN ?_ _ | refine blk_drew ?_ | refine blk_alloc ?_ _)); exact BK350.out) Tryz.underlying94 rfl zk) rfl ?_
 exact ⟨_, _, ze, by (with_reducible repeat (first | apply Kd.R_alloc | apply Kd.R_drewN | apply Kd.R_drew)); exact Kd.R_mono (Kd.R_far (p := ⟨gb350, 4, none⟩) (Kd.R_far (p := ⟨gb350, 3, none⟩) (Kd.R_far (p := ⟨gb350, 2, none⟩) (Kd.R_far (p := ⟨gb350, 1, none⟩) (Kd.R_far (p := ⟨gb350, 0, none⟩) (Kd.R_far (p := ⟨gb351, 4, none⟩) (Kd.R_types (Kd.R_types HO354.out BK351.out (by decide)) BK350.out (by decide)) (fun _ hk => hk.1.2) (.slice Ao17 t355.length co17)) (fun _ hk => hk.2) (.string a0_0)) (fun _ hk => hk.2) (.string a0_1)) (fun _ hk => hk.2) (.slice Ao13 t352.length co13)) (fun _ hk => hk.2) (.string a0_3)) (fun _ hk => hk.2) (.slice Ao17 t355.length co17)) (fun _ hk => trivial), by (with_reducible repeat (first | apply Kd.R_alloc | apply Kd.R_drewN | apply Kd.R_drew)); exact Kd.R_mono (Kd.R_far (p := ⟨gb350, 4, none⟩) (Kd.R_far (p := ⟨gb350, 3, none⟩) (Kd.R_far (p := ⟨gb350, 2, none⟩) (Kd.R_far (p := ⟨gb350, 1, none⟩) (Kd.R_far (p := ⟨gb350, 0, none⟩) (Kd.R_far (p := ⟨gb351, 4, none⟩) (Kd.R_types (Kd.R_types HO357.out BK351.out (by decide)) BK350.out (by decide)) (fun _ hk => hk.1.2) (.slice Ao17 t355.length co17)) (fun _ hk => hk.2) (.string a0_0)) (fun _ hk => hk.2) (.string a0_1)) (fun _ hk => hk.2) (.slice Ao13 t352.length co13)) (fun _ hk => hk.2) (.string a0_3)) (fun _ hk => hk.2) (.slice Ao17 t355.length co17)) (fun _ hk => trivial), zb⟩
section
attribute [local go_sem] run_store_one
def laws_toItemS.l0 : Nat → List (S103) → List (S94) → Int → Option ((List (S94)))
 | 0, _, _, _ => none
 | k + 1, x0, x3, x4 => if x4 < (x0.length : Int) then (if 0 ≤ x4 then ((laws_toItem.f k ((rd_T103 x0 x4).f0) ((rd_T103 x0 x4).f1) ((rd_T103 x0 x4).f2) ((rd_T103 x0 x4).f3) ((rd_T103 x0 x4).f4)).bind fun bt362 => (if x4 < (x3.length : Int) then (laws_toItemS.l0 k x0 (x3.set (x4 : Int).toNat (⟨bt362.1, bt362.2.1, bt362.2.2.1, bt362.2.2.2.1, bt362.2.2.2.2⟩ : S94)) (wrap64 (x4 + 1))) else (none))) else (none)) else (some x3)
def laws_toItemS.f (k : Nat) (l0 : List (S103)) : Option ((List (S94))) := if 0 ≤ (l0.length : Int) then (if ((l0.length : Int) : Int).toNat ≤ 2932031007402 then (laws_toItemS.l0 k l0 (List.replicate ((l0.length : Int) : Int).toNat z94) 0) else (none)) else (none)
theorem laws_toItemS.mono_l : ∀ k, (∀ y0 y1 y2, LeO (laws_toItemS.l0 k y0 y1 y2) (laws_toItemS.l0 (k + 1) y0 y1 y2))
 | 0 => fun _ _ _ r h => by simp [laws_toItemS.l0] at h
 | k + 1 => by
  have ih0 := laws_toItemS.mono_l k
  ·intro y0 y1 y2
   unfold laws_toItemS.l0
   have m0 := @laws_toItem.mono
   exact zM
theorem laws_toItemS.mono : ∀ a0 k, LeO (laws_toItemS.f k a0) (laws_toItemS.f (k + 1) a0) := by
 intro a0 k
 have ih0 := laws_toItemS.mono_l k
 unfold laws_toItemS.f
 have m0 := @laws_toItem.mono
 exact zM
theorem laws_toItemS.calls (k : Nat) (A0 : Option Addr) (c0 : Nat) (l0 : List (S103)) (r : List (S94)) (w : World) (hr0 : Kd.C k103 w A0 l0.length l0) (hc0 : l0.length ≤ c0) (h : laws_toItemS.f k l0 = some r) :
 Calls Tryz.prog 38 #[.slice A0 l0.length c0] w fun e w' => ∃ v0_ : Value, e = .returned (v0_) ∧ Kd.S k94 94 w' w.heap.size (fun _ => True) v0_ r ∧ Below w.heap.size w w' := by
 have hu103 := Tryz.underlying103
 have hu94 := Tryz.underlying94
 have HR0 := zz hr0
 have HC0 := zz hc0
 clear hr0 hc0
 have HB := zz (Below.refl w.heap.size w)
 unfold laws_toItemS.f at h
 have H := h
 clear h
 by_cases c2 : 0 ≤ (l0.length : Int)
 case neg => exact zno H c2
 rw [if_pos c2] at H
 have c2b0 := eq_true c2
 have c2b1 := z1 c2
 clear c2
 by_cases c3 : ((l0.length : Int) : Int).toNat ≤ 2932031007402
 case neg => exact zno H c3
 rw [if_pos c3] at H
 have c3b0 := eq_true c3
 have c3b1 := z1 c3
 clear c3
 obtain ⟨y358, hy358⟩ : ∃ y_ : List (S94), y_ = (List.replicate ((l0.length : Int) : Int).toNat z94) := ⟨_, rfl⟩
 replace H : (laws_toItemS.l0 k l0 y358 0) = some r := by first | (rw [hy358]; with_reducible exact H) | (have H2_ := (Option.bind_some _ _).symm.trans H; rw [hy358]; with_reducible exact H2_) | (have H2_ := (Option.bind_some _ _).symm.trans H; with_reducible exact H2_) | with_reducible exact H | (rw [hy358]; exact H) | exact H
 have Ny358 := zz hy358
 clear hy358
 have H' := zz H
 clear H
 go_enter Tryz.func38, Tryz.ntmps38
 go_wp2_with (first | (refine zN 7 ?_; refine Kd.S_make k94 _ 94 rfl (N := 7) rfl 30 _ _ rfl (l0.length : Int) rfl rfl Tryz.underlying30 (.agg #[(.string ⟨#[]⟩), (.string ⟨#[]⟩), (.slice none 0 0), (.string ⟨#[]⟩), (.slice none 0 0)]) 96 info94 rfl (by decide) (by omega) z94 (ok := fun _ => True) (okp := fun _ => True) (k94_mkM _ _ _ z94 (Kd.R_nil _ _ _ _ _) (Kd.R_nil _ _ _ _ _)) (fun _ hk => hk) trivial (z2) (Nat.le_trans (Nat.mul_le_mul_right _ (z2 : (l0.length : Int).toNat ≤ 2932031007402)) (by omega)) (Below.refl _ _) (Nat.le_refl _) ?_; intro v359 w4 ho5 hb hg_ hnew_; clear hg_ hnew_; (first | rw [← Ny358.out] at ho5 | (simp only [Int.reduceToNat] at ho5; rw [← Ny358.out] at ho5)); have HO360 := zz (Kd.S_lower ho5 (below_size zb)); replace HB := zz (zv zb hb); clear hb ho5))
 go_loopg [4] k (fun kq v4 w' => ∃ (x3_1 : List (S94)) (x4_1 : Int), v4 = .int .i64 x4_1 ∧ Aside0 (laws_toItemS.l0 kq l0 x3_1 x4_1 = some r) ∧ Aside0 (kq ≤ k) ∧ Aside0 (Kd.S k94 94 w' w.heap.size (fun _ => True) v359 x3_1) ∧ Aside0 (Below w.heap.size w w'))
 case atStart => exact ⟨(y358), (0), zr, H', ⟨Nat.le_refl _⟩, ⟨by (with_reducible repeat (first | apply Kd.S_alloc | apply Kd.S_drewN | apply Kd.S_drew)); exact HO360.out⟩, ⟨zb⟩⟩
 case round =>
  clear H'
  try clear c2
  try clear c2b0
  try clear c2b1
  try clear p2
  try clear c3
  try clear c3b0
  try clear c3b1
  obtain ⟨x3_1, x4_1, rfl, HA, HK1, HO_3, HB⟩ := hrel
  cases gk with
  | zero => exact absurd HA.out (by simp [laws_toItemS.l0])
  | succ k1 =>
   have H := HA.out
   clear HA
   simp only [laws_toItemS.l0] at H
   by_cases c6 : x4_1 < (l0.length : Int)
   case neg =>
    rw [if_neg c6] at H
    have c6b0 := z0 c6
    clear c6
    obtain rfl := zi H
    go_wp2
    go_ret
    exact ⟨_, ze, by (with_reducible repeat (first | apply Kd.S_alloc | apply Kd.S_drewN | apply Kd.S_drew)); exact HO_3.out, zb⟩
   rw [if_pos c6] at H
   have c6b0 := z1 c6
   clear c6
   by_cases c7 : 0 ≤ x4_1
   case neg => exact zno H c7
   rw [if_pos c7] at H
   have c7b0 := z1 c7
   clear c7
   replace H := zf H
   obtain ⟨⟨t362, t363, t364, t367, t368⟩, A80, H⟩ := H
   try dsimp only at H
   have A8 := zz A80
   clear A80
   by_cases c9 : x4_1 < (x3_1.length : Int)
   case neg => exact zno H c9
   rw [if_pos c9] at H
   have c9b0 := z1 c9
   clear c9
   obtain ⟨y371, hy371⟩ : ∃ y_ : List (S94), y_ = (x3_1.set (x4_1 : Int).toNat (⟨t362, t363, t364, t367, t368⟩ : S94)) := ⟨_, rfl⟩
   replace H : (laws_toItemS.l0 k1 l0 y371 (wrap64 (x4_1 + 1))) = some r := by first | (rw [hy371]; with_reducible exact H) | (have H2_ := (Option.bind_some _ _).symm.trans H; rw [hy371]; with_reducible exact H2_) | (have H2_ := (Option.bind_some _ _).symm.trans H; with_reducible exact H2_) | with_reducible exact H | (rw [hy371]; exact H) | exact H
   have Ny371 := zz hy371
   clear hy371
   have H' := zz H
   clear H
   have p361 : 0 ≤ (x4_1 : Int) := z2
   have q361 : x4_1 < (l0.length : Int) := z2
   obtain ⟨ad361, A361_2, c361_2, A361_4, c361_4, e361, hx361_0, hx361_1, hx361_2, hx361_3, hx361_4, hl361_2, hi361_2, hl361_4, hi361_4⟩ := at_T103 HR0.out x4_1 p361 q361
   cases e361
   replace hx361_0 := z3 HB.out hx361_0
   replace hx361_1 := z3 HB.out hx361_1
   replace hx361_2 := z3 HB.out hx361_2
   replace hx361_3 := z3 HB.out hx361_3
   replace hx361_4 := z3 HB.out hx361_4
   have HR361_2 := zz hi361_2
   have HC361_2 := zz hl361_2
   clear hi361_2 hl361_2
   have HR361_4 := zz hi361_4
   have HC361_4 := zz hl361_4
   clear hi361_4 hl361_4
   replace p361 := eq_true p361
   replace q361 := eq_true q361
   go_wp2_with (first | (refine zL 85 20 Tryz.func85 #[.agg #[.string ((rd_T103 l0 x4_1).f0), .string ((rd_T103 l0 x4_1).f1), .slice A361_2 ((rd_T103 l0 x4_1).f2).length c361_2, .string ((rd_T103 l0 x4_1).f3), .slice A361_4 ((rd_T103 l0 x4_1).f4).length c361_4]] ?_; (with_reducible refine (laws_toItem.calls k1 ((rd_T103 l0 x4_1).f0) ((rd_T103 l0 x4_1).f1) _ _ ((rd_T103 l0 x4_1).f2) ((rd_T103 l0 x4_1).f3) _ _ ((rd_T103 l0 x4_1).f4) t362 t363 t364 t367 t368 _ ?s1 ?s2 ?s3 ?s4 A8.out).mono ?_); (case s1 => exact zc HR361_2.out); (case s2 => exact HC361_2.out); (case s3 => exact zc HR361_4.out); (case s4 => exact HC361_4.out); rintro e w11 ⟨v365, v369, rfl, ho0, ho1, hb⟩; refine ⟨_, rfl, ?_⟩; replace HO_3 := zz (Kd.S_mono (Kd.S_told (Kd.S_told (Kd.S_old (zS HO_3.out) hb) (Kd.R_base ho0)) (Kd.R_base ho1)) (fun _ h_ => h_.1)); have HO366 := zz (Kd.R_lower ho0 (below_size zb)); have HO370 := zz (Kd.R_lower ho1 (below_size zb)); replace HB := zz (zv zb hb); (try clear hb); (try clear hb2); (try clear hk); (try clear hi); (try clear ho0); (try clear ho1); have p10 : 0 ≤ (x4_1 : Int) := z2; have q10 : (x4_1 : Int) < ((x3_1.length : Int) : Int) := z2; obtain ⟨go10, co10, eo10, gb10, gl10, cl10, HG10⟩ := Kd.S_form HO_3.out (by omega); (first | cases eo10 | (injection eo10 with ea_ en_ ec_; (first | subst ea_ | (injection ea_ with ea_; subst ea_)); subst ec_; clear en_)); have GB10 := zz gb10; have GG10 := zz HG10; clear gb10 gl10 HG10; obtain ⟨_, ce10, hcl10, hM10, hcc10, hfr10, _, _⟩ := Kd.S_elem HO_3.out z94 (x4_1 : Int) p10 q10; obtain ⟨ve10_2, ve10_4, rfl, ge10_2, ge10_4⟩ := k94_openM hM10; have hx10_0 : w11.cell? ⟨go10, (x4_1 : Int).toNat * 5, none⟩ = some (.string ((rd_T94 x3_1 x4_1).f0)) := hcc10 0 _ rfl; have hx10_1 : w11.cell? ⟨go10, (x4_1 : Int).toNat * 5 + 1, none⟩ = some (.string ((rd_T94 x3_1 x4_1).f1)) := hcc10 1 _ rfl; have hx10_2 : w11.cell? ⟨go10, (x4_1 : Int).toNat * 5 + 2, none⟩ = some (ve10_2) := hcc10 2 _ rfl; have hx10_3 : w11.cell? ⟨go10, (x4_1 : Int).toNat * 5 + 3, none⟩ = some (.string ((rd_T94 x3_1 x4_1).f3)) := hcc10 3 _ rfl; have hx10_4 : w11.cell? ⟨go10, (x4_1 : Int).toNat * 5 + 4, none⟩ = some (ve10_4) := hcc10 4 _ rfl; have hf10_0 : w11.frozen? ⟨go10, (x4_1 : Int).toNat * 5, none⟩ = false := hfr10 0; have hf10_1 : w11.frozen? ⟨go10, (x4_1 : Int).toNat * 5 + 1, none⟩ = false := hfr10 1; have hf10_2 : w11.frozen? ⟨go10, (x4_1 : Int).toNat * 5 + 2, none⟩ = false := hfr10 2; have hf10_3 : w11.frozen? ⟨go10, (x4_1 : Int).toNat * 5 + 3, none⟩ = false := hfr10 3; have hf10_4 : w11.frozen? ⟨go10, (x4_1 : Int).toNat * 5 + 4, none⟩ = false := hfr10 4; clear hcl10 hcc10 hfr10 hM10; replace p10 := eq_true p10; replace q10 := eq_true q10; have n_ := zz (Kd.S_mono (ok' := (fun k_ => some k_ ≠ (v365 : Value).ownBlock ∧ some k_ ≠ (v369 : Value).ownBlock)) HO_3.out (fun k_ hk => ⟨hk.1.2, hk.2⟩)); clear HO_3; have HO_3 := n_; clear n_; have HX12 := zz (show Kd.S k94 94 w11 w.heap.size (fun k_ => ((fun _ => True)) k_ ∧ ¬ ((fun k_ => some k_ = (v365 : Value).ownBlock ∨ some k_ = (v369 : Value).ownBlock)) k_) (.slice (some ⟨go10, 0, none⟩) x3_1.length co10) x3_1 from (by (with_reducible repeat (first | apply Kd.S_alloc | apply Kd.S_drewN | apply Kd.S_drew)); exact Kd.S_mono HO_3.out (fun k_ hk => ⟨trivial, fun e_ => e_.elim (fun h_ => hk.1 h_) (fun h_ => hk.2 h_)⟩))); obtain ⟨oki12, ce12, hcl12, hM12, hcc12, hfr12, hoki12, hH12⟩ := Kd.S_elem HX12.out z94 (x4_1 : Int) (z2) (by have h_ : (x4_1 : Int) < ((x3_1.length : Int) : Int) := z2; first | exact h_ | (have e_ := (Kd.S_reads' HO_3.out).1; omega) | simpa using h_); obtain ⟨ve12_2, ve12_4, rfl, ge12_2, ge12_4⟩ := k94_openM hM12; have HP12 := Kd.S_seg hH12 (z2) (by have h_ : (x4_1 : Int) < ((x3_1.length : Int) : Int) := z2; first | exact h_ | (have e_ := (Kd.S_reads' HO_3.out).1; omega) | simpa using h_) (seg := [.string t362, .string t363, v365, .string t367, v369]) (j := 0) (show 5 ≤ 5 from by decide) (x' := (⟨t362, t363, t364, t367, t368⟩ : S94)) (k94_mkM _ _ _ (⟨t362, t363, t364, t367, t368⟩ : S94) (Kd.R_mono (Kd.R_tight rfl (Kd.R_mono (ok' := fun k_ => ((fun _ => True)) k_ ∧ k_ ≠ go10) (Kd.R_apart' (HO366.out) (Kd.S_typed HO_3.out) (by decide)) (fun k_ hk => ⟨trivial, fun e_ => (hk.2) (by rw [e_]; rfl)⟩))) (fun _ h_ => Or.inr (Or.inl h_))) (Kd.R_mono (Kd.R_tight rfl (Kd.R_mono (ok' := fun k_ => ((fun _ => True)) k_ ∧ k_ ≠ go10) (Kd.R_apart' (HO370.out) (Kd.S_typed HO_3.out) (by decide)) (fun k_ hk => ⟨trivial, fun e_ => (hk.2) (by rw [e_]; rfl)⟩))) (fun _ h_ => Or.inr (Or.inr (h_))))) (fun _ hk => hk) (fun k_ hk_ => hk_.elim (fun h_ => ((Kd.R_mono (ok' := fun k_ => ((fun _ => True)) k_ ∧ k_ ≠ go10) (Kd.R_apart' (HO366.out) (Kd.S_typed HO_3.out) (by decide)) (fun k_ hk => ⟨trivial, fun e_ => (hk.2) (by rw [e_]; rfl)⟩))).1 k_ h_.symm) (fun h_ => ((Kd.R_mono (ok' := fun k_ => ((fun _ => True)) k_ ∧ k_ ≠ go10) (Kd.R_apart' (HO370.out) (Kd.S_typed HO_3.out) (by decide)) (fun k_ hk => ⟨trivial, fun e_ => (hk.2) (by rw [e_]; rfl)⟩))).1 k_ h_.symm)); have hx12_0 := hcc12 0 _ rfl; (try simp only [show (k94).sz = 5 from rfl, Nat.mul_one, Nat.add_zero] at hx12_0); have hf12_0 := hfr12 0; (try simp only [show (k94).sz = 5 from rfl, Nat.mul_one, Nat.add_zero] at hf12_0); have hx12_1 := hcc12 1 _ rfl; (try simp only [show (k94).sz = 5 from rfl, Nat.mul_one, Nat.add_zero] at hx12_1); have hf12_1 := hfr12 1; (try simp only [show (k94).sz = 5 from rfl, Nat.mul_one, Nat.add_zero] at hf12_1); have hx12_2 := hcc12 2 _ rfl; (try simp only [show (k94).sz = 5 from rfl, Nat.mul_one, Nat.add_zero] at hx12_2); have hf12_2 := hfr12 2; (try simp only [show (k94).sz = 5 from rfl, Nat.mul_one, Nat.add_zero] at hf12_2); have hx12_3 := hcc12 3 _ rfl; (try simp only [show (k94).sz = 5 from rfl, Nat.mul_one, Nat.add_zero] at hx12_3); have hf12_3 := hfr12 3; (try simp only [show (k94).sz = 5 from rfl, Nat.mul_one, Nat.add_zero] at hf12_3); have hx12_4 := hcc12 4 _ rfl; (try simp only [show (k94).sz = 5 from rfl, Nat.mul_one, Nat.add_zero] at hx12_4); have hf12_4 := hfr12 4; (try simp only [show (k94).sz = 5 from rfl, Nat.mul_one, Nat.add_zero] at hf12_4); clear hcl12 hcc12 hfr12 hM12 hoki12 hH12; have hone12_2 := R_one HO366.out; have hone12_4 := R_one HO370.out) | ((with_reducible refine gate_store (t := 94) (p := 21) rfl ?_); refine store_event (t := 94) (p := 21) (v := ?vo_w13) (w1 := (((((w11.setCell ⟨go10, (x4_1 : Int).toNat * 5, none⟩ (.string t362)).setCell ⟨go10, (x4_1 : Int).toNat * 5 + 1, none⟩ (.string t363)).setCell ⟨go10, (x4_1 : Int).toNat * 5 + 2, none⟩ (v365)).setCell ⟨go10, (x4_1 : Int).toNat * 5 + 3, none⟩ (.string t367)).setCell ⟨go10, (x4_1 : Int).toNat * 5 + 4, none⟩ (v369))) ?hg ?ho ?hn ?hr ?_; (case ho => rfl); (case hg => rfl); (case hn => rfl); (case hr => first | (go_simp; done) | (go_simp; rfl)); intro w13 hw; have hg : w11.grownBy w13 (some go10) := (by rw [hw]; exact HP12.2); have hp_ : Kd.S k94 94 w13 w.heap.size (fun _ => True) (.slice (some ⟨go10, 0, none⟩) x3_1.length co10) y371 := (by rw [hw, Ny371.out]; exact HP12.1); clear HP12; replace HO_3 := zz (hp_); replace HB := zz ((by rw [hw]; exact below_set (below_set (below_set (below_set (below_set (HB.out) GB10.out) GB10.out) GB10.out) GB10.out) GB10.out : Below w.heap.size w w13)); clear HO366 HO370; clear hg hw hp_))
   go_roundg k1
   case measure => have := HK1.out; omega
   case rel => exact ⟨(y371), (wrap64 (x4_1 + 1)), zr, H', ⟨by have := HK1.out; omega⟩, ⟨by (with_reducible repeat (first | apply Kd.S_alloc | apply Kd.S_drewN | apply Kd.S_drew)); exact HO_3.out⟩, ⟨zb⟩⟩
end
def laws_toGen.f (a0_0 : Int) (a0_1 : ByteArray) : Option (Int × ByteArray) := some (a0_0, a0_1)
theorem laws_toGen.calls (a0_0 : Int) (a0_1 : ByteArray) (r1 : Int) (r2 : ByteArray) (w : World) (h : laws_toGen.f a0_0 a0_1 = some (r1, r2)) :
 Calls Tryz.prog 144 #[.agg #[.int .i64 a0_0, .string a0_1]] w fun e w' => e = .returned (.agg #[.int .i64 r1, .string r2]) ∧ Below w.heap.size w w' := by
 have hu161 := Tryz.underlying161
 have hu70 := Tryz.underlying70
 have HB := zz (Below.refl w.heap.size w)
 unfold laws_toGen.f at h
 have H := h
 clear h
 simp only [Option.some.injEq, Prod.mk.injEq] at H
 obtain ⟨rfl, rfl⟩ := H
 go_enter Tryz.func144, Tryz.ntmps144
 go_wp2_with (first | (refine zX 1 161 #[.int .i64 a0_0, .string a0_1] ?_; intro gb372 hg w2 hbox hb; have BK372 := zz (hbox); have GW372 := zz ((zg : w.heap.size ≤ gb372)); have GE372 := zz ((zg : w.heap.size ≤ gb372)); replace HB := zz (zv zb hb); clear hb hbox hg) | (refine zX 2 70 #[.int .i64 0, .string (⟨#[]⟩ : ByteArray)] ?_; intro gb373 hg w3 hbox hb; have BK373 := zz (hbox); have GW373 := zz ((zg : w.heap.size ≤ gb373)); have GE373 := zz ((zg : w.heap.size ≤ gb373)); replace HB := zz (zv zb hb); have NB372_373 := zz (zH BK372 hg); have NB373_372 := zz (zI BK372 hg); replace BK372 := zz (zJ BK372 hb); clear hb hbox hg) | (refine zX 3 70 #[.int .i64 0, .string (⟨#[]⟩ : ByteArray)] ?_; intro gb374 hg w4 hbox hb; have BK374 := zz (hbox); have GW374 := zz ((zg : w.heap.size ≤ gb374)); have GE374 := zz ((zg : w.heap.size ≤ gb374)); replace HB := zz (zv zb hb); have NB372_374 := zz (zH BK372 hg); have NB374_372 := zz (zI BK372 hg); replace BK372 := zz (zJ BK372 hb); have NB373_374 := zz (zH BK373 hg); have NB374_373 := zz (zI BK373 hg); replace BK373 := zz (zJ BK373 hb); clear hb hbox hg; have hnb5 := NB372_373.out; have hnc5 := NB373_372.out; have hnb6 := NB372_374.out; have hnc6 := NB374_372.out; obtain ⟨hcz7_0, hcz7_1, hfz7_0, hfz7_1⟩ := zc2 BK372.out; have hnb8 := NB374_373.out; have hnc8 := NB373_374.out; obtain ⟨hcz9_0, hcz9_1, hfz9_0, hfz9_1⟩ := zc2 BK374.out; obtain ⟨hcz10_0, hcz10_1, hfz10_0, hfz10_1⟩ := zc2 BK373.out))
 refine bodyPost_ret (results_cell_row rfl _ _ gb373 70 #[.int .i64 a0_0, .string a0_1] (0, 0) _ rfl (by (with_reducible repeat (first | refine blk_drewN ?_ _ | refine blk_drew ?_ | refine blk_alloc ?_ _)); refine blk_put (cs := #[.int .i64 a0_0, .string (⟨#[]⟩ : ByteArray)]) ?_ 1 _ rfl; (with_reducible repeat (first | refine blk_drewN ?_ _ | refine blk_drew ?_ | refine blk_alloc ?_ _)); refine blk_put (cs := #[.int .i64 0, .string (⟨#[]⟩ : ByteArray)]) ?_ 0 _ rfl; (with_reducible repeat (first | refine blk_drewN ?_ _ | refine blk_drew ?_ | refine blk_alloc ?_ _)); refine blk_far ?_ NB373_374.out _; (with_reducible repeat (first | refine blk_drewN ?_ _ | refine blk_drew ?_ | refine blk_alloc ?_ _)); refine blk_far ?_ NB373_374.out _; (with_reducible repeat (first | refine blk_drewN ?_ _ | refine blk_drew ?_ | refine blk_alloc ?_ _)); exact BK373.out) Tryz.underlying70 rfl zk) rfl ?_
 exact ⟨ze, zb⟩
end Go.Proofs.YtcekmnclmldmmaaGreatDoor.Q
