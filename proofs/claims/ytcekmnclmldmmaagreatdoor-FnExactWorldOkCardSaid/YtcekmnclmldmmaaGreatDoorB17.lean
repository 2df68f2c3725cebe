import Derived.Test.YtcekmnclmldmmaaGreatDoorB16
import Derived.Test.YtcekmnclmldmmaaGreatDoorB10
set_option linter.unusedVariables false
set_option linter.unusedSimpArgs false
namespace Go.Proofs.YtcekmnclmldmmaaGreatDoor.Q
open Go.RowKit W1 W2 W3
attribute [local go_sem] max2_int min2_int max_two min_two max_three min_three max_four min_four
attribute [local go_sem high] bl_leq bl_gtr bl_geq
set_option maxHeartbeats 8000000
set_option maxRecDepth 100000
def impl_PackTree.l0 : Nat → List Int → List (S96) → Int → Int → Option (List Int)
 | 0, _, _, _, _ => none
 | k + 1, x3, x15, x16, x17 => if x17 < x16 then (if 0 ≤ x17 then (if x17 < (x15.length : Int) then (if (rd_T96 x15 x17).f3 = true then (if x3.length < 140737488355328 then ((impl_varint.f k (x3 ++ [(((rd_T96 x15 x17).f1) + 16) % 256]) (((rd_T96 x15 x17).f0).size : Int)).bind fun t499 => (if t499.length + ((rd_T96 x15 x17).f0).size < 140737488355328 then ((impl_varint.f k (t499 ++ bytesOf ((rd_T96 x15 x17).f0)) (((rd_T96 x15 x17).f2).size : Int)).bind fun t505 => (if t505.length + ((rd_T96 x15 x17).f2).size < 140737488355328 then (impl_PackTree.l0 k (t505 ++ bytesOf ((rd_T96 x15 x17).f2)) x15 x16 (wrap64 (x17 + 1))) else (none))) else (none))) else (none)) else (if x3.length < 140737488355328 then ((impl_varint.f k (x3 ++ [((rd_T96 x15 x17).f1) % 256]) (((rd_T96 x15 x17).f0).size : Int)).bind fun t514 => (if t514.length + ((rd_T96 x15 x17).f0).size < 140737488355328 then ((impl_varint.f k (t514 ++ bytesOf ((rd_T96 x15 x17).f0)) (((rd_T96 x15 x17).f2).size : Int)).bind fun t520 => (if t520.length + ((rd_T96 x15 x17).f2).size < 140737488355328 then (impl_PackTree.l0 k (t520 ++ bytesOf ((rd_T96 x15 x17).f2)) x15 x16 (wrap64 (x17 + 1))) else (none))) else (none))) else (none))) else (none)) else (none)) else (some x3)
def impl_PackTree.f (k : Nat) (l0 : List (S96)) : Option (List Int) := (impl_TreeOk.f k l0).bind fun t487 => (if t487 = true then ((impl_varint.f k (([76, 65, 82, 49] : List Int)) (l0.length : Int)).bind fun t491 => (impl_PackTree.l0 k t491 l0 (l0.length : Int) 0)) else (some ([] : List Int)))
theorem impl_PackTree.mono_l : ∀ k, (∀ y0 y1 y2 y3, LeO (impl_PackTree.l0 k y0 y1 y2 y3) (impl_PackTree.l0 (k + 1) y0 y1 y2 y3))
 | 0 => fun _ _ _ _ r h => by simp [impl_PackTree.l0] at h
 | k + 1 => by
  have ih0 := impl_PackTree.mono_l k
  ·intro y0 y1 y2 y3
   unfold impl_PackTree.l0
   have m0 := @impl_TreeOk.mono
   have m1 := @impl_varint.mono
   exact zM
theorem impl_PackTree.mono : ∀ a0 k, LeO (impl_PackTree.f k a0) (impl_PackTree.f (k + 1) a0) := by
 intro a0 k
 have ih0 := impl_PackTree.mono_l k
 unfold impl_PackTree.f
 have m0 := @impl_TreeOk.mono
 have m1 := @impl_varint.mono
 exact zM
def impl_PackTree.T10 : Bool × List (List Nat × List Nat) := (true, [([], []), ([], []), ([1], [1]), ([0, 2], [0, 2]), ([], []), ([4], [4]), ([5], [5]), ([3, 6, 3], [3, 6]), ([], []), ([8], [8]), ([7, 9, 7], [7, 9]), ([10, 10, 0, 1, 2, 3, 4, 5, 6, 7, 8, 9, 10], [0, 10])])
def impl_PackTree.B10 : List Nat := [0, 0, 2, 7, 0, 16, 48, 127, 0, 256, 1023, 2047]
theorem impl_PackTree.tab10 : rtab .any (opsOf Tryz.f147 10) = impl_PackTree.T10 := by kernel_rfl
theorem impl_PackTree.bits10 : waitsOk impl_PackTree.T10.2 impl_PackTree.B10 = true := by kernel_rfl
def impl_PackTree.T11 : Bool × List (List Nat × List Nat) := (true, [([], []), ([], []), ([1], [1]), ([2], [2]), ([0, 3], [0, 3]), ([], []), ([5], [5]), ([4, 6, 4], [4, 6]), ([7, 7, 0, 1, 2, 3, 4, 5, 6, 7], [0, 7])])
def impl_PackTree.B11 : List Nat := [0, 0, 2, 6, 15, 0, 32, 127, 255]
theorem impl_PackTree.tab11 : rtab .any (opsOf Tryz.f147 11) = impl_PackTree.T11 := by kernel_rfl
theorem impl_PackTree.bits11 : waitsOk impl_PackTree.T11.2 impl_PackTree.B11 = true := by kernel_rfl
theorem impl_PackTree.calls (k : Nat) (A0 : Option Addr) (c0 : Nat) (l0 : List (S96)) (r : List Int) (w : World) (hr0 : Kd.C k96 w A0 l0.length l0) (hc0 : l0.length ≤ c0) (hG_ : GOK w) (h : impl_PackTree.f k l0 = some r) :
 Calls Tryz.prog 147 #[.slice A0 l0.length c0] w fun e w' => ∃ v0_ : Value, e = .returned (v0_) ∧ Kd.R (Kd.int .u8) 5 w' w.heap.size (fun _ => True) v0_ r ∧ Below w.heap.size w w' := by
 have hu96 := Tryz.underlying96
 have HG := zz hG_
 clear hG_
 have HR0 := zz hr0
 have HC0 := zz hc0
 clear hr0 hc0
 have HB := zz (Below.refl w.heap.size w)
 unfold impl_PackTree.f at h
 have H := h
 clear h
 replace H := zf H
 obtain ⟨t487, A20, H⟩ := H
 try dsimp only at H
 have A2 := zz A20
 clear A20
 by_cases c3 : t487 = true
 case neg =>
  replace c3 := Bool.eq_false_iff.mpr c3
  subst c3
  rw [if_neg (show ¬ (false = true) by decide)] at H
  obtain rfl := zi H
  go_enter Tryz.func147, Tryz.ntmps147
  go_wp2_with (first | (refine zL 66 8 Tryz.func66 #[.slice A0 l0.length c0] ?_; (with_reducible refine (impl_TreeOk.calls k _ _ l0 false _ ?s1 ?s2 ?s3 A2.out).mono ?_); (case s1 => exact zd HR0.out); (case s2 => exact HC0.out); (case s3 => exact zG); rintro e w49 ⟨rfl, hb⟩; refine ⟨_, rfl, ?_⟩; replace HB := zz (zv zb hb); (try clear hb); (try clear hb2); (try clear hk); (try clear hi)))
  go_ret
  exact ⟨_, ze, by first | exact Kd.R_nil _ _ _ _ _ | exact Kd.N_nil _ _ _ _ _ | exact Kd.V_nil _ _ _ _ _ | exact Kd.Q_nil _ _ _ _ _ | exact Kd.S_nil _ _ _ _ _, zb⟩
 subst c3
 rw [if_pos rfl] at H
 obtain ⟨y488, hy488⟩ : ∃ y_ : List Int, y_ = (([76, 65, 82, 49] : List Int)) := ⟨_, rfl⟩
 replace H : ((impl_varint.f k y488 (l0.length : Int)).bind fun t491 => (impl_PackTree.l0 k t491 l0 (l0.length : Int) 0)) = some r := by first | (rw [hy488]; with_reducible exact H) | (have H2_ := (Option.bind_some _ _).symm.trans H; rw [hy488]; with_reducible exact H2_) | (have H2_ := (Option.bind_some _ _).symm.trans H; with_reducible exact H2_) | with_reducible exact H | (rw [hy488]; exact H) | exact H
 have Ny488 := zz hy488
 clear hy488
 replace H := zf H
 obtain ⟨t491, A40, H⟩ := H
 try dsimp only at H
 have A4 := zz A40
 clear A40
 have H' := zz H
 clear H
 go_enter Tryz.func147, Tryz.ntmps147
 go_wp2_with (first | (refine zL 66 8 Tryz.func66 #[.slice A0 l0.length c0] ?_; (with_reducible refine (impl_TreeOk.calls k _ _ l0 true _ ?s1 ?s2 ?s3 A2.out).mono ?_); (case s1 => exact zd HR0.out); (case s2 => exact HC0.out); (case s3 => exact zG); rintro e w5 ⟨rfl, hb⟩; refine ⟨_, rfl, ?_⟩; replace HB := zz (zv zb hb); (try clear hb); (try clear hb2); (try clear hk); (try clear hi)) | (refine zN 10 ?_; refine lar_event ?hg (N := 10) ?hd (cs := #[.int .u8 76, .int .u8 65, .int .u8 82, .int .u8 49]) (t := 5) ?hr ?_; (case hd => rfl); (case hg => rfl); (case hr => first | (go_simp; done) | (go_simp; rfl)); intro gl hgl w6 hlb hb; have n1_ := zz (zv zb hb); have hgl2 := zz (Nat.le_trans (below_size zb) hgl); have hlb2 := zz hlb; clear HB hb hgl hlb; have HB := n1_; clear n1_) | (refine zN 11 ?_; refine mark_event rfl rfl Tryz.underlying133 Tryz.underlying5 (g := gl) rfl hlb2.out ?_; intro w7 hlc hb; have n1_ := zz (HB.out.trans (hb.mono hgl2.out)); have hT := zz (show RT 5 w.heap.size w7 (.slice (some ⟨gl, 0, none⟩) 4 4) y488 by rw [Ny488.out]; exact .inr ⟨gl, rfl, _, _, _, hlc, rfl⟩); clear HB hb hlc hlb2; have HB := n1_; clear n1_) | (refine zL 160 14 Tryz.func160 #[.slice (some ⟨gl, 0, none⟩) 4 4, .int .i64 (l0.length : Int)] ?_; (with_reducible refine (impl_varint.lar k _ y488 _ _ w _ HB.out hT.out A4.out).mono ?_); rintro e w9 ⟨v190, rfl, ho0, hb⟩; refine ⟨_, rfl, ?_⟩; have n0_ := zz ho0; have n1_ := zz hb; clear HB; have HO493 := n0_; have HB := n1_; clear n0_ n1_ hb ho0))
 go_loopg [3, 17] k (fun kq v3 v17 w' => ∃ (x3_1 : List Int) (x17_1 : Int), v17 = .int .i64 x17_1 ∧ Aside0 (impl_PackTree.l0 kq x3_1 l0 (l0.length : Int) x17_1 = some r) ∧ Aside0 (kq ≤ k) ∧ Aside0 (Kd.R (Kd.int .u8) 5 w' w.heap.size (fun _ => True) v3 x3_1) ∧ Aside0 (Below w.heap.size w w'))
 case atStart => exact ⟨(t491), (0), zr, H', ⟨Nat.le_refl _⟩, ⟨by (with_reducible repeat (first | apply Kd.R_alloc | apply Kd.R_drewN | apply Kd.R_drew)); exact HO493.out⟩, ⟨zb⟩⟩
 case round =>
  clear H'
  try clear c1
  try clear p2
  try clear c3
  try clear c6
  obtain ⟨x3_1, x17_1, rfl, HA, HK1, HO_3, HB⟩ := hrel
  cases gk with
  | zero => exact absurd HA.out (by simp [impl_PackTree.l0])
  | succ k1 =>
   have H := HA.out
   clear HA
   simp only [impl_PackTree.l0] at H
   by_cases c10 : x17_1 < (l0.length : Int)
   case neg =>
    rw [if_neg c10] at H
    have c10b0 := z0 c10
    clear c10
    obtain rfl := zi H
    go_wp2
    go_ret
    exact ⟨_, ze, by (with_reducible repeat (first | apply Kd.R_alloc | apply Kd.R_drewN | apply Kd.R_drew)); exact HO_3.out, zb⟩
   rw [if_pos c10] at H
   have c10b0 := z1 c10
   clear c10
   by_cases c11 : 0 ≤ x17_1
   case neg => exact zno H c11
   rw [if_pos c11] at H
   have c11b0 := z1 c11
   clear c11
   by_cases c12 : x17_1 < (l0.length : Int)
   case neg => exact zno H c12
   rw [if_pos c12] at H
   have c12b0 := z1 c12
   clear c12
   obtain ⟨bq13, hbq13⟩ : ∃ b_ : Bool, b_ = ((rd_T96 l0 x17_1).f3) := ⟨_, rfl⟩
   replace H : (if bq13 = true then (if x3_1.length < 140737488355328 then ((impl_varint.f k1 (x3_1 ++ [(((rd_T96 l0 x17_1).f1) + 16) % 256]) (((rd_T96 l0 x17_1).f0).size : Int)).bind fun t499 => (if t499.length + ((rd_T96 l0 x17_1).f0).size < 140737488355328 then ((impl_varint.f k1 (t499 ++ bytesOf ((rd_T96 l0 x17_1).f0)) (((rd_T96 l0 x17_1).f2).size : Int)).bind fun t505 => (if t505.length + ((rd_T96 l0 x17_1).f2).size < 140737488355328 then (impl_PackTree.l0 k1 (t505 ++ bytesOf ((rd_T96 l0 x17_1).f2)) l0 (l0.length : Int) (wrap64 (x17_1 + 1))) else (none))) else (none))) else (none)) else (if x3_1.length < 140737488355328 then ((impl_varint.f k1 (x3_1 ++ [((rd_T96 l0 x17_1).f1) % 256]) (((rd_T96 l0 x17_1).f0).size : Int)).bind fun t514 => (if t514.length + ((rd_T96 l0 x17_1).f0).size < 140737488355328 then ((impl_varint.f k1 (t514 ++ bytesOf ((rd_T96 l0 x17_1).f0)) (((rd_T96 l0 x17_1).f2).size : Int)).bind fun t520 => (if t520.length + ((rd_T96 l0 x17_1).f2).size < 140737488355328 then (impl_PackTree.l0 k1 (t520 ++ bytesOf ((rd_T96 l0 x17_1).f2)) l0 (l0.length : Int) (wrap64 (x17_1 + 1))) else (none))) else (none))) else (none))) = some r := by rw [← hbq13] at H; exact H
   have Nbq13 := zz hbq13
   clear hbq13
   by_cases c14 : bq13 = true
   ·subst c14
    rw [if_pos rfl] at H
    by_cases c15 : x3_1.length < 140737488355328
    case neg => exact zno H c15
    rw [if_pos c15] at H
    have LMc15 := zz c15
    clear c15
    obtain ⟨y496, hy496⟩ : ∃ y_ : List Int, y_ = (x3_1 ++ [(((rd_T96 l0 x17_1).f1) + 16) % 256]) := ⟨_, rfl⟩
    replace H : ((impl_varint.f k1 y496 (((rd_T96 l0 x17_1).f0).size : Int)).bind fun t499 => (if t499.length + ((rd_T96 l0 x17_1).f0).size < 140737488355328 then ((impl_varint.f k1 (t499 ++ bytesOf ((rd_T96 l0 x17_1).f0)) (((rd_T96 l0 x17_1).f2).size : Int)).bind fun t505 => (if t505.length + ((rd_T96 l0 x17_1).f2).size < 140737488355328 then (impl_PackTree.l0 k1 (t505 ++ bytesOf ((rd_T96 l0 x17_1).f2)) l0 (l0.length : Int) (wrap64 (x17_1 + 1))) else (none))) else (none))) = some r := by first | (rw [hy496]; with_reducible exact H) | (have H2_ := (Option.bind_some _ _).symm.trans H; rw [hy496]; with_reducible exact H2_) | (have H2_ := (Option.bind_some _ _).symm.trans H; with_reducible exact H2_) | with_reducible exact H | (rw [hy496]; exact H) | exact H
    have Ny496 := zz hy496
    clear hy496
    replace H := zf H
    obtain ⟨t499, A160, H⟩ := H
    try dsimp only at H
    have A16 := zz A160
    clear A160
    by_cases c17 : t499.length + ((rd_T96 l0 x17_1).f0).size < 140737488355328
    case neg => exact zno H c17
    rw [if_pos c17] at H
    have LMc17 := zz c17
    clear c17
    obtain ⟨y502, hy502⟩ : ∃ y_ : List Int, y_ = (t499 ++ bytesOf ((rd_T96 l0 x17_1).f0)) := ⟨_, rfl⟩
    replace H : ((impl_varint.f k1 y502 (((rd_T96 l0 x17_1).f2).size : Int)).bind fun t505 => (if t505.length + ((rd_T96 l0 x17_1).f2).size < 140737488355328 then (impl_PackTree.l0 k1 (t505 ++ bytesOf ((rd_T96 l0 x17_1).f2)) l0 (l0.length : Int) (wrap64 (x17_1 + 1))) else (none))) = some r := by first | (rw [hy502]; with_reducible exact H) | (have H2_ := (Option.bind_some _ _).symm.trans H; rw [hy502]; with_reducible exact H2_) | (have H2_ := (Option.bind_some _ _).symm.trans H; with_reducible exact H2_) | with_reducible exact H | (rw [hy502]; exact H) | exact H
    have Ny502 := zz hy502
    clear hy502
    replace H := zf H
    obtain ⟨t505, A180, H⟩ := H
    try dsimp only at H
    have A18 := zz A180
    clear A180
    by_cases c19 : t505.length + ((rd_T96 l0 x17_1).f2).size < 140737488355328
    case neg => exact zno H c19
    rw [if_pos c19] at H
    have LMc19 := zz c19
    clear c19
    obtain ⟨y508, hy508⟩ : ∃ y_ : List Int, y_ = (t505 ++ bytesOf ((rd_T96 l0 x17_1).f2)) := ⟨_, rfl⟩
    replace H : (impl_PackTree.l0 k1 y508 l0 (l0.length : Int) (wrap64 (x17_1 + 1))) = some r := by first | (rw [hy508]; with_reducible exact H) | (have H2_ := (Option.bind_some _ _).symm.trans H; rw [hy508]; with_reducible exact H2_) | (have H2_ := (Option.bind_some _ _).symm.trans H; with_reducible exact H2_) | with_reducible exact H | (rw [hy508]; exact H) | exact H
    have Ny508 := zz hy508
    clear hy508
    have H' := zz H
    clear H
    have p494 : 0 ≤ (x17_1 : Int) := z2
    have q494 : x17_1 < (l0.length : Int) := z2
    obtain ⟨ad494, e494, hx494_0, hx494_1, hx494_2, hx494_3⟩ := at_T96 HR0.out x17_1 p494 q494
    (try rw [← Nbq13.out] at hx494_3); (try rw [← Nbq13.out] at hw494_3)
    cases e494
    replace hx494_0 := z3 HB.out hx494_0
    replace hx494_1 := z3 HB.out hx494_1
    replace hx494_2 := z3 HB.out hx494_2
    replace hx494_3 := z3 HB.out hx494_3
    replace p494 := eq_true p494
    replace q494 := eq_true q494
    try go_wp2_with (first | (refine zX 5 96 #[.string (⟨#[]⟩ : ByteArray), .int .i64 0, .string (⟨#[]⟩ : ByteArray), .bool false] ?_; intro gb495 hg w20 hbox hb; replace HO_3 := zz (Kd.R_below (zR HO_3.out) hb); have BK495 := zz (hbox); have GW495 := zz ((zg : w.heap.size ≤ gb495)); have GE495 := zz ((zg : w.heap.size ≤ gb495)); replace HB := zz (zv zb hb); clear hb hbox hg; obtain ⟨hcz21_0, hcz21_1, hcz21_2, hcz21_3, hfz21_0, hfz21_1, hfz21_2, hfz21_3⟩ := zc4 BK495.out))
    have n0_ : Aside0 (Kd.R (Kd.int .u8) 5 ((((w20.setCell ⟨gb495, 0, none⟩ (.string ((rd_T96 l0 x17_1).f0))).setCell ⟨gb495, 1, none⟩ (.int .i64 ((rd_T96 l0 x17_1).f1))).setCell ⟨gb495, 2, none⟩ (.string ((rd_T96 l0 x17_1).f2))).setCell ⟨gb495, 3, none⟩ (.bool true)) w.heap.size (fun _ => True) u3 x3_1) := ⟨by (with_reducible repeat (first | apply Kd.R_alloc | apply Kd.R_drewN | apply Kd.R_drew)); exact Kd.R_mono (Kd.R_far (p := ⟨gb495, 3, none⟩) (Kd.R_far (p := ⟨gb495, 2, none⟩) (Kd.R_far (p := ⟨gb495, 1, none⟩) (Kd.R_far (p := ⟨gb495, 0, none⟩) (Kd.R_types HO_3.out BK495.out (by decide)) (fun _ hk => hk.2) (.string ((rd_T96 l0 x17_1).f0))) (fun _ hk => hk.2) (.int .i64 ((rd_T96 l0 x17_1).f1))) (fun _ hk => hk.2) (.string ((rd_T96 l0 x17_1).f2))) (fun _ hk => hk.2) (.bool true)) (fun _ hk => trivial)⟩
    have n1_ : Aside0 (((((w20.setCell ⟨gb495, 0, none⟩ (.string ((rd_T96 l0 x17_1).f0))).setCell ⟨gb495, 1, none⟩ (.int .i64 ((rd_T96 l0 x17_1).f1))).setCell ⟨gb495, 2, none⟩ (.string ((rd_T96 l0 x17_1).f2))).setCell ⟨gb495, 3, none⟩ (.bool true)).heap[gb495]? = some (.cells #[.string ((rd_T96 l0 x17_1).f0), .int .i64 ((rd_T96 l0 x17_1).f1), .string ((rd_T96 l0 x17_1).f2), .bool true] 96 (0, 0))) := ⟨by (with_reducible repeat (first | refine blk_drewN ?_ _ | refine blk_drew ?_ | refine blk_alloc ?_ _)); refine blk_put (cs := #[.string ((rd_T96 l0 x17_1).f0), .int .i64 ((rd_T96 l0 x17_1).f1), .string ((rd_T96 l0 x17_1).f2), .bool false]) ?_ 3 _ rfl; (with_reducible repeat (first | refine blk_drewN ?_ _ | refine blk_drew ?_ | refine blk_alloc ?_ _)); refine blk_put (cs := #[.string ((rd_T96 l0 x17_1).f0), .int .i64 ((rd_T96 l0 x17_1).f1), .string (⟨#[]⟩ : ByteArray), .bool false]) ?_ 2 _ rfl; (with_reducible repeat (first | refine blk_drewN ?_ _ | refine blk_drew ?_ | refine blk_alloc ?_ _)); refine blk_put (cs := #[.string ((rd_T96 l0 x17_1).f0), .int .i64 0, .string (⟨#[]⟩ : ByteArray), .bool false]) ?_ 1 _ rfl; (with_reducible repeat (first | refine blk_drewN ?_ _ | refine blk_drew ?_ | refine blk_alloc ?_ _)); refine blk_put (cs := #[.string (⟨#[]⟩ : ByteArray), .int .i64 0, .string (⟨#[]⟩ : ByteArray), .bool false]) ?_ 0 _ rfl; (with_reducible repeat (first | refine blk_drewN ?_ _ | refine blk_drew ?_ | refine blk_alloc ?_ _)); exact BK495.out⟩
    have n2_ : Aside0 (Below w.heap.size w ((((w20.setCell ⟨gb495, 0, none⟩ (.string ((rd_T96 l0 x17_1).f0))).setCell ⟨gb495, 1, none⟩ (.int .i64 ((rd_T96 l0 x17_1).f1))).setCell ⟨gb495, 2, none⟩ (.string ((rd_T96 l0 x17_1).f2))).setCell ⟨gb495, 3, none⟩ (.bool true))) := ⟨zb⟩
    (try clear HO_3)
    (try clear BK495)
    (try clear HB)
    generalize ((((w20.setCell ⟨gb495, 0, none⟩ (.string ((rd_T96 l0 x17_1).f0))).setCell ⟨gb495, 1, none⟩ (.int .i64 ((rd_T96 l0 x17_1).f1))).setCell ⟨gb495, 2, none⟩ (.string ((rd_T96 l0 x17_1).f2))).setCell ⟨gb495, 3, none⟩ (.bool true)) = w22 at n0_ n1_ n2_ ⊢
    have HO_3 := n0_
    have BK495 := n1_
    have HB := n2_
    clear n0_ n1_ n2_
    replace HO_3 := zz (Kd.R_drew HO_3.out)
    replace BK495 := zz (blk_drew BK495.out)
    replace HB := zz (below_drew1 HB.out)
    refine start_ (n := 12) (S := fun w' => w'.cell? ⟨gb495, 0, none⟩ = some (.string ((rd_T96 l0 x17_1).f0)) ∧ w'.cell? ⟨gb495, 1, none⟩ = some (.int .i64 ((rd_T96 l0 x17_1).f1)) ∧ w'.cell? ⟨gb495, 2, none⟩ = some (.string ((rd_T96 l0 x17_1).f2)) ∧ w'.cell? ⟨gb495, 3, none⟩ = some (.bool true)) (ds := []) (bp 0 12) zk rfl rfl (zy4 BK495.out) (fun hHeld => ?_); refine with_tabW impl_PackTree.tab10 impl_PackTree.bits10 (fun HT_ HW_ => ?_)
    generalize w22.drew = w23 at HO_3 BK495 HB hHeld ⊢
    refine zp 0 28 (bp 1 11) ?_
    refine zp 1 29 (bp 2 10) ?_
    refine zp 4 32 (bm 12 19) ?_
    refine zp 8 36 (bm 12 275) ?_
    refine zt 5 33 (bm 12 307) ?_
    refine zp 6 34 (bm 12 371) ?_
    refine zt 9 37 (bm 12 883) ?_
    refine zo 2 30 (bm 12 887) fun K hK => ?_
    refine value_ (w1 := ?_) (v := ?_) (by rfl) rfl ?_ ?_
    rotate_left 2
    ·go_simp
     constructor
     ·rfl
     ·rfl
    refine hK.out _ _ ⟨(blk_cell (blk_alloc BK495.out _) 0).trans rfl, (blk_cell (blk_alloc BK495.out _) 1).trans rfl, (blk_cell (blk_alloc BK495.out _) 2).trans rfl, (blk_cell (blk_alloc BK495.out _) 3).trans rfl⟩ (fun hHeld => ?_)
    clear hK K
    refine zn 30 ?_
    refine zo 3 31 (bm 12 895) fun K hK => ?_
    refine Kd.R_append_step (Kd.int .u8) (w0 := w) w.heap.size (by rfl) (.tmp 28) (.tmp 30) 133 5 (.int .u8 0) 1 rfl Tryz.underlying133 info5 rfl (by decide) (by omega) u3 x3_1 ((((rd_T96 l0 x17_1).f1) + 16) % 256) [.int .u8 ((((rd_T96 l0 x17_1).f1) + 16) % 256)] (fun _ => True) (fun _ => False) rfl rfl ?aP (fun _ hk => hk.elim) ?aF ?aO ?aB ?aS ?aL ?_
    (case aP => exact rfl)
    (case aB => exact zb)
    (case aF => exact (fun _ _ => trivial))
    (case aO => exact (zR HO_3.out))
    (case aS => exact (below_size zb))
    (case aL => have := LMc15.out; omega)
    intro v497 w24 ho hb hg hat
    rw [← Ny496.out] at ho
    replace BK495 := zz (zK BK495 hg (Kd.R_ne HO_3.out BK495.out (by decide)))
    replace HB := zz (hb)
    have HO498 := zz (ho)
    clear HO_3
    clear ho hb hg hat
    obtain ⟨Ao25, co25, eo25⟩ := Kd.R_slice HO498.out
    (first | subst eo25 | (injection eo25 with f1_ f2_ f3_; have f4_ := f1_.symm; have f5_ := f3_.symm; clear f1_ f2_ f3_; subst f4_; subst f5_))
    refine hK.out _ _ (zy4 BK495.out) (fun hHeld => ?_)
    clear hK K
    refine zn 31 ?_
    refine zo 7 35 (bp 10 2) fun K hK => ?_
    refine zh Tryz.func160 #[.slice Ao25 y496.length co25, .int .i64 (((rd_T96 l0 x17_1).f0).size : Int)] ?_
    with_reducible refine (impl_varint.calls k1 (fun k_ => some k_ = (.slice Ao25 y496.length co25 : Value).ownBlock) (.slice Ao25 y496.length co25) y496 (((rd_T96 l0 x17_1).f0).size : Int) t499 w _ ?s1 ?s2 A16.out).mono ?_
    (case s1 => repeat (first | (with_reducible first | exact HB.out | apply below_alloc | apply pw_below_drewN | apply below_drew1 | refine below_set ?_ GE495.out) | exact HB.out))
    (case s2 => exact Kd.R_tight rfl HO498.out)
    rintro e w26 ⟨v500, rfl, ho0, hb, hkp⟩
    refine ⟨_, rfl, ?_⟩
    replace BK495 := zz (blk_kept (zB BK495.out) hkp (fun hs_ => (fun e_ => (Kd.R_ne HO498.out BK495.out (by decide)) e_) hs_))
    have HO501 := zz (Kd.R_mono (ok' := fun k_ => True) ho0 (fun k_ hk_ => trivial))
    replace HB := zz (hb)
    clear HO498
    (try clear hb)
    (try clear hkp)
    (try clear ho0)
    refine hK.out _ _ (zy4 BK495.out) (fun hHeld => ?_)
    clear hK K
    refine zn 35 ?_
    refine zo 10 38 (bp 11 1) fun K hK => ?_
    refine print_append_str_step (w0 := w) w.heap.size (by rfl) (.tmp 35) _ 133 9 5 rfl Tryz.underlying133 Tryz.underlying9 info5 v500 t499 ((rd_T96 l0 x17_1).f0) rfl rfl ?aO ?aB ?aS ?aL ?_
    (case aB => exact zb)
    (case aO => exact (Kd.own_of_R (zR HO501.out)))
    (case aS => exact (below_size zb))
    (case aL => have := LMc17.out; omega)
    intro v503 w27 ho0 hb hg
    have ho := Kd.R_of_own (h1 := fun _ => rfl) (ok := fun _ => True) ho0 (fun _ _ => trivial)
    clear ho0
    have hat := True.intro
    rw [← Ny502.out] at ho
    change Kd.R (Kd.int .u8) 5 w27 w.heap.size (fun _ => True) v503 y502 at ho
    replace BK495 := zz (zK BK495 hg (Kd.R_ne HO501.out BK495.out (by decide)))
    replace HB := zz (hb)
    have HO504 := zz (ho)
    clear HO501
    clear ho hb hg hat
    refine hK.out _ _ (zy4 BK495.out) (fun hHeld => ?_)
    clear hK K
    refine zn 38 ?_
    refine zp 11 3 (bp 12 0) ?_
    refine done_ (done_of HT_.out zk) ?_
    try go_wp2
    replace HO504 := zz (Kd.R_drew HO504.out)
    replace BK495 := zz (blk_drew BK495.out)
    replace HB := zz (below_drew1 HB.out)
    obtain ⟨Ao29, co29, eo29⟩ := Kd.R_slice HO504.out
    (first | subst eo29 | (injection eo29 with f1_ f2_ f3_; have f4_ := f1_.symm; have f5_ := f3_.symm; clear f1_ f2_ f3_; subst f4_; subst f5_))
    refine start_ (n := 9) (S := fun w' => w'.cell? ⟨gb495, 0, none⟩ = some (.string ((rd_T96 l0 x17_1).f0)) ∧ w'.cell? ⟨gb495, 1, none⟩ = some (.int .i64 ((rd_T96 l0 x17_1).f1)) ∧ w'.cell? ⟨gb495, 2, none⟩ = some (.string ((rd_T96 l0 x17_1).f2)) ∧ w'.cell? ⟨gb495, 3, none⟩ = some (.bool true)) (ds := []) (bp 0 9) zk rfl rfl (zy4 BK495.out) (fun hHeld => ?_); refine with_tabW impl_PackTree.tab11 impl_PackTree.bits11 (fun HT_ HW_ => ?_)
    generalize w27.drew = w28 at HO504 BK495 HB hHeld ⊢
    refine zp 0 39 (bp 1 8) ?_
    refine zp 1 40 (bp 2 7) ?_
    refine zp 5 44 (bm 9 35) ?_
    refine zt 2 41 (bm 9 39) ?_
    refine zp 3 42 (bm 9 47) ?_
    refine zt 6 45 (bm 9 111) ?_
    refine zo 4 43 (bp 7 2) fun K hK => ?_
    refine zh Tryz.func160 #[.slice Ao29 y502.length co29, .int .i64 (((rd_T96 l0 x17_1).f2).size : Int)] ?_
    with_reducible refine (impl_varint.calls k1 (fun k_ => some k_ = (.slice Ao29 y502.length co29 : Value).ownBlock) (.slice Ao29 y502.length co29) y502 (((rd_T96 l0 x17_1).f2).size : Int) t505 w _ ?s1 ?s2 A18.out).mono ?_
    (case s1 => repeat (first | (with_reducible first | exact HB.out | apply below_alloc | apply pw_below_drewN | apply below_drew1 | refine below_set ?_ GE495.out) | exact HB.out))
    (case s2 => exact Kd.R_tight rfl HO504.out)
    rintro e w30 ⟨v506, rfl, ho0, hb, hkp⟩
    refine ⟨_, rfl, ?_⟩
    replace BK495 := zz (blk_kept (zB BK495.out) hkp (fun hs_ => (fun e_ => (Kd.R_ne HO504.out BK495.out (by decide)) e_) hs_))
    have HO507 := zz (Kd.R_mono (ok' := fun k_ => True) ho0 (fun k_ hk_ => trivial))
    replace HB := zz (hb)
    clear HO504
    (try clear hb)
    (try clear hkp)
    (try clear ho0)
    refine hK.out _ _ (zy4 BK495.out) (fun hHeld => ?_)
    clear hK K
    refine zn 43 ?_
    refine zo 7 46 (bp 8 1) fun K hK => ?_
    refine print_append_str_step (w0 := w) w.heap.size (by rfl) (.tmp 43) _ 133 9 5 rfl Tryz.underlying133 Tryz.underlying9 info5 v506 t505 ((rd_T96 l0 x17_1).f2) rfl rfl ?aO ?aB ?aS ?aL ?_
    (case aB => exact zb)
    (case aO => exact (Kd.own_of_R (zR HO507.out)))
    (case aS => exact (below_size zb))
    (case aL => have := LMc19.out; omega)
    intro v509 w31 ho0 hb hg
    have ho := Kd.R_of_own (h1 := fun _ => rfl) (ok := fun _ => True) ho0 (fun _ _ => trivial)
    clear ho0
    have hat := True.intro
    rw [← Ny508.out] at ho
    change Kd.R (Kd.int .u8) 5 w31 w.heap.size (fun _ => True) v509 y508 at ho
    replace BK495 := zz (zK BK495 hg (Kd.R_ne HO507.out BK495.out (by decide)))
    replace HB := zz (hb)
    have HO510 := zz (ho)
    clear HO507
    clear ho hb hg hat
    refine hK.out _ _ (zy4 BK495.out) (fun hHeld => ?_)
    clear hK K
    refine zn 46 ?_
    refine zp 8 3 (bp 9 0) ?_
    refine done_ (done_of HT_.out zk) ?_
    try go_wp2
    go_roundg k1
    case measure => have := HK1.out; omega
    case rel => exact ⟨(y508), (wrap64 (x17_1 + 1)), zr, H', ⟨by have := HK1.out; omega⟩, ⟨by (with_reducible repeat (first | apply Kd.R_alloc | apply Kd.R_drewN | apply Kd.R_drew)); exact HO510.out⟩, ⟨zb⟩⟩
   replace c14 := Bool.eq_false_iff.mpr c14
   subst c14
   rw [if_neg (show ¬ (false = true) by decide)] at H
   by_cases c32 : x3_1.length < 140737488355328
   case neg => exact zno H c32
   rw [if_pos c32] at H
   have LMc32 := zz c32
   clear c32
   obtain ⟨y511, hy511⟩ : ∃ y_ : List Int, y_ = (x3_1 ++ [((rd_T96 l0 x17_1).f1) % 256]) := ⟨_, rfl⟩
   replace H : ((impl_varint.f k1 y511 (((rd_T96 l0 x17_1).f0).size : Int)).bind fun t514 => (if t514.length + ((rd_T96 l0 x17_1).f0).size < 140737488355328 then ((impl_varint.f k1 (t514 ++ bytesOf ((rd_T96 l0 x17_1).f0)) (((rd_T96 l0 x17_1).f2).size : Int)).bind fun t520 => (if t520.length + ((rd_T96 l0 x17_1).f2).size < 140737488355328 then (impl_PackTree.l0 k1 (t520 ++ bytesOf ((rd_T96 l0 x17_1).f2)) l0 (l0.length : Int) (wrap64 (x17_1 + 1))) else (none))) else (none))) = some r := by first | (rw [hy511]; with_reducible exact H) | (have H2_ := (Option.bind_some _ _).symm.trans H; rw [hy511]; with_reducible exact H2_) | (have H2_ := (Option.bind_some _ _).symm.trans H; with_reducible exact H2_) | with_reducible exact H | (rw [hy511]; exact H) | exact H
   have Ny511 := zz hy511
   clear hy511
   replace H := zf H
   obtain ⟨t514, A330, H⟩ := H
   try dsimp only at H
   have A33 := zz A330
   clear A330
   by_cases c34 : t514.length + ((rd_T96 l0 x17_1).f0).size < 140737488355328
   case neg => exact zno H c34
   rw [if_pos c34] at H
   have LMc34 := zz c34
   clear c34
   obtain ⟨y517, hy517⟩ : ∃ y_ : List Int, y_ = (t514 ++ bytesOf ((rd_T96 l0 x17_1).f0)) := ⟨_, rfl⟩
   replace H : ((impl_varint.f k1 y517 (((rd_T96 l0 x17_1).f2).size : Int)).bind fun t520 => (if t520.length + ((rd_T96 l0 x17_1).f2).size < 140737488355328 then (impl_PackTree.l0 k1 (t520 ++ bytesOf ((rd_T96 l0 x17_1).f2)) l0 (l0.length : Int) (wrap64 (x17_1 + 1))) else (none))) = some r := by first | (rw [hy517]; with_reducible exact H) | (have H2_ := (Option.bind_some _ _).symm.trans H; rw [hy517]; with_reducible exact H2_) | (have H2_ := (Option.bind_some _ _).symm.trans H; with_reducible exact H2_) | with_reducible exact H | (rw [hy517]; exact H) | exact H
   have Ny517 := zz hy517
   clear hy517
   replace H := zf H
   obtain ⟨t520, A350, H⟩ := H
   try dsimp only at H
   have A35 := zz A350
   clear A350
   by_cases c36 : t520.length + ((rd_T96 l0 x17_1).f2).size < 140737488355328
   case neg => exact zno H c36
   rw [if_pos c36] at H
   have LMc36 := zz c36
   clear c36
   obtain ⟨y523, hy523⟩ : ∃ y_ : List Int, y_ = (t520 ++ bytesOf ((rd_T96 l0 x17_1).f2)) := ⟨_, rfl⟩
   replace H : (impl_PackTree.l0 k1 y523 l0 (l0.length : Int) (wrap64 (x17_1 + 1))) = some r := by first | (rw [hy523]; with_reducible exact H) | (have H2_ := (Option.bind_some _ _).symm.trans H; rw [hy523]; with_reducible exact H2_) | (have H2_ := (Option.bind_some _ _).symm.trans H; with_reducible exact H2_) | with_reducible exact H | (rw [hy523]; exact H) | exact H
   have Ny523 := zz hy523
   clear hy523
   have H' := zz H
   clear H
   have p494 : 0 ≤ (x17_1 : Int) := z2
   have q494 : x17_1 < (l0.length : Int) := z2
   obtain ⟨ad494, e494, hx494_0, hx494_1, hx494_2, hx494_3⟩ := at_T96 HR0.out x17_1 p494 q494
   (try rw [← Nbq13.out] at hx494_3); (try rw [← Nbq13.out] at hw494_3)
   cases e494
   replace hx494_0 := z3 HB.out hx494_0
   replace hx494_1 := z3 HB.out hx494_1
   replace hx494_2 := z3 HB.out hx494_2
   replace hx494_3 := z3 HB.out hx494_3
   replace p494 := eq_true p494
   replace q494 := eq_true q494
   try go_wp2_with (first | (refine zX 5 96 #[.string (⟨#[]⟩ : ByteArray), .int .i64 0, .string (⟨#[]⟩ : ByteArray), .bool false] ?_; intro gb495 hg w37 hbox hb; replace HO_3 := zz (Kd.R_below (zR HO_3.out) hb); have BK495 := zz (hbox); have GW495 := zz ((zg : w.heap.size ≤ gb495)); have GE495 := zz ((zg : w.heap.size ≤ gb495)); replace HB := zz (zv zb hb); clear hb hbox hg; obtain ⟨hcz38_0, hcz38_1, hcz38_2, hcz38_3, hfz38_0, hfz38_1, hfz38_2, hfz38_3⟩ := zc4 BK495.out))
   have n0_ : Aside0 (Kd.R (Kd.int .u8) 5 ((((w37.setCell ⟨gb495, 0, none⟩ (.string ((rd_T96 l0 x17_1).f0))).setCell ⟨gb495, 1, none⟩ (.int .i64 ((rd_T96 l0 x17_1).f1))).setCell ⟨gb495, 2, none⟩ (.string ((rd_T96 l0 x17_1).f2))).setCell ⟨gb495, 3, none⟩ (.bool false)) w.heap.size (fun _ => True) u3 x3_1) := ⟨by (with_reducible repeat (first | apply Kd.R_alloc | apply Kd.R_drewN | apply Kd.R_drew)); exact Kd.R_mono (Kd.R_far (p := ⟨gb495, 3, none⟩) (Kd.R_far (p := ⟨gb495, 2, none⟩) (Kd.R_far (p := ⟨gb495, 1, none⟩) (Kd.R_far (p := ⟨gb495, 0, none⟩) (Kd.R_types HO_3.out BK495.out (by decide)) (fun _ hk => hk.2) (.string ((rd_T96 l0 x17_1).f0))) (fun _ hk => hk.2) (.int .i64 ((rd_T96 l0 x17_1).f1))) (fun _ hk => hk.2) (.string ((rd_T96 l0 x17_1).f2))) (fun _ hk => hk.2) (.bool false)) (fun _ hk => trivial)⟩
   have n1_ : Aside0 (((((w37.setCell ⟨gb495, 0, none⟩ (.string ((rd_T96 l0 x17_1).f0))).setCell ⟨gb495, 1, none⟩ (.int .i64 ((rd_T96 l0 x17_1).f1))).setCell ⟨gb495, 2, none⟩ (.string ((rd_T96 l0 x17_1).f2))).setCell ⟨gb495, 3, none⟩ (.bool false)).heap[gb495]? = some (.cells #[.string ((rd_T96 l0 x17_1).f0), .int .i64 ((rd_T96 l0 x17_1).f1), .string ((rd_T96 l0 x17_1).f2), .bool false] 96 (0, 0))) := ⟨by (with_reducible repeat (first | refine blk_drewN ?_ _ | refine blk_drew ?_ | refine blk_alloc ?_ _)); refine blk_put (cs := #[.string ((rd_T96 l0 x17_1).f0), .int .i64 ((rd_T96 l0 x17_1).f1), .string ((rd_T96 l0 x17_1).f2), .bool false]) ?_ 3 _ rfl; (with_reducible repeat (first | refine blk_drewN ?_ _ | refine blk_drew ?_ | refine blk_alloc ?_ _)); refine blk_put (cs := #[.string ((rd_T96 l0 x17_1).f0), .int .i64 ((rd_T96 l0 x17_1).f1), .string (⟨#[]⟩ : ByteArray), .bool false]) ?_ 2 _ rfl; (with_reducible repeat (first | refine blk_drewN ?_ _ | refine blk_drew ?_ | refine blk_alloc ?_ _)); refine blk_put (cs := #[.string ((rd_T96 l0 x17_1).f0), .int .i64 0, .string (⟨#[]⟩ : ByteArray), .bool false]) ?_ 1 _ rfl; (with_reducible repeat (first | refine blk_drewN ?_ _ | refine blk_drew ?_ | refine blk_alloc ?_ _)); refine blk_put (cs := #[.string (⟨#[]⟩ : ByteArray), .int .i64 0, .string (⟨#[]⟩ : ByteArray), .bool false]) ?_ 0 _ rfl; (with_reducible repeat (first | refine blk_drewN ?_ _ | refine blk_drew ?_ | refine blk_alloc ?_ _)); exact BK495.out⟩
   have n2_ : Aside0 (Below w.heap.size w ((((w37.setCell ⟨gb495, 0, none⟩ (.string ((rd_T96 l0 x17_1).f0))).setCell ⟨gb495, 1, none⟩ (.int .i64 ((rd_T96 l0 x17_1).f1))).setCell ⟨gb495, 2, none⟩ (.string ((rd_T96 l0 x17_1).f2))).setCell ⟨gb495, 3, none⟩ (.bool false))) := ⟨zb⟩
   (try clear HO_3)
   (try clear BK495)
   (try clear HB)
   generalize ((((w37.setCell ⟨gb495, 0, none⟩ (.string ((rd_T96 l0 x17_1).f0))).setCell ⟨gb495, 1, none⟩ (.int .i64 ((rd_T96 l0 x17_1).f1))).setCell ⟨gb495, 2, none⟩ (.string ((rd_T96 l0 x17_1).f2))).setCell ⟨gb495, 3, none⟩ (.bool false)) = w39 at n0_ n1_ n2_ ⊢
   have HO_3 := n0_
   have BK495 := n1_
   have HB := n2_
   clear n0_ n1_ n2_
   replace HO_3 := zz (Kd.R_drew HO_3.out)
   replace BK495 := zz (blk_drew BK495.out)
   replace HB := zz (below_drew1 HB.out)
   refine start_ (n := 12) (S := fun w' => w'.cell? ⟨gb495, 0, none⟩ = some (.string ((rd_T96 l0 x17_1).f0)) ∧ w'.cell? ⟨gb495, 1, none⟩ = some (.int .i64 ((rd_T96 l0 x17_1).f1)) ∧ w'.cell? ⟨gb495, 2, none⟩ = some (.string ((rd_T96 l0 x17_1).f2)) ∧ w'.cell? ⟨gb495, 3, none⟩ = some (.bool false)) (ds := []) (bp 0 12) zk rfl rfl (zy4 BK495.out) (fun hHeld => ?_); refine with_tabW impl_PackTree.tab10 impl_PackTree.bits10 (fun HT_ HW_ => ?_)
   generalize w39.drew = w40 at HO_3 BK495 HB hHeld ⊢
   refine zp 0 28 (bp 1 11) ?_
   refine zp 1 29 (bp 2 10) ?_
   refine zp 4 32 (bm 12 19) ?_
   refine zp 8 36 (bm 12 275) ?_
   refine zt 5 33 (bm 12 307) ?_
   refine zp 6 34 (bm 12 371) ?_
   refine zt 9 37 (bm 12 883) ?_
   refine zo 2 30 (bm 12 887) fun K hK => ?_
   refine value_ (w1 := ?_) (v := ?_) (by rfl) rfl ?_ ?_
   rotate_left 2
   ·go_simp
    constructor
    ·rfl
    ·rfl
   refine hK.out _ _ ⟨(blk_cell (blk_alloc BK495.out _) 0).trans rfl, (blk_cell (blk_alloc BK495.out _) 1).trans rfl, (blk_cell (blk_alloc BK495.out _) 2).trans rfl, (blk_cell (blk_alloc BK495.out _) 3).trans rfl⟩ (fun hHeld => ?_)
   clear hK K
   refine zn 30 ?_
   refine zo 3 31 (bm 12 895) fun K hK => ?_
   refine Kd.R_append_step (Kd.int .u8) (w0 := w) w.heap.size (by rfl) (.tmp 28) (.tmp 30) 133 5 (.int .u8 0) 1 rfl Tryz.underlying133 info5 rfl (by decide) (by omega) u3 x3_1 (((rd_T96 l0 x17_1).f1) % 256) [.int .u8 (((rd_T96 l0 x17_1).f1) % 256)] (fun _ => True) (fun _ => False) rfl rfl ?aP (fun _ hk => hk.elim) ?aF ?aO ?aB ?aS ?aL ?_
   (case aP => exact rfl)
   (case aB => exact zb)
   (case aF => exact (fun _ _ => trivial))
   (case aO => exact (zR HO_3.out))
   (case aS => exact (below_size zb))
   (case aL => have := LMc32.out; omega)
   intro v512 w41 ho hb hg hat
   rw [← Ny511.out] at ho
   replace BK495 := zz (zK BK495 hg (Kd.R_ne HO_3.out BK495.out (by decide)))
   replace HB := zz (hb)
   have HO513 := zz (ho)
   clear HO_3
   clear ho hb hg hat
   obtain ⟨Ao42, co42, eo42⟩ := Kd.R_slice HO513.out
   (first | subst eo42 | (injection eo42 with f1_ f2_ f3_; have f4_ := f1_.symm; have f5_ := f3_.symm; clear f1_ f2_ f3_; subst f4_; subst f5_))
   refine hK.out _ _ (zy4 BK495.out) (fun hHeld => ?_)
   clear hK K
   refine zn 31 ?_
   refine zo 7 35 (bp 10 2) fun K hK => ?_
   refine zh Tryz.func160 #[.slice Ao42 y511.length co42, .int .i64 (((rd_T96 l0 x17_1).f0).size : Int)] ?_
   with_reducible refine (impl_varint.calls k1 (fun k_ => some k_ = (.slice Ao42 y511.length co42 : Value).ownBlock) (.slice Ao42 y511.length co42) y511 (((rd_T96 l0 x17_1).f0).size : Int) t514 w _ ?s1 ?s2 A33.out).mono ?_
   (case s1 => repeat (first | (with_reducible first | exact HB.out | apply below_alloc | apply pw_below_drewN | apply below_drew1 | refine below_set ?_ GE495.out) | exact HB.out))
   (case s2 => exact Kd.R_tight rfl HO513.out)
   rintro e w43 ⟨v515, rfl, ho0, hb, hkp⟩
   refine ⟨_, rfl, ?_⟩
   replace BK495 := zz (blk_kept (zB BK495.out) hkp (fun hs_ => (fun e_ => (Kd.R_ne HO513.out BK495.out (by decide)) e_) hs_))
   have HO516 := zz (Kd.R_mono (ok' := fun k_ => True) ho0 (fun k_ hk_ => trivial))
   replace HB := zz (hb)
   clear HO513
   (try clear hb)
   (try clear hkp)
   (try clear ho0)
   refine hK.out _ _ (zy4 BK495.out) (fun hHeld => ?_)
   clear hK K
   refine zn 35 ?_
   refine zo 10 38 (bp 11 1) fun K hK => ?_
   refine print_append_str_step (w0 := w) w.heap.size (by rfl) (.tmp 35) _ 133 9 5 rfl Tryz.underlying133 Tryz.underlying9 info5 v515 t514 ((rd_T96 l0 x17_1).f0) rfl rfl ?aO ?aB ?aS ?aL ?_
   (case aB => exact zb)
   (case aO => exact (Kd.own_of_R (zR HO516.out)))
   (case aS => exact (below_size zb))
   (case aL => have := LMc34.out; omega)
   intro v518 w44 ho0 hb hg
   have ho := Kd.R_of_own (h1 := fun _ => rfl) (ok := fun _ => True) ho0 (fun _ _ => trivial)
   clear ho0
   have hat := True.intro
   rw [← Ny517.out] at ho
   change Kd.R (Kd.int .u8) 5 w44 w.heap.size (fun _ => True) v518 y517 at ho
   replace BK495 := zz (zK BK495 hg (Kd.R_ne HO516.out BK495.out (by decide)))
   replace HB := zz (hb)
   have HO519 := zz (ho)
   clear HO516
   clear ho hb hg hat
   refine hK.out _ _ (zy4 BK495.out) (fun hHeld => ?_)
   clear hK K
   refine zn 38 ?_
   refine zp 11 3 (bp 12 0) ?_
   refine done_ (done_of HT_.out zk) ?_
   try go_wp2
   replace HO519 := zz (Kd.R_drew HO519.out)
   replace BK495 := zz (blk_drew BK495.out)
   replace HB := zz (below_drew1 HB.out)
   obtain ⟨Ao46, co46, eo46⟩ := Kd.R_slice HO519.out
   (first | subst eo46 | (injection eo46 with f1_ f2_ f3_; have f4_ := f1_.symm; have f5_ := f3_.symm; clear f1_ f2_ f3_; subst f4_; subst f5_))
   refine start_ (n := 9) (S := fun w' => w'.cell? ⟨gb495, 0, none⟩ = some (.string ((rd_T96 l0 x17_1).f0)) ∧ w'.cell? ⟨gb495, 1, none⟩ = some (.int .i64 ((rd_T96 l0 x17_1).f1)) ∧ w'.cell? ⟨gb495, 2, none⟩ = some (.string ((rd_T96 l0 x17_1).f2)) ∧ w'.cell? ⟨gb495, 3, none⟩ = some (.bool false)) (ds := []) (bp 0 9) zk rfl rfl (zy4 BK495.out) (fun hHeld => ?_); refine with_tabW impl_PackTree.tab11 impl_PackTree.bits11 (fun HT_ HW_ => ?_)
   generalize w44.drew = w45 at HO519 BK495 HB hHeld ⊢
   refine zp 0 39 (bp 1 8) ?_
   refine zp 1 40 (bp 2 7) ?_
   refine zp 5 44 (bm 9 35) ?_
   refine zt 2 41 (bm 9 39) ?_
   refine zp 3 42 (bm 9 47) ?_
   refine zt 6 45 (bm 9 111) ?_
   refine zo 4 43 (bp 7 2) fun K hK => ?_
   refine zh Tryz.func160 #[.slice Ao46 y517.length co46, .int .i64 (((rd_T96 l0 x17_1).f2).size : Int)] ?_
   with_reducible refine (impl_varint.calls k1 (fun k_ => some k_ = (.slice Ao46 y517.length co46 : Value).ownBlock) (.slice Ao46 y517.length co46) y517 (((rd_T96 l0 x17_1).f2).size : Int) t520 w _ ?s1 ?s2 A35.out).mono ?_
   (case s1 => repeat (first | (with_reducible first | exact HB.out | apply below_alloc | apply pw_below_drewN | apply below_drew1 | refine below_set ?_ GE495.out) | exact HB.out))
   (case s2 => exact Kd.R_tight rfl HO519.out)
   rintro e w47 ⟨v521, rfl, ho0, hb, hkp⟩
   refine ⟨_, rfl, ?_⟩
   replace BK495 := zz (blk_kept (zB BK495.out) hkp (fun hs_ => (fun e_ => (Kd.R_ne HO519.out BK495.out (by decide)) e_) hs_))
   have HO522 := zz (Kd.R_mono (ok' := fun k_ => True) ho0 (fun k_ hk_ => trivial))
   replace HB := zz (hb)
   clear HO519
   (try clear hb)
   (try clear hkp)
   (try clear ho0)
   refine hK.out _ _ (zy4 BK495.out) (fun hHeld => ?_)
   clear hK K
   refine zn 43 ?_
   refine zo 7 46 (bp 8 1) fun K hK => ?_
   refine print_append_str_step (w0 := w) w.heap.size (by rfl) (.tmp 43) _ 133 9 5 rfl Tryz.underlying133 Tryz.underlying9 info5 v521 t520 ((rd_T96 l0 x17_1).f2) rfl rfl ?aO ?aB ?aS ?aL ?_
   (case aB => exact zb)
   (case aO => exact (Kd.own_of_R (zR HO522.out)))
   (case aS => exact (below_size zb))
   (case aL => have := LMc36.out; omega)
   intro v524 w48 ho0 hb hg
   have ho := Kd.R_of_own (h1 := fun _ => rfl) (ok := fun _ => True) ho0 (fun _ _ => trivial)
   clear ho0
   have hat := True.intro
   rw [← Ny523.out] at ho
   change Kd.R (Kd.int .u8) 5 w48 w.heap.size (fun _ => True) v524 y523 at ho
   replace BK495 := zz (zK BK495 hg (Kd.R_ne HO522.out BK495.out (by decide)))
   replace HB := zz (hb)
   have HO525 := zz (ho)
   clear HO522
   clear ho hb hg hat
   refine hK.out _ _ (zy4 BK495.out) (fun hHeld => ?_)
   clear hK K
   refine zn 46 ?_
   refine zp 8 3 (bp 9 0) ?_
   refine done_ (done_of HT_.out zk) ?_
   try go_wp2
   go_roundg k1
   case measure => have := HK1.out; omega
   case rel => exact ⟨(y523), (wrap64 (x17_1 + 1)), zr, H', ⟨by have := HK1.out; omega⟩, ⟨by (with_reducible repeat (first | apply Kd.R_alloc | apply Kd.R_drewN | apply Kd.R_drew)); exact HO525.out⟩, ⟨zb⟩⟩
end Go.Proofs.YtcekmnclmldmmaaGreatDoor.Q
