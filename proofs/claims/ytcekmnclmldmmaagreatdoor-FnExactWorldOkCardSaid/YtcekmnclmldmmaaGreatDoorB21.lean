import Derived.Sort.KeysCollected
import Derived.Maps.RangeWalk
import Derived.Sort.OwnSorted
import Derived.Lib.Hide
import Derived.Test.YtcekmnclmldmmaaGreatDoorB10
set_option linter.unusedVariables false
set_option linter.unusedSimpArgs false
namespace Go.Proofs.YtcekmnclmldmmaaGreatDoor.Q
open Go.RowKit W1 W2 W3
attribute [local go_sem] max2_int min2_int max_two min_two max_three min_three max_four min_four
attribute [local go_sem high] bl_leq bl_gtr bl_geq
set_option maxHeartbeats 8000000
set_option maxRecDepth 100000
def strings_Contains.f (a0 a1 : ByteArray) : Option Bool := if a0.size < 4294967281 then some (Lib.contains a0.data.toList a1.data.toList) else none
theorem strings_Contains.calls (a0 a1 : ByteArray) (r : Bool) (w : World) (hG_ : GOK w) (h : strings_Contains.f a0 a1 = some r) :
 Calls Tryz.prog 148 #[.string a0, .string a1] w fun e w' => e = .returned (.bool r) ∧ Drawn0 w w' := by
 unfold strings_Contains.f at h
 split at h
 ·rename_i hc
  obtain rfl := Option.some.inj h
  obtain ⟨m, hm⟩ := hG_.out
  exact (Tryz.strings_Contains a0 a1 m w hc hm).mono fun e w' ⟨he, hw⟩ => ⟨he, hw ▸ Drawn0.refl w⟩
 ·exact absurd h (by simp)
namespace impl_sorted
open Go.WideMaps Go.Maps Go.Sort
def dd : List ByteArray → List (List UInt8)
 | [] => []
 | s :: ds => if s.data.toList ∈ dd ds then dd ds else s.data.toList :: dd ds
theorem dd_mem (x : List UInt8) : ∀ ds, x ∈ dd ds ↔ ∃ s ∈ ds, s.data.toList = x
 | [] => by simp [dd]
 | s :: ds => by
  have ih := dd_mem x ds
  unfold dd
  split
  ·rename_i h
   rw [ih]
   constructor
   ·rintro ⟨t, ht, e⟩; exact ⟨t, List.mem_cons_of_mem _ ht, e⟩
   ·rintro ⟨t, ht, e⟩
    rcases List.mem_cons.1 ht with rfl | ht
    ·exact (ih.1 (e ▸ h))
    ·exact ⟨t, ht, e⟩
  ·rw [List.mem_cons, ih]
   constructor
   ·rintro (e | ⟨t, ht, e⟩)
    ·exact ⟨s, List.mem_cons_self .., e.symm⟩
    ·exact ⟨t, List.mem_cons_of_mem _ ht, e⟩
   ·rintro ⟨t, ht, e⟩
    rcases List.mem_cons.1 ht with rfl | ht
    ·exact .inl e.symm
    ·exact .inr ⟨t, ht, e⟩
theorem dd_nodup : ∀ ds, (dd ds).Nodup
 | [] => List.nodup_nil
 | s :: ds => by
  unfold dd
  split
  ·exact dd_nodup ds
  ·rename_i h
   exact List.nodup_cons.2 ⟨h, dd_nodup ds⟩
theorem has_dd (x : List UInt8) : ∀ ds, Maps.has (MapSet.of ds) (.string x) = true ↔ ∃ s ∈ ds, s.data.toList = x
 | [] => by simp [MapSet.of, has_eq]
 | s :: ds => by
  have ih := has_dd x ds
  unfold MapSet.of
  by_cases h : x = s.data.toList
  ·subst h
   rw [has_put_same (MapSet.isMap ds) (show WideAt.IsKeyLit (.string s.data.toList) from trivial)]
   exact ⟨fun _ => ⟨s, List.mem_cons_self .., rfl⟩, fun _ => rfl⟩
  ·have hne : (Lit.string x) ≠ .string s.data.toList := fun e => h (by injection e)
   rw [has_put_other hne, ih]
   constructor
   ·rintro ⟨t, ht, e⟩; exact ⟨t, List.mem_cons_of_mem _ ht, e⟩
   ·rintro ⟨t, ht, e⟩
    rcases List.mem_cons.1 ht with rfl | ht
    ·exact absurd e.symm h
    ·exact ⟨t, ht, e⟩
def out (ds : List ByteArray) : List ByteArray := ((dd ds).mergeSort leB).map fun l => ⟨l.toArray⟩
def f (ds : List ByteArray) : Option (List ByteArray) := if ds.length < 4194304 then some (out ds) else none
theorem encs_out (L : List (List UInt8)) : encs Value.string (L.map fun l => (⟨l.toArray⟩ : ByteArray)) = L.map encStr := by
 simp [encs, encStr]
theorem R_out {w w' : World} {v : Value} {ds : List ByteArray} {ss : List (List UInt8)} (hp : ss.Perm (dd ds)) (h : w'.ownsRow w.heap.size 9 1 v ss.length ((ss.mergeSort leB).map encStr)) : Kd.R Kd.string 9 w' w.heap.size (fun _ => True) v (out ds) := by
 rw [mergeSort_of_perm hp] at h
 refine Kd.R_of_own ?_ (fun _ _ => trivial)
 unfold out
 rw [encs_out]
 simpa [hp.length_eq] using h
theorem calls (b : Nat) (ds r : List ByteArray) (w : World) (hM : MapSet.MS w b ds) (h : f ds = some r) :
 Calls Tryz.prog 149 #[.map (some b)] w fun e w' => ∃ v0_ : Value, e = .returned v0_ ∧ Kd.R Kd.string 9 w' w.heap.size (fun _ => True) v0_ r ∧ Below w.heap.size w w' := by
 unfold f at h
 split at h
 case isFalse => exact absurd h (by simp)
 case isTrue hlen =>
 obtain rfl := Option.some.inj h
 have hbl := World.ownsMap.lt hM
 have hsz := World.ownsMap.size_le hM
 obtain ⟨i0, hi, hz0, hz1, hz2⟩ := info_parts info9
 unfold MapSet.MS at hM
 generalize hD : MapSet.of ds = D0 at hM hsz
 have hD0 := Lib.hid hD
 clear hD h
 go_enter Tryz.func149, Tryz.ntmps149
 go_wp2_with (at_range; refine wpList_range_own _ rfl _ 136 rfl 9 3 MapSet.keyed Tryz.underlying136 _ b ds.length _ rfl hM ?_; intro w0 hrg0 hg0 hs0)
 go_frame
 go_loopw [3] (fun v wr => ∃ (left : Lit → Bool) (cnt : Nat) (ss : List (List UInt8)), wr.ranges Tryz.prog 9 (plainElem (H := Unit) Tryz.prog 3) b w.heap.size ds.length D0 left cnt ∧ ss.length + cnt ≤ Maps.size D0 ∧
  wr.ownsRow w.heap.size 9 1 v ss.length (ss.map encStr) ∧ Collected D0 left ss ∧ Below w.heap.size w wr)
  (fun _ wr => wr.rangeLeft b w.heap.size)
 case atStart =>
  exact ⟨_, _, [], hrg0, by simp, World.ownsRow_nil _ _ _ _, Collected.start D0, (Below.refl _ _).grown hg0 (Nat.le_refl _) (fun j hj => by cases hj)⟩
 case round =>
  obtain ⟨left, cnt, ss, hrg, hcs, hrow, hC, hnx⟩ := hrel
  go_wp2_with (at_next; refine wpList_next_ranges _ rfl _ rfl 9 MapSet.keyed (plainElem Tryz.prog 3) encStr (Value.int .i64) (fun key kl hk => by obtain ⟨x, hx, _⟩ := Maps.keyOf_str Tryz.underlying9 hk; exact ⟨x, hx⟩) (fun v y hv => by obtain ⟨c, rfl, _⟩ := plainElem_int_inv Tryz.underlying3 hv; exact ⟨c, rfl⟩) b w.heap.size ds.length _ _ _ rfl hrg ?_ ?_)
  ·intro hc0 hl0
   have hp : ss.Perm (dd ds) := (List.perm_ext_iff_of_nodup hC.1 (dd_nodup ds)).2 fun x => by
    rw [hC.2 x, hl0, ← hD0.out, has_dd, dd_mem]; simp
   have hP := Lib.hid hp
   rcases hrow.2 with ⟨rfl, hnil⟩ | ⟨g, cap, cur, rfl, hbase, hb, h1, h2, h3, h4⟩
   ·have hN := Lib.hid hnil
    clear hp hnil hc0 hl0
    go_wp2_with (go_at_call 162; refine (Tryz.slices_Sort_string_none _ _ _).mono ?_; rintro e w' ⟨rfl, rfl⟩)
    go_ret
    refine ⟨.slice none 0 0, rfl, R_out hP.out ?_, hnx⟩
    have e0 : ss = [] := List.length_eq_zero_iff.1 hN.out
    subst e0
    simpa using World.ownsRow_nil w' w.heap.size 9 1
   ·have hH : Holds encStr _ g 0 ss.toArray := holds_of_block hb (by simpa using h4)
    have hgl := (Array.getElem?_eq_some_iff.1 hb).1
    have hc := Tryz.slices_Sort_string g 0 cap ss _ hH hgl (by omega)
    have hB1 := Lib.hid hbase
    clear hp hc0 hl0
    go_wp2_with (go_at_call 162; refine hc.mono ?_; rintro e w' ⟨rfl, nn, os, rfl⟩)
    go_ret
    exact ⟨_, rfl, R_out hP.out (ownsRow_sorted (by simp) hbase hb h1 h2 h3), hnx.grown (grownBy_sorted _) hnx.size (fun j hj => by cases hj; exact hB1.out)⟩
  ·intro x c kl yd yp w2 cnt2 hkey hlk hv hat hrg2 hlt hg2 hs2 hen
   obtain ⟨x', ex, rfl, _⟩ := Maps.keyOf_str Tryz.underlying9 hkey
   obtain rfl : x = x' := encStr_inj ex
   have hrow2 := hrow.kept hg2 (Or.inr (row_ne_iter hrow hrg).symm)
   have hS2 := Lib.hid hs2
   clear hs2
   go_wp2_with (at_builtin; refine wpList_append_own_at _ rfl _ _ 39 rfl w.heap.size 9 i0 (.string ⟨#[]⟩) 1 16 Tryz.underlying39 hi hz0 hz1 hz2 rfl (by decide) _ _ _ rfl (hrow2.alloc _) ⟨w2.heap.size, 0, none⟩ 1 1 [encStr x] rfl rfl (cell_one_new _ _ _) (by simp [Value.oneCell', encStr]) (by unfold maxLen at *; omega) (by omega) (by have := hnx.size; have := hg2.size; simp; omega) ?_; intro v' w3 hown' hg3 hnil3 hat3; go_frame)
   have hrg3 := (hrg2.alloc _).kept hg3 (row_ne_low hrow2 hbl) (row_ne_iter hrow2 hrg2)
   go_roundw
   case rel =>
    refine ⟨_, cnt2, ss ++ [x], hrg3, by simp; omega, by simpa using hown', hC.step hlk hat, ?_⟩
    exact ((hnx.grown hg2 hnx.size (fun j hj => by cases hj; exact Nat.le_refl _)).alloc (by have := hnx.size; have := hg2.size; omega) _).grown hg3 (by have := hnx.size; have := hg2.size; simp; omega) (fun j hj => (hrow2.lt j hj).1)
   case measure => rw [hrg3.left_eq, hrg.left_eq]; exact hlt
end impl_sorted
mutual
def impl_RefsIn.j0 : Nat → List (S96) → List ByteArray → Bool → Option (List ByteArray)
 | 0, _, _, _ => none
 | k + 1, x0, x1, x17 => if x17 = true then (some ([] : List ByteArray)) else (impl_RefsIn.l0 k x0 ([] : List ByteArray) x1 (x1.length : Int) 0)
def impl_RefsIn.l0 : Nat → List (S96) → List ByteArray → List ByteArray → Int → Int → Option (List ByteArray)
 | 0, _, _, _, _, _ => none
 | k + 1, x0, x5, x19, x20, x21 => if x21 < x20 then (if 0 ≤ x21 then (if x21 < (x19.length : Int) then ((impl_AddressOk.f k (rdOf ByteArray.empty x19 x21)).bind fun t539 => (if t539 = true then (impl_RefsIn.l1 k x0 x5 (rdOf ByteArray.empty x19 x21) x19 x20 x21 x0 (x0.length : Int) 0) else (impl_RefsIn.l0 k x0 x5 x19 x20 (wrap64 (x21 + 1))))) else (none)) else (none)) else ((impl_sorted.f x5).bind fun t535 => (some t535))
def impl_RefsIn.l1 : Nat → List (S96) → List ByteArray → ByteArray → List ByteArray → Int → Int → List (S96) → Int → Int → Option (List ByteArray)
 | 0, _, _, _, _, _, _, _, _, _ => none
 | k + 1, x0, x5, x7, x19, x20, x21, x28, x29, x30 => if x30 < x29 then (if 0 ≤ x30 then (if x30 < (x28.length : Int) then (if 0 ≤ 13 then (if 13 ≤ (x7.size : Int) then ((strings_Contains.f ((rd_T96 x28 x30).f2) (x7.extract 0 13)).bind fun t542 => (if t542 = true then ((MapSet.put x5 x7).bind fun t543 => (impl_RefsIn.l0 k x0 t543 x19 x20 (wrap64 (x21 + 1)))) else (impl_RefsIn.l1 k x0 x5 x7 x19 x20 x21 x28 x29 (wrap64 (x30 + 1))))) else (none)) else (none)) else (none)) else (none)) else (impl_RefsIn.l0 k x0 x5 x19 x20 (wrap64 (x21 + 1)))
end
def impl_RefsIn.f (k : Nat) (l0 : List (S96)) (l1 : List ByteArray) : Option (List ByteArray) := (impl_TreeOk.f k l0).bind fun t534 => (if t534 = true then (impl_RefsIn.j0 k l0 l1 (decide ((l1.length : Int) > 2000))) else (impl_RefsIn.j0 k l0 l1 true))
theorem impl_RefsIn.mono_l : ∀ k, (∀ y0 y1 y2, LeO (impl_RefsIn.j0 k y0 y1 y2) (impl_RefsIn.j0 (k + 1) y0 y1 y2)) ∧ (∀ y0 y1 y2 y3 y4, LeO (impl_RefsIn.l0 k y0 y1 y2 y3 y4) (impl_RefsIn.l0 (k + 1) y0 y1 y2 y3 y4)) ∧ (∀ y0 y1 y2 y3 y4 y5 y6 y7 y8, LeO (impl_RefsIn.l1 k y0 y1 y2 y3 y4 y5 y6 y7 y8) (impl_RefsIn.l1 (k + 1) y0 y1 y2 y3 y4 y5 y6 y7 y8))
 | 0 => ⟨fun _ _ _ r h => by simp [impl_RefsIn.j0] at h, fun _ _ _ _ _ r h => by simp [impl_RefsIn.l0] at h, fun _ _ _ _ _ _ _ _ _ r h => by simp [impl_RefsIn.l1] at h⟩
 | k + 1 => by
  obtain ⟨ih0, ih1, ih2⟩ := impl_RefsIn.mono_l k
  refine ⟨?_, ?_, ?_⟩
  ·intro y0 y1 y2
   unfold impl_RefsIn.j0
   have m0 := @impl_AddressOk.mono
   have m1 := @impl_TreeOk.mono
   exact zM
  ·intro y0 y1 y2 y3 y4
   unfold impl_RefsIn.l0
   have m0 := @impl_AddressOk.mono
   have m1 := @impl_TreeOk.mono
   exact zM
  ·intro y0 y1 y2 y3 y4 y5 y6 y7 y8
   unfold impl_RefsIn.l1
   have m0 := @impl_AddressOk.mono
   have m1 := @impl_TreeOk.mono
   exact zM
theorem impl_RefsIn.mono : ∀ a0 a1 k, LeO (impl_RefsIn.f k a0 a1) (impl_RefsIn.f (k + 1) a0 a1) := by
 intro a0 a1 k
 obtain ⟨ih0, ih1, ih2⟩ := impl_RefsIn.mono_l k
 unfold impl_RefsIn.f
 have m0 := @impl_AddressOk.mono
 have m1 := @impl_TreeOk.mono
 exact zM
theorem impl_RefsIn.calls (k : Nat) (A0 : Option Addr) (c0 : Nat) (l0 : List (S96)) (A1 : Option Addr) (c1 : Nat) (l1 : List ByteArray) (r : List ByteArray) (w : World) (hr0 : Kd.C k96 w A0 l0.length l0) (hc0 : l0.length ≤ c0) (hr1 : Kd.C Kd.string w A1 l1.length l1) (hc1 : l1.length ≤ c1) (hG_ : GOK w) (h : impl_RefsIn.f k l0 l1 = some r) :
 Calls Tryz.prog 127 #[.slice A0 l0.length c0, .slice A1 l1.length c1] w fun e w' => ∃ v0_ : Value, e = .returned (v0_) ∧ Kd.R Kd.string 9 w' w.heap.size (fun _ => True) v0_ r ∧ Below w.heap.size w w' := by
 have hu96 := Tryz.underlying96
 have HG := zz hG_
 clear hG_
 have HR0 := zz hr0
 have HC0 := zz hc0
 clear hr0 hc0
 have HR1 := zz hr1
 have HC1 := zz hc1
 clear hr1 hc1
 have HB := zz (Below.refl w.heap.size w)
 unfold impl_RefsIn.f at h
 have H := h
 clear h
 have HC3 := zz H
 clear H
 go_enter Tryz.func127, Tryz.ntmps127
 go_upto_region 1 with (fail)
 repeat (go_quiet (fail); go_upto_region 1 with (fail))
 go_cut [17] (fun v17 wc => ∃ (kq : Nat) (x17_2 : Bool), v17 = .bool x17_2 ∧ Aside0 (impl_RefsIn.j0 kq l0 l1 x17_2 = some r) ∧ Aside0 (kq ≤ k) ∧ Aside0 (Below w.heap.size w wc))
 case first =>
  have H := HC3.out
  clear HC3
  replace H := zf H
  obtain ⟨t534, A40, H⟩ := H
  try dsimp only at H
  have A4 := zz A40
  clear A40
  by_cases c5 : t534 = true
  ·subst c5
   rw [if_pos rfl] at H
   have H' := zz H
   clear H
   go_wp2_with (first | (go_at_call 66; (with_reducible refine (impl_TreeOk.calls k _ _ l0 true _ ?s1 ?s2 ?s3 A4.out).mono ?_); (case s1 => exact zc HR0.out); (case s2 => exact HC0.out); (case s3 => exact zG); rintro e w6 ⟨rfl, hb⟩; replace HB := zz (zv zb hb); (try clear hb); (try clear hb2); (try clear hk); (try clear hi)))
   repeat (go_quiet (first | (go_at_call 66; (with_reducible refine (impl_TreeOk.calls k _ _ l0 true _ ?s1 ?s2 ?s3 A4.out).mono ?_); (case s1 => exact zc HR0.out); (case s2 => exact HC0.out); (case s3 => exact zG); rintro e w6 ⟨rfl, hb⟩; replace HB := zz (zv zb hb); (try clear hb); (try clear hb2); (try clear hk); (try clear hi))); try go_wp2_with (first | (go_at_call 66; (with_reducible refine (impl_TreeOk.calls k _ _ l0 true _ ?s1 ?s2 ?s3 A4.out).mono ?_); (case s1 => exact zc HR0.out); (case s2 => exact HC0.out); (case s3 => exact zG); rintro e w6 ⟨rfl, hb⟩; replace HB := zz (zv zb hb); (try clear hb); (try clear hb2); (try clear hk); (try clear hi))))
   go_meet
   case rel => exact ⟨_, (decide ((l1.length : Int) > 2000)), zr, H', ⟨by first | omega | exact Nat.le_refl _⟩, ⟨zb⟩⟩
  ·replace c5 := Bool.eq_false_iff.mpr c5
   subst c5
   rw [if_neg (show ¬ (false = true) by decide)] at H
   have H' := zz H
   clear H
   go_wp2_with (first | (go_at_call 66; (with_reducible refine (impl_TreeOk.calls k _ _ l0 false _ ?s1 ?s2 ?s3 A4.out).mono ?_); (case s1 => exact zc HR0.out); (case s2 => exact HC0.out); (case s3 => exact zG); rintro e w7 ⟨rfl, hb⟩; replace HB := zz (zv zb hb); (try clear hb); (try clear hb2); (try clear hk); (try clear hi)))
   repeat (go_quiet (first | (go_at_call 66; (with_reducible refine (impl_TreeOk.calls k _ _ l0 false _ ?s1 ?s2 ?s3 A4.out).mono ?_); (case s1 => exact zc HR0.out); (case s2 => exact HC0.out); (case s3 => exact zG); rintro e w7 ⟨rfl, hb⟩; replace HB := zz (zv zb hb); (try clear hb); (try clear hb2); (try clear hk); (try clear hi))); try go_wp2_with (first | (go_at_call 66; (with_reducible refine (impl_TreeOk.calls k _ _ l0 false _ ?s1 ?s2 ?s3 A4.out).mono ?_); (case s1 => exact zc HR0.out); (case s2 => exact HC0.out); (case s3 => exact zG); rintro e w7 ⟨rfl, hb⟩; replace HB := zz (zv zb hb); (try clear hb); (try clear hb2); (try clear hk); (try clear hi))))
   go_meet
   case rel => exact ⟨_, (true), zr, H', ⟨by first | omega | exact Nat.le_refl _⟩, ⟨zb⟩⟩
 case rest =>
  clear HC3
  try clear c1
  try clear p2
  try clear c5
  obtain ⟨kq, x17_2, rfl, HA, HJ2, HB⟩ := hcut
  cases kq with
  | zero => exact absurd HA.out (by simp [impl_RefsIn.j0])
  | succ kj2 =>
   have H := HA.out
   clear HA
   simp only [impl_RefsIn.j0] at H
   by_cases c8 : x17_2 = true
   ·subst c8
    rw [if_pos rfl] at H
    obtain rfl := zi H
    go_wp2
    repeat (go_quiet (fail); try go_wp2)
    go_ret
    exact ⟨_, ze, by first | exact Kd.R_nil _ _ _ _ _ | exact Kd.N_nil _ _ _ _ _ | exact Kd.V_nil _ _ _ _ _ | exact Kd.Q_nil _ _ _ _ _ | exact Kd.S_nil _ _ _ _ _, zb⟩
   replace c8 := Bool.eq_false_iff.mpr c8
   subst c8
   rw [if_neg (show ¬ (false = true) by decide)] at H
   have H' := zz H
   clear H
   go_wp2_with (first | (refine zN 18 ?_; refine MapSet.make_event ?hg (N := 18) ?hd (t := 136) ?ho ?_; (case hd => rfl); (case hg => rfl); (case ho => rfl); intro bm wm hbm hms hb; have HBM := zz (Nat.le_trans (below_size zb) hbm); have HM := zz hms; have n1_ := zz (zv zb hb); have HW := zz (Below.refl w.heap.size w); clear HB hb hbm hms; have HB := n1_; clear n1_))
   repeat (go_quiet (fail); try go_wp2)
   go_loopg [21] kj2 (fun kq v21 w' => ∃ (x5_2 : List ByteArray) (x21_2 : Int), v21 = .int .i64 x21_2 ∧ Aside0 (impl_RefsIn.l0 kq l0 x5_2 l1 (l1.length : Int) x21_2 = some r) ∧ Aside0 (kq ≤ kj2) ∧ Aside0 (Below w.heap.size w w') ∧ Aside0 (MapSet.MS w' bm x5_2))
   case atStart => exact ⟨([] : List ByteArray), (0), zr, H', ⟨Nat.le_refl _⟩, ⟨zb⟩, ⟨HM.out.below (by repeat (first | exact Below.refl _ _ | apply below_alloc | apply pw_below_drewN | apply below_drew1))⟩⟩
   case round =>
    clear H'
    try clear c1
    try clear p2
    try clear c5
    try clear c8
    try clear p2
    try clear HM
    obtain ⟨x5_2, x21_2, rfl, HA, HK2, HB, HM_⟩ := hrel
    have HM := HM_
    clear HM_
    rename World => w
    have HLt0 := HB
    replace HW := zz (zv HW.out HB.out)
    replace HR0 := zz (Kd.C_below HR0.out HB.out)
    replace HR1 := zz (Kd.C_below HR1.out HB.out)
    replace HG := zz (GOK.below HG.out HB.out)
    clear HB
    have HB := zz (Below.refl w.heap.size w)
    cases gk with
    | zero => exact absurd HA.out (by simp [impl_RefsIn.l0])
    | succ k2 =>
     have H := HA.out
     clear HA
     simp only [impl_RefsIn.l0] at H
     by_cases c9 : x21_2 < (l1.length : Int)
     case neg =>
      rw [if_neg c9] at H
      have c9b0 := z0 c9
      clear c9
      replace H := zf H
      obtain ⟨t535, A260, H⟩ := H
      try dsimp only at H
      have A26 := zz A260
      clear A260
      obtain rfl := zi H
      go_wp2_with (first | (go_at_call 149; (with_reducible refine (impl_sorted.calls _ x5_2 t535 _ (HM.out.below zb) A26.out).mono ?_); rintro e w27 ⟨v536, rfl, ho0, hb⟩; have HO537 := zz (Kd.R_lower ho0 (below_size zb)); replace HB := zz (zv zb hb); (try clear hb); (try clear hb2); (try clear hk); (try clear hi); (try clear ho0)))
      repeat (go_quiet (first | (go_at_call 149; (with_reducible refine (impl_sorted.calls _ x5_2 t535 _ (HM.out.below zb) A26.out).mono ?_); rintro e w27 ⟨v536, rfl, ho0, hb⟩; have HO537 := zz (Kd.R_lower ho0 (below_size zb)); replace HB := zz (zv zb hb); (try clear hb); (try clear hb2); (try clear hk); (try clear hi); (try clear ho0))); try go_wp2_with (first | (go_at_call 149; (with_reducible refine (impl_sorted.calls _ x5_2 t535 _ (HM.out.below zb) A26.out).mono ?_); rintro e w27 ⟨v536, rfl, ho0, hb⟩; have HO537 := zz (Kd.R_lower ho0 (below_size zb)); replace HB := zz (zv zb hb); (try clear hb); (try clear hb2); (try clear hk); (try clear hi); (try clear ho0))))
      go_ret
      exact ⟨_, ze, Kd.R_lower (zR HO537.out) HW.out.size, zv HW.out zb⟩
     rw [if_pos c9] at H
     have c9b0 := z1 c9
     clear c9
     by_cases c10 : 0 ≤ x21_2
     case neg => exact zno H c10
     rw [if_pos c10] at H
     have c10b0 := z1 c10
     clear c10
     by_cases c11 : x21_2 < (l1.length : Int)
     case neg => exact zno H c11
     rw [if_pos c11] at H
     have c11b0 := z1 c11
     clear c11
     replace H := zf H
     obtain ⟨t539, A120, H⟩ := H
     try dsimp only at H
     have A12 := zz A120
     clear A120
     by_cases c13 : t539 = true
     case neg =>
      replace c13 := Bool.eq_false_iff.mpr c13
      subst c13
      rw [if_neg (show ¬ (false = true) by decide)] at H
      have H' := zz H
      clear H
      have p538 : 0 ≤ (x21_2 : Int) := z2
      have q538 : x21_2 < (l1.length : Int) := z2
      obtain ⟨ad538, e538, hx538_0⟩ := Kd.at_string HR1.out x21_2 p538 q538
      cases e538
      replace hx538_0 := z3 HB.out hx538_0
      replace p538 := eq_true p538
      replace q538 := eq_true q538
      go_wp2_with (first | (go_at_call 46; (with_reducible refine (impl_AddressOk.calls k2 (rdOf ByteArray.empty l1 x21_2) false _ A12.out).mono ?_); rintro e w' ⟨rfl, ⟨nd, rfl⟩⟩; (try first | exact ⟨rfl, _, World.drewN_drewN _ _ _⟩ | exact ⟨rfl, _, Eq.trans (World.drewN_drewN _ _ _) (congrArg (World.drewN _) (Nat.add_assoc _ _ _))⟩)))
      repeat (go_quiet (first | (go_at_call 46; (with_reducible refine (impl_AddressOk.calls k2 (rdOf ByteArray.empty l1 x21_2) false _ A12.out).mono ?_); rintro e w' ⟨rfl, ⟨nd, rfl⟩⟩; (try first | exact ⟨rfl, _, World.drewN_drewN _ _ _⟩ | exact ⟨rfl, _, Eq.trans (World.drewN_drewN _ _ _) (congrArg (World.drewN _) (Nat.add_assoc _ _ _))⟩))); try go_wp2_with (first | (go_at_call 46; (with_reducible refine (impl_AddressOk.calls k2 (rdOf ByteArray.empty l1 x21_2) false _ A12.out).mono ?_); rintro e w' ⟨rfl, ⟨nd, rfl⟩⟩; (try first | exact ⟨rfl, _, World.drewN_drewN _ _ _⟩ | exact ⟨rfl, _, Eq.trans (World.drewN_drewN _ _ _) (congrArg (World.drewN _) (Nat.add_assoc _ _ _))⟩))))
      go_roundg k2
      case measure => have := HJ2.out; have := HK2.out; omega
      case rel => exact ⟨(x5_2), (wrap64 (x21_2 + 1)), zr, H', ⟨by have := HJ2.out; have := HK2.out; omega⟩, ⟨zv HLt0.out zb⟩, ⟨HM.out.below zb⟩⟩
     subst c13
     rw [if_pos rfl] at H
     have H' := zz H
     clear H
     have p538 : 0 ≤ (x21_2 : Int) := z2
     have q538 : x21_2 < (l1.length : Int) := z2
     obtain ⟨ad538, e538, hx538_0⟩ := Kd.at_string HR1.out x21_2 p538 q538
     cases e538
     replace hx538_0 := z3 HB.out hx538_0
     replace p538 := eq_true p538
     replace q538 := eq_true q538
     go_wp2_with (first | (go_at_call 46; (with_reducible refine (impl_AddressOk.calls k2 (rdOf ByteArray.empty l1 x21_2) true _ A12.out).mono ?_); rintro e w' ⟨rfl, ⟨nd, rfl⟩⟩; (try first | exact ⟨rfl, _, World.drewN_drewN _ _ _⟩ | exact ⟨rfl, _, Eq.trans (World.drewN_drewN _ _ _) (congrArg (World.drewN _) (Nat.add_assoc _ _ _))⟩)))
     repeat (go_quiet (first | (go_at_call 46; (with_reducible refine (impl_AddressOk.calls k2 (rdOf ByteArray.empty l1 x21_2) true _ A12.out).mono ?_); rintro e w' ⟨rfl, ⟨nd, rfl⟩⟩; (try first | exact ⟨rfl, _, World.drewN_drewN _ _ _⟩ | exact ⟨rfl, _, Eq.trans (World.drewN_drewN _ _ _) (congrArg (World.drewN _) (Nat.add_assoc _ _ _))⟩))); try go_wp2_with (first | (go_at_call 46; (with_reducible refine (impl_AddressOk.calls k2 (rdOf ByteArray.empty l1 x21_2) true _ A12.out).mono ?_); rintro e w' ⟨rfl, ⟨nd, rfl⟩⟩; (try first | exact ⟨rfl, _, World.drewN_drewN _ _ _⟩ | exact ⟨rfl, _, Eq.trans (World.drewN_drewN _ _ _) (congrArg (World.drewN _) (Nat.add_assoc _ _ _))⟩))))
     go_loopg [30] k2 (fun kq v30 w' => ∃ (x5_3 : List ByteArray) (x30_3 : Int), v30 = .int .i64 x30_3 ∧ Aside0 (impl_RefsIn.l1 kq l0 x5_3 (rdOf ByteArray.empty l1 x21_2) l1 (l1.length : Int) x21_2 l0 (l0.length : Int) x30_3 = some r) ∧ Aside0 (kq ≤ k2) ∧ Aside0 (Below w.heap.size w w') ∧ Aside0 (MapSet.MS w' bm x5_3))
     case atStart => exact ⟨(x5_2), (0), zr, H', ⟨Nat.le_refl _⟩, ⟨zb⟩, ⟨HM.out.below zb⟩⟩
     case round =>
      clear H'
      try clear c1
      try clear p2
      try clear c5
      try clear p5
      try clear q5
      try clear hx5
      try clear p6
      try clear c8
      try clear c9
      try clear c9b0
      try clear c10
      try clear c10b0
      try clear c11
      try clear c11b0
      try clear c12
      try clear c13
      try clear hx538_0
      try clear p2
      try clear p538
      try clear q538
      try clear HM
      obtain ⟨x5_3, x30_3, rfl, HA, HK3, HB, HM_⟩ := hrel
      have HM := HM_
      clear HM_
      rename World => w
      have HLt1 := HB
      replace HW := zz (zv HW.out HB.out)
      replace HLt0 := zz (zv HLt0.out HB.out)
      replace HR0 := zz (Kd.C_below HR0.out HB.out)
      replace HR1 := zz (Kd.C_below HR1.out HB.out)
      replace HG := zz (GOK.below HG.out HB.out)
      clear HB
      have HB := zz (Below.refl w.heap.size w)
      cases gk with
      | zero => exact absurd HA.out (by simp [impl_RefsIn.l1])
      | succ k3 =>
       have H := HA.out
       clear HA
       simp only [impl_RefsIn.l1] at H
       by_cases c14 : x30_3 < (l0.length : Int)
       case neg =>
        rw [if_neg c14] at H
        have c14b0 := z0 c14
        clear c14
        have H' := zz H
        clear H
        go_wp2
        repeat (go_quiet (fail); try go_wp2)
        go_roundg k3
        case measure => have := HJ2.out; have := HK2.out; have := HK3.out; omega
        case rel => exact ⟨(x5_3), (wrap64 (x21_2 + 1)), zr, H', ⟨by have := HJ2.out; have := HK2.out; have := HK3.out; omega⟩, ⟨zv HLt0.out zb⟩, ⟨HM.out.below zb⟩⟩
       rw [if_pos c14] at H
       have c14b0 := z1 c14
       clear c14
       by_cases c15 : 0 ≤ x30_3
       case neg => exact zno H c15
       rw [if_pos c15] at H
       have c15b0 := z1 c15
       clear c15
       by_cases c16 : x30_3 < (l0.length : Int)
       case neg => exact zno H c16
       rw [if_pos c16] at H
       have c16b0 := z1 c16
       clear c16
       by_cases c17 : 0 ≤ 13
       case neg => exact zno H c17
       rw [if_pos c17] at H
       have c17b0 := eq_true c17
       have c17b1 := z1 c17
       clear c17
       by_cases c18 : 13 ≤ ((rdOf ByteArray.empty l1 x21_2).size : Int)
       case neg => exact zno H c18
       rw [if_pos c18] at H
       have c18b0 := eq_true c18
       have c18b1 := z1 c18
       clear c18
       replace H := zf H
       obtain ⟨t542, A190, H⟩ := H
       try dsimp only at H
       have A19 := zz A190
       clear A190
       by_cases c20 : t542 = true
       case neg =>
        replace c20 := Bool.eq_false_iff.mpr c20
        subst c20
        rw [if_neg (show ¬ (false = true) by decide)] at H
        have H' := zz H
        clear H
        have p540 : 0 ≤ (x30_3 : Int) := z2
        have q540 : x30_3 < (l0.length : Int) := z2
        obtain ⟨ad540, e540, hx540_0, hx540_1, hx540_2, hx540_3⟩ := at_T96 HR0.out x30_3 p540 q540
        cases e540
        replace hx540_0 := z3 HB.out hx540_0
        replace hx540_1 := z3 HB.out hx540_1
        replace hx540_2 := z3 HB.out hx540_2
        replace hx540_3 := z3 HB.out hx540_3
        replace p540 := eq_true p540
        replace q540 := eq_true q540
        go_wp2_with (first | (refine zN 9 ?_; (try (refine z4 ?_; dsimp only)); refine zX 9 96 #[.string (⟨#[]⟩ : ByteArray), .int .i64 0, .string (⟨#[]⟩ : ByteArray), .bool false] ?_; intro gb541 hg w24 hbox hb; have BK541 := zz (hbox); have GW541 := zz ((zg : w.heap.size ≤ gb541)); have GE541 := zz ((zg : w.heap.size ≤ gb541)); replace HB := zz (zv zb hb); clear hb hbox hg; obtain ⟨hcz25_0, hcz25_1, hcz25_2, hcz25_3, hfz25_0, hfz25_1, hfz25_2, hfz25_3⟩ := zc4 BK541.out) | (go_at_call 148; (with_reducible refine (strings_Contains.calls ((rd_T96 l0 x30_3).f2) ((rdOf ByteArray.empty l1 x21_2).extract 0 13) false _ ?s1 A19.out).mono ?_); (case s1 => exact zG); rintro e w' ⟨rfl, ⟨nd, rfl⟩⟩; (try first | exact ⟨rfl, _, World.drewN_drewN _ _ _⟩ | exact ⟨rfl, _, Eq.trans (World.drewN_drewN _ _ _) (congrArg (World.drewN _) (Nat.add_assoc _ _ _))⟩)))
        repeat (go_quiet (first | (refine zN 9 ?_; (try (refine z4 ?_; dsimp only)); refine zX 9 96 #[.string (⟨#[]⟩ : ByteArray), .int .i64 0, .string (⟨#[]⟩ : ByteArray), .bool false] ?_; intro gb541 hg w24 hbox hb; have BK541 := zz (hbox); have GW541 := zz ((zg : w.heap.size ≤ gb541)); have GE541 := zz ((zg : w.heap.size ≤ gb541)); replace HB := zz (zv zb hb); clear hb hbox hg; obtain ⟨hcz25_0, hcz25_1, hcz25_2, hcz25_3, hfz25_0, hfz25_1, hfz25_2, hfz25_3⟩ := zc4 BK541.out) | (go_at_call 148; (with_reducible refine (strings_Contains.calls ((rd_T96 l0 x30_3).f2) ((rdOf ByteArray.empty l1 x21_2).extract 0 13) false _ ?s1 A19.out).mono ?_); (case s1 => exact zG); rintro e w' ⟨rfl, ⟨nd, rfl⟩⟩; (try first | exact ⟨rfl, _, World.drewN_drewN _ _ _⟩ | exact ⟨rfl, _, Eq.trans (World.drewN_drewN _ _ _) (congrArg (World.drewN _) (Nat.add_assoc _ _ _))⟩))); try go_wp2_with (first | (refine zN 9 ?_; (try (refine z4 ?_; dsimp only)); refine zX 9 96 #[.string (⟨#[]⟩ : ByteArray), .int .i64 0, .string (⟨#[]⟩ : ByteArray), .bool false] ?_; intro gb541 hg w24 hbox hb; have BK541 := zz (hbox); have GW541 := zz ((zg : w.heap.size ≤ gb541)); have GE541 := zz ((zg : w.heap.size ≤ gb541)); replace HB := zz (zv zb hb); clear hb hbox hg; obtain ⟨hcz25_0, hcz25_1, hcz25_2, hcz25_3, hfz25_0, hfz25_1, hfz25_2, hfz25_3⟩ := zc4 BK541.out) | (go_at_call 148; (with_reducible refine (strings_Contains.calls ((rd_T96 l0 x30_3).f2) ((rdOf ByteArray.empty l1 x21_2).extract 0 13) false _ ?s1 A19.out).mono ?_); (case s1 => exact zG); rintro e w' ⟨rfl, ⟨nd, rfl⟩⟩; (try first | exact ⟨rfl, _, World.drewN_drewN _ _ _⟩ | exact ⟨rfl, _, Eq.trans (World.drewN_drewN _ _ _) (congrArg (World.drewN _) (Nat.add_assoc _ _ _))⟩))))
        go_roundg k3
        case measure => have := HJ2.out; have := HK2.out; have := HK3.out; omega
        case rel => exact ⟨(x5_3), (wrap64 (x30_3 + 1)), zr, H', ⟨by have := HJ2.out; have := HK2.out; have := HK3.out; omega⟩, ⟨zv HLt1.out zb⟩, ⟨HM.out.below zb⟩⟩
       subst c20
       rw [if_pos rfl] at H
       replace H := zf H
       obtain ⟨t543, A210, H⟩ := H
       try dsimp only at H
       have A21 := zz A210
       clear A210
       have H' := zz H
       clear H
       have p540 : 0 ≤ (x30_3 : Int) := z2
       have q540 : x30_3 < (l0.length : Int) := z2
       obtain ⟨ad540, e540, hx540_0, hx540_1, hx540_2, hx540_3⟩ := at_T96 HR0.out x30_3 p540 q540
       cases e540
       replace hx540_0 := z3 HB.out hx540_0
       replace hx540_1 := z3 HB.out hx540_1
       replace hx540_2 := z3 HB.out hx540_2
       replace hx540_3 := z3 HB.out hx540_3
       replace p540 := eq_true p540
       replace q540 := eq_true q540
       go_wp2_with (first | (refine zN 9 ?_; (try (refine z4 ?_; dsimp only)); refine zX 9 96 #[.string (⟨#[]⟩ : ByteArray), .int .i64 0, .string (⟨#[]⟩ : ByteArray), .bool false] ?_; intro gb541 hg w22 hbox hb; have BK541 := zz (hbox); have GW541 := zz ((zg : w.heap.size ≤ gb541)); have GE541 := zz ((zg : w.heap.size ≤ gb541)); replace HB := zz (zv zb hb); clear hb hbox hg; obtain ⟨hcz23_0, hcz23_1, hcz23_2, hcz23_3, hfz23_0, hfz23_1, hfz23_2, hfz23_3⟩ := zc4 BK541.out) | (go_at_call 148; (with_reducible refine (strings_Contains.calls ((rd_T96 l0 x30_3).f2) ((rdOf ByteArray.empty l1 x21_2).extract 0 13) true _ ?s1 A19.out).mono ?_); (case s1 => exact zG); rintro e w' ⟨rfl, ⟨nd, rfl⟩⟩; (try first | exact ⟨rfl, _, World.drewN_drewN _ _ _⟩ | exact ⟨rfl, _, Eq.trans (World.drewN_drewN _ _ _) (congrArg (World.drewN _) (Nat.add_assoc _ _ _))⟩)) | ((with_reducible refine MapSet.gate_put (t := 136) (m := 39) (k := 40) rfl ?_); refine MapSet.put_event rfl rfl rfl rfl (HM.out.below zb) A21.out ?_; intro wput hms hg; have n1_ := zz hms; have n2_ := zz (MapSet.grown (zv HLt0.out zb) hg HBM.out); have n3_ := zz (MapSet.grown (zv HW.out zb) hg HBM.out); clear HM HB HW HLt0 HLt1 hms hg; have HM := n1_; have HLt0 := n2_; have HW := n3_; clear n1_ n2_ n3_; rename World => w; have HB := zz (Below.refl w.heap.size w)))
       repeat (go_quiet (first | (refine zN 9 ?_; (try (refine z4 ?_; dsimp only)); refine zX 9 96 #[.string (⟨#[]⟩ : ByteArray), .int .i64 0, .string (⟨#[]⟩ : ByteArray), .bool false] ?_; intro gb541 hg w22 hbox hb; have BK541 := zz (hbox); have GW541 := zz ((zg : w.heap.size ≤ gb541)); have GE541 := zz ((zg : w.heap.size ≤ gb541)); replace HB := zz (zv zb hb); clear hb hbox hg; obtain ⟨hcz23_0, hcz23_1, hcz23_2, hcz23_3, hfz23_0, hfz23_1, hfz23_2, hfz23_3⟩ := zc4 BK541.out) | (go_at_call 148; (with_reducible refine (strings_Contains.calls ((rd_T96 l0 x30_3).f2) ((rdOf ByteArray.empty l1 x21_2).extract 0 13) true _ ?s1 A19.out).mono ?_); (case s1 => exact zG); rintro e w' ⟨rfl, ⟨nd, rfl⟩⟩; (try first | exact ⟨rfl, _, World.drewN_drewN _ _ _⟩ | exact ⟨rfl, _, Eq.trans (World.drewN_drewN _ _ _) (congrArg (World.drewN _) (Nat.add_assoc _ _ _))⟩)) | ((with_reducible refine MapSet.gate_put (t := 136) (m := 39) (k := 40) rfl ?_); refine MapSet.put_event rfl rfl rfl rfl (HM.out.below zb) A21.out ?_; intro wput hms hg; have n1_ := zz hms; have n2_ := zz (MapSet.grown (zv HLt0.out zb) hg HBM.out); have n3_ := zz (MapSet.grown (zv HW.out zb) hg HBM.out); clear HM HB HW HLt0 HLt1 hms hg; have HM := n1_; have HLt0 := n2_; have HW := n3_; clear n1_ n2_ n3_; rename World => w; have HB := zz (Below.refl w.heap.size w))); try go_wp2_with (first | (refine zN 9 ?_; (try (refine z4 ?_; dsimp only)); refine zX 9 96 #[.string (⟨#[]⟩ : ByteArray), .int .i64 0, .string (⟨#[]⟩ : ByteArray), .bool false] ?_; intro gb541 hg w22 hbox hb; have BK541 := zz (hbox); have GW541 := zz ((zg : w.heap.size ≤ gb541)); have GE541 := zz ((zg : w.heap.size ≤ gb541)); replace HB := zz (zv zb hb); clear hb hbox hg; obtain ⟨hcz23_0, hcz23_1, hcz23_2, hcz23_3, hfz23_0, hfz23_1, hfz23_2, hfz23_3⟩ := zc4 BK541.out) | (go_at_call 148; (with_reducible refine (strings_Contains.calls ((rd_T96 l0 x30_3).f2) ((rdOf ByteArray.empty l1 x21_2).extract 0 13) true _ ?s1 A19.out).mono ?_); (case s1 => exact zG); rintro e w' ⟨rfl, ⟨nd, rfl⟩⟩; (try first | exact ⟨rfl, _, World.drewN_drewN _ _ _⟩ | exact ⟨rfl, _, Eq.trans (World.drewN_drewN _ _ _) (congrArg (World.drewN _) (Nat.add_assoc _ _ _))⟩)) | ((with_reducible refine MapSet.gate_put (t := 136) (m := 39) (k := 40) rfl ?_); refine MapSet.put_event rfl rfl rfl rfl (HM.out.below zb) A21.out ?_; intro wput hms hg; have n1_ := zz hms; have n2_ := zz (MapSet.grown (zv HLt0.out zb) hg HBM.out); have n3_ := zz (MapSet.grown (zv HW.out zb) hg HBM.out); clear HM HB HW HLt0 HLt1 hms hg; have HM := n1_; have HLt0 := n2_; have HW := n3_; clear n1_ n2_ n3_; rename World => w; have HB := zz (Below.refl w.heap.size w))))
       go_roundg k3
       case measure => have := HJ2.out; have := HK2.out; have := HK3.out; omega
       case rel => exact ⟨(t543), (wrap64 (x21_2 + 1)), zr, H', ⟨by have := HJ2.out; have := HK2.out; have := HK3.out; omega⟩, ⟨zv HLt0.out zb⟩, ⟨HM.out.below zb⟩⟩
end Go.Proofs.YtcekmnclmldmmaaGreatDoor.Q
