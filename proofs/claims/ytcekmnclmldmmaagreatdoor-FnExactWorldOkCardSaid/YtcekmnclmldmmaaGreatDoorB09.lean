import Derived.Maps.OwnOps
import Derived.Maps.Views
import Derived.Test.YtcekmnclmldmmaaGreatDoorB06
set_option linter.unusedVariables false
set_option linter.unusedSimpArgs false
namespace Go.Proofs.YtcekmnclmldmmaaGreatDoor.Q
open Go.RowKit W1 W2 W3
attribute [local go_sem] max2_int min2_int max_two min_two max_three min_three max_four min_four
attribute [local go_sem high] bl_leq bl_gtr bl_geq
set_option maxHeartbeats 8000000
set_option maxRecDepth 100000
namespace MapSet
open Go.WideMaps Go.Maps
def of : List ByteArray → DataW Unit
 | [] => .map []
 | s :: ds => (of ds).put (.string s.data.toList) (.lit (.int .i64 1))
theorem isMap : ∀ ds, IsMap (of ds)
 | [] => isMap_empty
 | _ :: ds => (isMap ds).put _ _
theorem keyed : Keyed Tryz.prog 9 := string_keyed Tryz.underlying9
theorem zero (w : World) : (zeroValue 3).run Tryz.prog w = .ok (.int .i64 0) w := by kernel_rfl
theorem key (s : ByteArray) (h : s.size ≤ maxLen) : keyOf Tryz.prog 9 (.string s) = some (.string s.data.toList) := keyOf_string_mk Tryz.underlying9 h
theorem inj {a b : ByteArray} (h : a.data.toList = b.data.toList) : a = b := by
 cases a with | mk x => cases b with | mk y => cases x; cases y; simp_all
def has (u : ByteArray) (ds : List ByteArray) : Bool := ds.any fun s => decide (u.data.toList = s.data.toList)
theorem at_ (u : ByteArray) : ∀ ds, (of ds).atKey (.string u.data.toList) (.lit (.int .i64 0)) = .lit (.int .i64 (if has u ds then 1 else 0))
 | [] => rfl
 | s :: ds => by
  by_cases h : u.data.toList = s.data.toList
  ·have e : has u (s :: ds) = true := by simp [has, h]
   rw [of]
   rw [h, atKey_put_same (k := .string s.data.toList) (isMap ds) trivial, e]
   rfl
  ·have hne : (Lit.string u.data.toList) ≠ .string s.data.toList := fun e => h (by injection e)
   have e : has u (s :: ds) = has u ds := by rw [has, List.any_cons, decide_eq_false h]; rfl
   rw [of, atKey_put_other hne, at_ u ds, e]
theorem is0 {u : ByteArray} {ds : List ByteArray} {c : Int} (h : (of ds).atKey (.string u.data.toList) (.lit (.int .i64 0)) = .lit (.int .i64 c)) : c = if has u ds then 1 else 0 := by
 rw [at_] at h
 injection h with h
 injection h with _ h
 exact h.symm
def MS (w : World) (b : Nat) (ds : List ByteArray) : Prop := w.ownsMap Tryz.prog 9 (plainElem (H := Unit) Tryz.prog 3) b ds.length (of ds)
theorem MS.below {w W : World} {b : Nat} {ds : List ByteArray} (h : MS w b ds) (hb : Below w.heap.size w W) : MS W b ds :=
 World.ownsMap.kept (row := none) h ⟨hb.os, hb.tape, hb.output, hb.size, fun k hk _ => hb.block k hk⟩ (by simp)
theorem grown {a W W' : World} {b : Nat} (h : Below a.heap.size a W) (hg : W.grownBy W' (some b)) (hb : a.heap.size ≤ b) : Below a.heap.size a W' :=
 h.grown hg h.size (fun k hk => by cases hk; exact hb)
def put (ds : List ByteArray) (s : ByteArray) : Option (List ByteArray) := if s.size ≤ 140737488355328 ∧ ds.length < 4194304 then some (s :: ds) else none
def get (ds : List ByteArray) (s : ByteArray) : Option Int := if s.size ≤ 140737488355328 then some (if has s ds then 1 else 0) else none
section
variable {ops : Array Oper} {rest : List Oper} {o : Oper} {a : Act} {Q : Exit → Act → World → Prop} {W : World} {b : Nat} {ds : List ByteArray}
theorem make_event (hgd : o.guard = none) {N : Tmp} (hd : o.dst = some N) {t : TypeId} (ho : o.op = .makeMap t none)
 (h : ∀ g w1, W.heap.size ≤ g → MS w1 g [] → Below W.heap.size W w1 → wpList Tryz.prog ops Q rest (a.put o.dst (.map (some g))) w1) : wpList Tryz.prog ops Q (o :: rest) a W := by
 refine Kd.event_run hgd (w1 := W.alloc (.map #[] 0)) (v := .map (some W.heap.size)) ?_ (h _ _ (Nat.le_refl _) (World.ownsMap_made _ _ _ _) (below_alloc (Below.refl _ _) _))
 unfold execOp
 simp [ho, Instr.makeMap]
theorem gate_put {t : TypeId} {m k : Tmp} {v : Operand} (_ho : o.op = .mapUpdate t (.tmp m) (.tmp k) v) (h : wpList Tryz.prog ops Q (o :: rest) a W) : wpList Tryz.prog ops Q (o :: rest) a W := h
theorem gate_get {t : TypeId} {m k : Tmp} (_ho : o.op = .lookup t (.tmp m) (.tmp k) false) (h : wpList Tryz.prog ops Q (o :: rest) a W) : wpList Tryz.prog ops Q (o :: rest) a W := h
theorem put_event (hgd : o.guard = none) {m k : Tmp} (ho : o.op = .mapUpdate 136 (.tmp m) (.tmp k) (.const (.int .i64 1))) {s : ByteArray} (hm : a.eval (.tmp m) = .map (some b)) (hk : a.eval (.tmp k) = .string s)
 (hM : MS W b ds) {ds' : List ByteArray} (hp : put ds s = some ds')
 (h : ∀ w1, MS w1 b ds' → W.grownBy w1 (some b) → wpList Tryz.prog ops Q rest (a.put o.dst undef) w1) : wpList Tryz.prog ops Q (o :: rest) a W := by
 unfold put at hp
 split at hp
 ·rename_i hc
  obtain rfl := Option.some.inj hp
  exact wpList_mapUpdate_own W hgd (.tmp m) (.tmp k) (.const (.int .i64 1)) 136 ho 9 3 keyed Tryz.underlying136 _ b ds.length (of ds) hm hM (by simp only [maxLen]; omega) _ _ _ hk rfl (key s (Nat.le_trans hc.1 (by decide))) (.lit (.int .i64 1)) [] (plainElem_int Tryz.underlying3 (by decide)) (fun w1 h1 h2 => h w1 h1 h2)
 ·exact absurd hp (by simp)
theorem get_event (hgd : o.guard = none) {m k : Tmp} (ho : o.op = .lookup 136 (.tmp m) (.tmp k) false) {s : ByteArray} (hm : a.eval (.tmp m) = .map (some b)) (hk : a.eval (.tmp k) = .string s)
 (hM : MS W b ds) {c : Int} (hp : get ds s = some c) (h : wpList Tryz.prog ops Q rest (a.put o.dst (.int .i64 c)) W) : wpList Tryz.prog ops Q (o :: rest) a W := by
 unfold get at hp
 split at hp
 ·rename_i hc
  obtain ⟨c', hrun, hat, _⟩ := World.ownsMap.lookup_int hM keyed Tryz.underlying136 Tryz.underlying3 (zero W) (key s (Nat.le_trans hc (by decide)))
  have e := is0 hat
  obtain rfl := Option.some.inj hp
  rw [e] at hrun
  refine Kd.event_run hgd ?_ h
  unfold execOp
  simp only [ho, hm, hk, Sem.run_bind, hrun, Result.andThen_ok]
  rfl
 ·exact absurd hp (by simp)
end
end MapSet
theorem own_strs_made (w : World) (e : Nat) (xs : List ByteArray) (hl : xs.length ≤ maxLen) :
 Kd.R Kd.string e (w.alloc (.cells (xs.map Value.string).toArray e)) w.heap.size (fun _ => True) (.slice (some ⟨w.heap.size, 0, none⟩) xs.length xs.length) xs := by
 refine ⟨fun _ _ => trivial, xs.map Value.string, ⟨by simp [Kd.string, Kd.scalar], .inr ⟨w.heap.size, xs.length, (xs.map Value.string).toArray, rfl, Nat.le_refl _, heap_alloc_new w _, Nat.le_refl _, hl, by simp [Kd.string, Kd.scalar], ?_⟩⟩, ?_⟩
 ·simp [Kd.string, Kd.scalar]
  rw [List.take_of_length_le (by simp)]
 ·refine ⟨by simp [Kd.string, Kd.scalar], fun j p hj => ?_⟩
  have hlt : j < xs.length := (List.getElem?_eq_some_iff.1 hj).1
  have hp : xs[j] = p := (List.getElem?_eq_some_iff.1 hj).2
  show ((xs.map Value.string).drop (j * 1)).take 1 = [Value.string p]
  rw [Nat.mul_one, List.drop_eq_getElem_cons (by simpa using hlt)]
  simp [hp]
def strings_Split.f (a0 a1 : ByteArray) : Option (List ByteArray) :=
 if 1 ≤ a1.size ∧ a0.size < 4294967281 then some (Lib.splitB a1 0 (Lib.countB a0 a1) a0) else none
theorem strings_Split.calls (a0 a1 : ByteArray) (r : List ByteArray) (w : World) (hG_ : GOK w) (h : strings_Split.f a0 a1 = some r) :
 Calls Tryz.prog 132 #[.string a0, .string a1] w fun e w' => ∃ v0_ : Value, e = .returned v0_ ∧ Kd.R Kd.string 9 w' w.heap.size (fun _ => True) v0_ r ∧ Below w.heap.size w w' := by
 unfold strings_Split.f at h
 split at h
 ·rename_i hc
  obtain rfl := Option.some.inj h
  obtain ⟨m, hm⟩ := hG_.out
  refine (Tryz.strings_Split a0 a1 m w hc.2 hm hc.1).mono fun e w' ⟨he, hw⟩ => ⟨_, he, ?_, ?_⟩
  ·subst hw
   have hlen := Lib.splitB_all a1 hc.1 0 (Lib.countB a0 a1) a0 rfl
   have hle := Lib.countB_le a1 hc.1 a0.size a0 (Nat.le_refl _)
   rw [← hlen]
   exact own_strs_made w 9 _ (by simp only [maxLen]; omega)
  ·subst hw
   exact (Below.refl _ _).alloc (Nat.le_refl _) _
 ·exact absurd h (by simp)
def impl_pathOk.l0 : Nat → List ByteArray → Int → Int → Option (Bool)
 | 0, _, _, _ => none
 | k + 1, x11, x12, x13 => if x13 < x12 then (if 0 ≤ x13 then (if x13 < (x11.length : Int) then ((impl_NameOk.f k (rdOf ByteArray.empty x11 x13)).bind fun t460 => (if t460 = true then (impl_pathOk.l0 k x11 x12 (wrap64 (x13 + 1))) else (some false))) else (none)) else (none)) else (some true)
def impl_pathOk.f (k : Nat) (a0 : ByteArray) : Option (Bool) := (strings_Split.f a0 (⟨#[47]⟩ : ByteArray)).bind fun t456 => (if (t456.length : Int) > 8 then (some false) else (impl_pathOk.l0 k t456 (t456.length : Int) 0))
theorem impl_pathOk.mono_l : ∀ k, (∀ y0 y1 y2, LeO (impl_pathOk.l0 k y0 y1 y2) (impl_pathOk.l0 (k + 1) y0 y1 y2))
 | 0 => fun _ _ _ r h => by simp [impl_pathOk.l0] at h
 | k + 1 => by
  have ih0 := impl_pathOk.mono_l k
  ·intro y0 y1 y2
   unfold impl_pathOk.l0
   have m0 := @impl_NameOk.mono
   exact zM
theorem impl_pathOk.mono : ∀ a0 k, LeO (impl_pathOk.f k a0) (impl_pathOk.f (k + 1) a0) := by
 intro a0 k
 have ih0 := impl_pathOk.mono_l k
 unfold impl_pathOk.f
 have m0 := @impl_NameOk.mono
 exact zM
theorem impl_pathOk.calls (k : Nat) (a0 : ByteArray) (r : Bool) (w : World) (hG_ : GOK w) (h : impl_pathOk.f k a0 = some r) :
 Calls Tryz.prog 105 #[.string a0] w fun e w' => e = .returned (.bool r) ∧ Below w.heap.size w w' := by
 have HG := zz hG_
 clear hG_
 have HB := zz (Below.refl w.heap.size w)
 unfold impl_pathOk.f at h
 have H := h
 clear h
 replace HB := HB.out
 have HW := zz (Below.refl w.heap.size w)
 go_enter Tryz.func105, Tryz.ntmps105
 replace H := zf H
 obtain ⟨t456, A2, H⟩ := H
 try dsimp only at H
 replace A2 := zz A2
 by_cases c3 : (t456.length : Int) > 8
 ·rw [if_pos c3] at H
  have c3b0 := zgt c3
  have c3b1 : decide (8 < t456.length) = true := z1 (by omega)
  clear c3
  go_wp2_with (fail)
  refine (strings_Split.calls _ _ _ _  (GOK.below HG.out (zv HW.out HB)) A2.out).mono ?_
  rintro e w4 ⟨vHO458, rfl, hHO458, hb⟩
  replace HB := zv HB hb
  clear hb
  have hst := HB
  replace HW := zz (zv HW.out hst)
  clear hst
  replace HB := Below.refl w4.heap.size w4
  obtain ⟨AHRo5, cHRo5, rfl, hl_, hC_⟩ := Kd.R_reads hHO458
  have HRo5 := zz hC_
  have HCo5 := zz hl_
  clear hl_ hC_ hHO458
  obtain rfl := zi H
  go_wp2_with (fail)
  go_ret
  exact ⟨ze, zv HW.out HB⟩
 rw [if_neg c3] at H
 have c3b0 := zgtn c3
 have c3b1 : decide (8 < t456.length) = false := z0 (by omega)
 clear c3
 go_wp2_with (fail)
 refine (strings_Split.calls _ _ _ _  (GOK.below HG.out (zv HW.out HB)) A2.out).mono ?_
 rintro e w6 ⟨vHO458, rfl, hHO458, hb⟩
 replace HB := zv HB hb
 clear hb
 have hst := HB
 replace HW := zz (zv HW.out hst)
 clear hst
 replace HB := Below.refl w6.heap.size w6
 obtain ⟨AHRo7, cHRo7, rfl, hl_, hC_⟩ := Kd.R_reads hHO458
 have HRo7 := zz hC_
 have HCo7 := zz hl_
 clear hl_ hC_ hHO458
 go_wp2_with (fail)
 go_loopg [13] k (fun kq v13 w' => ∃ (x13_kl8 : Int), v13 = .int .i64 x13_kl8 ∧ Aside0 (impl_pathOk.l0 kq t456 (t456.length : Int) x13_kl8 = some r) ∧ Aside0 (kq ≤ k) ∧ Aside0 (Below w6.heap.size w6 w'))
 case atStart => exact ⟨(0), zr, ⟨H⟩, ⟨Nat.le_refl _⟩, ⟨HB⟩⟩
 case round =>
  clear H HB
  obtain ⟨x13_kl8, rfl, H, HKkl8, HB⟩ := hrel
  replace HB := HB.out
  replace H := H.out
  have HLkl8 := zz (Below.refl w6.heap.size w6)
  cases gk with
  | zero => exact absurd H (by simp [impl_pathOk.l0])
  | succ kl8 =>
   simp only [impl_pathOk.l0] at H
   by_cases c9 : x13_kl8 < (t456.length : Int)
   case neg =>
    rw [if_neg c9] at H
    have c9b0 := z0 c9
    clear c9
    obtain rfl := zi H
    go_wp2_with (fail)
    go_ret
    exact ⟨ze, zv HW.out HB⟩
   rw [if_pos c9] at H
   have c9b0 := z1 c9
   clear c9
   by_cases c10 : 0 ≤ x13_kl8
   case neg => exact zno H c10
   rw [if_pos c10] at H
   have c10b0 := z1 c10
   clear c10
   by_cases c11 : x13_kl8 < (t456.length : Int)
   case neg => exact zno H c11
   rw [if_pos c11] at H
   have c11b0 := z1 c11
   clear c11
   have p459 : 0 ≤ (x13_kl8 : Int) := z2
   have q459 : (x13_kl8 : Int) < (t456.length : Int) := z2
   obtain ⟨ad459, e459, hx459_0⟩ := Kd.at_string HRo7.out x13_kl8 p459 q459
   cases e459
   replace hx459_0 := cellB hx459_0
   replace p459 := eq_true p459
   replace q459 := eq_true q459
   replace H := zf H
   obtain ⟨t460, A12, H⟩ := H
   try dsimp only at H
   replace A12 := zz A12
   by_cases c13 : t460 = true
   ·subst c13
    rw [if_pos rfl] at H
    go_wp2_with (fail)
    refine (impl_NameOk.calls kl8 _ _ _  A12.out).mono ?_
    rintro e w14 ⟨rfl, hd⟩
    replace HB := zv HB hd.below
    clear hd
    go_wp2_with (fail)
    go_roundg kl8
    case measure => have := HKkl8.out; omega
    case rel => exact ⟨(wrap64 (x13_kl8 + 1)), zr, ⟨H⟩, ⟨by have := HKkl8.out; omega⟩, ⟨zv HLkl8.out HB⟩⟩
   replace c13 := Bool.eq_false_iff.mpr c13
   subst c13
   rw [if_neg (by decide)] at H
   go_wp2_with (fail)
   refine (impl_NameOk.calls kl8 _ _ _  A12.out).mono ?_
   rintro e w15 ⟨rfl, hd⟩
   replace HB := zv HB hd.below
   clear hd
   obtain rfl := zi H
   go_wp2_with (fail)
   go_ret
   exact ⟨ze, zv HW.out HB⟩
def bytealg_LastIndexByteString.l0 : Nat → ByteArray → Int → Int → Option (Int)
 | 0, _, _, _ => none
 | k + 1, x0, x1, x5 => if x5 ≥ 0 then (if 0 ≤ x5 then (if x5 < (x0.size : Int) then (if (bt x0 x5) = x1 then (some x5) else (bytealg_LastIndexByteString.l0 k x0 x1 (wrap64 (x5 - 1)))) else (none)) else (none)) else (some (-1))
def bytealg_LastIndexByteString.f (k : Nat) (a0 : ByteArray) (a1 : Int) : Option (Int) := bytealg_LastIndexByteString.l0 k a0 a1 (wrap64 ((a0.size : Int) - 1))
theorem bytealg_LastIndexByteString.mono_l : ∀ k, (∀ y0 y1 y2, LeO (bytealg_LastIndexByteString.l0 k y0 y1 y2) (bytealg_LastIndexByteString.l0 (k + 1) y0 y1 y2))
 | 0 => fun _ _ _ r h => by simp [bytealg_LastIndexByteString.l0] at h
 | k + 1 => by
  have ih0 := bytealg_LastIndexByteString.mono_l k
  ·intro y0 y1 y2
   unfold bytealg_LastIndexByteString.l0
   exact zM
theorem bytealg_LastIndexByteString.mono : ∀ a0 a1 k, LeO (bytealg_LastIndexByteString.f k a0 a1) (bytealg_LastIndexByteString.f (k + 1) a0 a1) := by
 intro a0 a1 k
 have ih0 := bytealg_LastIndexByteString.mono_l k
 unfold bytealg_LastIndexByteString.f
 exact zM
theorem bytealg_LastIndexByteString.calls (k : Nat) (a0 : ByteArray) (a1 : Int) (r : Int) (w : World) (h : bytealg_LastIndexByteString.f k a0 a1 = some r) :
 Calls Tryz.prog 157 #[.string a0, .int .u8 a1] w fun e w' => e = .returned (.int .i64 r) ∧ Drawn0 w w' := by
 unfold bytealg_LastIndexByteString.f at h
 have H := h
 clear h
 have H' := zz H
 clear H
 go_enter Tryz.func157, Tryz.ntmps157
 go_wp2
 go_loopg [5] k (fun kq v5 w' => ∃ (x5_1 : Int), v5 = .int .i64 x5_1 ∧ Aside0 (bytealg_LastIndexByteString.l0 kq a0 a1 x5_1 = some r) ∧ Aside0 (kq ≤ k) ∧ Drawn0 w w')
 case atStart => exact ⟨(wrap64 ((a0.size : Int) - 1)), zr, H', ⟨Nat.le_refl _⟩, by repeat (first | exact Drawn0.refl _ | apply Drawn0.step)⟩
 case round =>
  clear H'
  try clear c1
  try clear p2
  obtain ⟨x5_1, rfl, HA, HK1, ⟨m1, rfl⟩⟩ := hrel
  cases gk with
  | zero => exact absurd HA.out (by simp [bytealg_LastIndexByteString.l0])
  | succ k1 =>
   have H := HA.out
   clear HA
   simp only [bytealg_LastIndexByteString.l0] at H
   by_cases c3 : x5_1 ≥ 0
   case neg =>
    rw [if_neg c3] at H
    have c3b0 := zgen c3
    clear c3
    obtain rfl := zi H
    go_wp2
    go_ret
    exact ⟨zr, by repeat (first | exact Drawn0.refl _ | apply Drawn0.step)⟩
   rw [if_pos c3] at H
   have c3b0 := zge c3
   clear c3
   by_cases c4 : 0 ≤ x5_1
   case neg => exact zno H c4
   rw [if_pos c4] at H
   have c4b0 := z1 c4
   clear c4
   by_cases c5 : x5_1 < (a0.size : Int)
   case neg => exact zno H c5
   rw [if_pos c5] at H
   have c5b0 := z1 c5
   clear c5
   by_cases c7 : (bt a0 x5_1) = a1
   ·rw [if_pos c7] at H
    obtain ⟨c7b0, c7b1⟩ := zq c7
    clear c7
    obtain rfl := zi H
    have p6 : 0 ≤ (x5_1 : Int) := z2
    have q6 : x5_1 < (a0.size : Int) := z2
    have hx6 := bt_at a0 x5_1
    replace p6 := eq_true p6
    replace q6 := eq_true q6
    go_wp2
    go_ret
    exact ⟨zr, by repeat (first | exact Drawn0.refl _ | apply Drawn0.step)⟩
   rw [if_neg c7] at H
   obtain ⟨c7b0, c7b1⟩ := zw c7
   have H' := zz H
   clear H
   have p6 : 0 ≤ (x5_1 : Int) := z2
   have q6 : x5_1 < (a0.size : Int) := z2
   have hx6 := bt_at a0 x5_1
   replace p6 := eq_true p6
   replace q6 := eq_true q6
   go_wp2
   go_roundg k1
   case measure => have := HK1.out; omega
   case rel => exact ⟨(wrap64 (x5_1 - 1)), zr, H', ⟨by have := HK1.out; omega⟩, by repeat (first | exact Drawn0.refl _ | apply Drawn0.step)⟩
def strings_LastIndexByte.f (k : Nat) (a0 : ByteArray) (a1 : Int) : Option (Int) := (bytealg_LastIndexByteString.f k a0 a1).bind fun t461 => (some t461)
theorem strings_LastIndexByte.mono : ∀ a0 a1 k, LeO (strings_LastIndexByte.f k a0 a1) (strings_LastIndexByte.f (k + 1) a0 a1) := by
 intro a0 a1 k
 unfold strings_LastIndexByte.f
 have m0 := @bytealg_LastIndexByteString.mono
 exact zM
theorem strings_LastIndexByte.calls (k : Nat) (a0 : ByteArray) (a1 : Int) (r : Int) (w : World) (h : strings_LastIndexByte.f k a0 a1 = some r) :
 Calls Tryz.prog 133 #[.string a0, .int .u8 a1] w fun e w' => e = .returned (.int .i64 r) ∧ Drawn0 w w' := by
 unfold strings_LastIndexByte.f at h
 have H := h
 clear h
 replace H := zf H
 obtain ⟨t461, A30, H⟩ := H
 try dsimp only at H
 have A3 := zz A30
 clear A30
 obtain rfl := zi H
 go_enter Tryz.func133, Tryz.ntmps133
 go_wp2_with (first | (refine zL 157 7 Tryz.func157 #[.string a0, .int .u8 a1] ?_; (with_reducible refine (bytealg_LastIndexByteString.calls k a0 a1 t461 _ A3.out).mono ?_); rintro e w' ⟨rfl, ⟨nd, rfl⟩⟩; refine ⟨_, rfl, ?_⟩))
 go_ret
 exact ⟨zr, by repeat (first | exact Drawn0.refl _ | apply Drawn0.step)⟩
def impl_upper.f (k : Nat) (a0 : ByteArray) : Option (ByteArray × Bool) := (strings_LastIndexByte.f k a0 47).bind fun t462 => (if t462 < 0 then (some ((⟨#[]⟩ : ByteArray), false)) else (if 0 ≤ t462 then (if t462 ≤ (a0.size : Int) then (some (a0.extract 0 (t462 : Int).toNat, true)) else (none)) else (none)))
theorem impl_upper.mono : ∀ a0 k, LeO (impl_upper.f k a0) (impl_upper.f (k + 1) a0) := by
 intro a0 k
 unfold impl_upper.f
 have m0 := @strings_LastIndexByte.mono
 exact zM
theorem impl_upper.calls (k : Nat) (a0 : ByteArray) (r1 : ByteArray) (r2 : Bool) (w : World) (h : impl_upper.f k a0 = some (r1, r2)) :
 Calls Tryz.prog 106 #[.string a0] w fun e w' => e = .returned (.tuple #[.string r1, .bool r2]) ∧ Drawn0 w w' := by
 unfold impl_upper.f at h
 have H := h
 clear h
 replace H := zf H
 obtain ⟨t462, A20, H⟩ := H
 try dsimp only at H
 have A2 := zz A20
 clear A20
 by_cases c3 : t462 < 0
 ·rw [if_pos c3] at H
  have c3b0 := z1 c3
  clear c3
  simp only [Option.some.injEq, Prod.mk.injEq] at H
  obtain ⟨rfl, rfl⟩ := H
  go_enter Tryz.func106, Tryz.ntmps106
  go_wp2_with (first | (refine zL 133 6 Tryz.func133 #[.string a0, .int .u8 47] ?_; (with_reducible refine (strings_LastIndexByte.calls k a0 47 t462 _ A2.out).mono ?_); rintro e w' ⟨rfl, ⟨nd, rfl⟩⟩; refine ⟨_, rfl, ?_⟩))
  go_ret2
  exact ⟨zr, by repeat (first | exact Drawn0.refl _ | apply Drawn0.step)⟩
 rw [if_neg c3] at H
 have c3b0 := z0 c3
 clear c3
 by_cases c4 : 0 ≤ t462
 case neg => exact zno H c4
 rw [if_pos c4] at H
 have c4b0 := eq_true c4
 have c4b1 := z1 c4
 clear c4
 by_cases c5 : t462 ≤ (a0.size : Int)
 case neg => exact zno H c5
 rw [if_pos c5] at H
 have c5b0 := eq_true c5
 have c5b1 := z1 c5
 clear c5
 simp only [Option.some.injEq, Prod.mk.injEq] at H
 obtain ⟨rfl, rfl⟩ := H
 go_enter Tryz.func106, Tryz.ntmps106
 go_wp2_with (first | (refine zL 133 6 Tryz.func133 #[.string a0, .int .u8 47] ?_; (with_reducible refine (strings_LastIndexByte.calls k a0 47 t462 _ A2.out).mono ?_); rintro e w' ⟨rfl, ⟨nd, rfl⟩⟩; refine ⟨_, rfl, ?_⟩))
 go_ret2
 exact ⟨zr, by repeat (first | exact Drawn0.refl _ | apply Drawn0.step)⟩
end Go.Proofs.YtcekmnclmldmmaaGreatDoor.Q
