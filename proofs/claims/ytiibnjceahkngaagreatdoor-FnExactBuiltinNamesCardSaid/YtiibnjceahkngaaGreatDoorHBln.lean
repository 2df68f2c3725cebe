import Derived.Test.YtiibnjceahkngaaGreatDoorHBlt
import Derived.Test.YtiibnjceahkngaaGreatDoorQ0
import Derived.Test.YtiibnjceahkngaaGreatDoorHShelf
import Derived.Sort.OwnSorted
namespace Go.Proofs.YtiibnjceahkngaaGreatDoor.Q
open Go.RowKit Go.Proofs.YtiibnjceahkngaaGreatDoorW.PrintWords Go.Proofs.YtiibnjceahkngaaGreatDoorW.PrintLast Go.Proofs.YtiibnjceahkngaaGreatDoorW.PrintMore
attribute [local go_sem] max2_int min2_int max_two min_two max_three min_three max_four min_four
attribute [local go_sem high] bl_leq bl_gtr bl_geq
set_option linter.unusedVariables false
set_option linter.unusedSimpArgs false

-- HAND loop.example/g00023/impl.BuiltinNames rounds=0 making=1
def impl_BuiltinNames.seed : List ByteArray := [(⟨#[116, 114, 117, 101]⟩ : ByteArray), (⟨#[102, 97, 108, 115, 101]⟩ : ByteArray), (⟨#[110, 117, 108, 108]⟩ : ByteArray)]
def impl_BuiltinNames.out : List ByteArray := [(⟨#[97, 116]⟩ : ByteArray), (⟨#[100, 101, 101, 112]⟩ : ByteArray), (⟨#[100, 101, 114, 105, 118, 101]⟩ : ByteArray), (⟨#[102, 97, 108, 115, 101]⟩ : ByteArray), (⟨#[102, 105, 108, 116, 101, 114]⟩ : ByteArray), (⟨#[102, 111, 108, 100]⟩ : ByteArray), (⟨#[104, 101, 97, 100]⟩ : ByteArray), (⟨#[105, 109, 112, 111, 114, 116]⟩ : ByteArray), (⟨#[106, 111, 105, 110]⟩ : ByteArray), (⟨#[107, 105, 110, 100]⟩ : ByteArray), (⟨#[108, 101, 110, 103, 116, 104]⟩ : ByteArray), (⟨#[109, 97, 112]⟩ : ByteArray), (⟨#[109, 97, 112, 83, 101, 116]⟩ : ByteArray), (⟨#[110, 97, 109, 101, 115]⟩ : ByteArray), (⟨#[110, 117, 108, 108]⟩ : ByteArray), (⟨#[110, 117, 109, 98, 101, 114]⟩ : ByteArray), (⟨#[112, 97, 114, 116]⟩ : ByteArray), (⟨#[115, 101, 113]⟩ : ByteArray), (⟨#[115, 105, 122, 101]⟩ : ByteArray), (⟨#[115, 111, 114, 116]⟩ : ByteArray), (⟨#[116, 97, 105, 108]⟩ : ByteArray), (⟨#[116, 101, 120, 116]⟩ : ByteArray), (⟨#[116, 104, 114, 111, 119]⟩ : ByteArray), (⟨#[116, 111, 83, 101, 116]⟩ : ByteArray), (⟨#[116, 114, 117, 101]⟩ : ByteArray), (⟨#[119, 105, 116, 104, 111, 117, 116]⟩ : ByteArray)]
def impl_BuiltinNames.f : Option (List ByteArray) := some impl_BuiltinNames.out
def impl_BuiltinNames.rowL : List (List UInt8) := [[116, 114, 117, 101], [102, 97, 108, 115, 101], [110, 117, 108, 108], [108, 101, 110, 103, 116, 104], [104, 101, 97, 100], [116, 97, 105, 108], [97, 116], [109, 97, 112], [102, 105, 108, 116, 101, 114], [102, 111, 108, 100], [110, 97, 109, 101, 115], [109, 97, 112, 83, 101, 116], [116, 111, 83, 101, 116], [119, 105, 116, 104, 111, 117, 116], [106, 111, 105, 110], [115, 105, 122, 101], [112, 97, 114, 116], [116, 101, 120, 116], [110, 117, 109, 98, 101, 114], [107, 105, 110, 100], [116, 104, 114, 111, 119], [105, 109, 112, 111, 114, 116], [115, 101, 113], [100, 101, 101, 112], [100, 101, 114, 105, 118, 101], [115, 111, 114, 116]]
def impl_BuiltinNames.outL : List (List UInt8) := [[97, 116], [100, 101, 101, 112], [100, 101, 114, 105, 118, 101], [102, 97, 108, 115, 101], [102, 105, 108, 116, 101, 114], [102, 111, 108, 100], [104, 101, 97, 100], [105, 109, 112, 111, 114, 116], [106, 111, 105, 110], [107, 105, 110, 100], [108, 101, 110, 103, 116, 104], [109, 97, 112], [109, 97, 112, 83, 101, 116], [110, 97, 109, 101, 115], [110, 117, 108, 108], [110, 117, 109, 98, 101, 114], [112, 97, 114, 116], [115, 101, 113], [115, 105, 122, 101], [115, 111, 114, 116], [116, 97, 105, 108], [116, 101, 120, 116], [116, 104, 114, 111, 119], [116, 111, 83, 101, 116], [116, 114, 117, 101], [119, 105, 116, 104, 111, 117, 116]]
theorem impl_BuiltinNames.sorted : impl_BuiltinNames.rowL.mergeSort (fun x y => decide (x ≤ y)) = impl_BuiltinNames.outL := by
  refine List.Perm.eq_of_pairwise (le := fun a b => decide (a ≤ b) = true) (fun a b _ _ h1 h2 => List.le_antisymm (of_decide_eq_true h1) (of_decide_eq_true h2)) (List.pairwise_mergeSort (le := fun x y : List UInt8 => decide (x ≤ y)) (fun a b c h1 h2 => decide_eq_true (List.le_trans (of_decide_eq_true h1) (of_decide_eq_true h2))) (fun a b => by have := List.le_total a b; simpa using this) _) (by decide +kernel) ((List.mergeSort_perm _ _).trans (by decide +kernel))
/-- The names in the order in which they are collected: the first i of the table's behind the three. -/
def impl_BuiltinNames.row (i : Nat) : List ByteArray := impl_BuiltinNames.seed ++ (impl_builtins.L.take i).map (fun x => x.1)
theorem impl_BuiltinNames.row_step (i : Nat) (h : i < 23) : impl_BuiltinNames.row (i + 1) = impl_BuiltinNames.row i ++ [(impl_builtins.L.getD i (⟨#[]⟩, ⟨#[]⟩, 0)).1] := by
  have h1 : i < impl_builtins.L.length := h
  have h2 : impl_builtins.L.take (i + 1) = impl_builtins.L.take i ++ [impl_builtins.L[i]] := by rw [List.take_add_one, List.getElem?_eq_getElem h1]; rfl
  simp only [impl_BuiltinNames.row, h2, List.getD_eq_getElem?_getD, List.getElem?_eq_getElem h1, List.map_append, List.append_assoc]
  rfl
theorem impl_BuiltinNames.row_all : impl_BuiltinNames.row 23 = impl_BuiltinNames.seed ++ impl_builtins.L.map (fun x => x.1) := by rfl
theorem impl_BuiltinNames.row_len (i : Nat) (h : i ≤ 23) : (impl_BuiltinNames.row i).length ≤ 26 := by
  simp [impl_BuiltinNames.row, impl_BuiltinNames.seed]; omega
set_option maxRecDepth 100000 in
theorem impl_BuiltinNames.encs1 : encs Value.string (impl_BuiltinNames.row 23) = impl_BuiltinNames.rowL.map encStr := by kernel_rfl
set_option maxRecDepth 100000 in
theorem impl_BuiltinNames.encs2 : encs Value.string impl_BuiltinNames.out = impl_BuiltinNames.outL.map encStr := by kernel_rfl
theorem impl_BuiltinNames.sort (w0 w : World) (u : Value) (hR : Kd.R Kd.string 9 w w0.heap.size (fun _ => True) u (impl_BuiltinNames.row 23)) (hB : Below w0.heap.size w0 w) :
    Calls Tryz.prog 10 #[u] w fun e w' => e = .returned (.tuple #[]) ∧ Kd.R Kd.string 9 w' w0.heap.size (fun _ => True) u impl_BuiltinNames.out ∧ Below w0.heap.size w0 w' := by
  have own := Kd.own_of_R hR
  rw [impl_BuiltinNames.encs1] at own
  rcases own.2 with ⟨_, h0⟩ | ⟨g, cap, cur, rfl, hg, hb, h1, h2, h3, h4⟩
  · exact absurd h0 (by decide)
  · have hl : (impl_BuiltinNames.row 23).length = impl_BuiltinNames.rowL.length := by rfl
    rw [hl] at h1 h4 ⊢
    rw [Nat.mul_one] at h4
    refine (Tryz.slices_Sort_string g 0 cap impl_BuiltinNames.rowL w (holds_of_block hb h4) (Array.getElem?_eq_some_iff.1 hb).1 (by decide)).mono ?_
    rintro e w' ⟨rfl, n, os, rfl⟩
    rw [impl_BuiltinNames.sorted]
    refine ⟨rfl, Kd.R_of_own ?_ (fun _ _ => trivial), pw_below_grown hB (some g) hB.size (grownBy_sorted _) (by rintro k ⟨⟩; exact hg)⟩
    rw [impl_BuiltinNames.encs2]
    exact ownsRow_sorted (ss := impl_BuiltinNames.rowL) (ts := impl_BuiltinNames.outL) rfl hg hb h1 h2 h3
theorem run_store_fn {P : Program} {w : World} {a : Addr} {n : Nat} {m : Mode} : (store a (.func (.func n) #[] #[]) m).run P w = stored P w a (.func (.func n) #[] #[]) m := run_store P w a _ m rfl
attribute [local go_sem] run_store_fn
set_option maxHeartbeats 8000000 in
set_option maxRecDepth 100000 in
theorem impl_BuiltinNames.calls (r : List ByteArray) (w : World) (h : impl_BuiltinNames.f = some r) : Calls Tryz.prog 5 #[] w fun e w' => ∃ v0_ : Value, e = .returned v0_ ∧ Kd.R Kd.string 9 w' w.heap.size (fun _ => True) v0_ r ∧ Below w.heap.size w w' := by
  have HB := Aside0.mk (Below.refl w.heap.size w)
  obtain rfl := Option.some.inj h
  clear h
  go_enter Tryz.func5, Tryz.ntmps5
  go_wp2_with (first | ((with_reducible refine gate_dst (N := 4) rfl ?_); refine Kd.R_lit Kd.string _ 9 ?hg (N := 4) ?hd (xs := impl_BuiltinNames.seed) (inner := [.string (⟨#[116, 114, 117, 101]⟩ : ByteArray), .string (⟨#[102, 97, 108, 115, 101]⟩ : ByteArray), .string (⟨#[110, 117, 108, 108]⟩ : ByteArray)]) (ok := fun _ => True) (okp := fun _ => True) ?hr ?hp (fun _ hk => hk) trivial (Below.refl _ _) (Nat.le_refl _) (by simp [impl_BuiltinNames.seed]) ?_; (case hd => rfl); (case hg => rfl); (case hr => first | (go_simp; done) | (go_simp; rfl)); (case hp => exact (Reps.one (show Kd.M Kd.string _ _ _ (⟨#[116, 114, 117, 101]⟩ : ByteArray) [.string (⟨#[116, 114, 117, 101]⟩ : ByteArray)] from rfl) (Reps.one (show Kd.M Kd.string _ _ _ (⟨#[102, 97, 108, 115, 101]⟩ : ByteArray) [.string (⟨#[102, 97, 108, 115, 101]⟩ : ByteArray)] from rfl) (Reps.one (show Kd.M Kd.string _ _ _ (⟨#[110, 117, 108, 108]⟩ : ByteArray) [.string (⟨#[110, 117, 108, 108]⟩ : ByteArray)] from rfl) (Reps.none _ _))))); intro v1 w1 ho2 hb hg_ hnew_; clear hg_ hnew_; have n0_ := Aside0.mk (Kd.R_lower ho2 (below_size HB.out)); have n1_ := Aside0.mk (below_step HB.out hb); clear HB; have HO1 := n0_; have HB := n1_; clear n0_ n1_; clear hb ho2) | ((with_reducible refine gate_callee (f := 9) rfl ?_); refine goesL_ (some 5) rfl rfl Tryz.func9 (by kernel_rfl) rfl #[] rfl (by (try simp only [List.map_toArray, List.map_cons, List.map_nil]); first | done | rfl) ?_; (with_reducible refine (impl_builtins.calls _).mono ?_); rintro e w8 ⟨v2, rfl, ho0, hb⟩; refine ⟨_, rfl, ?_⟩; have n1_ := Aside0.mk (Kd.R_below HO1.out hb); have n2_ := Aside0.mk (below_step HB.out hb); have n3_ := Aside0.mk (Kd.R_lower ho0 (below_size HB.out)); clear HO1 HB hb ho0; have HO1 := n1_; have HB := n2_; have HO2 := n3_; clear n1_ n2_ n3_; obtain ⟨A2, c2, e2⟩ : ∃ A c, v2 = .slice A 23 c := Kd.R_slice HO2.out; subst e2))
  go_loopg [1, 7] 23 (fun kq v1 v7 w' => ∃ i : Nat, v7 = .int .i64 (i : Int) ∧ Aside0 (i + kq = 23) ∧ Aside0 (Kd.R Kd.string 9 w' w.heap.size (fun _ => True) v1 (impl_BuiltinNames.row i)) ∧ Aside0 (Kd.R kBlt 31 w' w.heap.size (fun _ => True) (.slice A2 23 c2) impl_builtins.L) ∧ Aside0 (Below w.heap.size w w'))
  case atStart => exact ⟨0, rfl, ⟨rfl⟩, HO1, HO2, HB⟩
  case round =>
    clear HO1 HO2 HB
    obtain ⟨i, rfl, HI, HO1, HO2, HB⟩ := hrel
    cases gk with
    | zero =>
      have hi : i = 23 := by have := HI.out; omega
      subst hi
      go_wp2_with (first | ((with_reducible refine gate_callee (f := 10) rfl ?_); refine goesL_ (some 18) rfl rfl Tryz.func10 (by kernel_rfl) rfl #[u1] rfl (by (try simp only [List.map_toArray, List.map_cons, List.map_nil]); first | done | rfl) ?_; (with_reducible refine (impl_BuiltinNames.sort w _ u1 HO1.out HB.out).mono ?_); rintro e w8 ⟨rfl, ho0, hb⟩; refine ⟨_, rfl, ?_⟩; have n1_ := Aside0.mk ho0; have n2_ := Aside0.mk hb; clear HO1 HO2 HB hb ho0; have HO1 := n1_; have HB := n2_; clear n1_ n2_))
      go_ret
      exact ⟨_, rfl, HO1.out, HB.out⟩
    | succ kq =>
      have hi : i < 23 := by have := HI.out; omega
      have p1 : (0 : Int) ≤ (i : Int) := Int.natCast_nonneg i
      have q1 : (i : Int) < ((23 : Nat) : Int) := by omega
      obtain ⟨ad, cc, e1, _, hK, hc0⟩ := Kd.C_get (Kd.R_reads' HO2.out).2.2 (⟨#[]⟩, ⟨#[]⟩, 0) (i : Int) p1 q1
      cases e1
      simp only [Int.toNat_natCast] at hK hc0
      have hrow := Aside0.mk (impl_BuiltinNames.row_step i hi)
      have hlenr := Aside0.mk (impl_BuiltinNames.row_len i (Nat.le_of_lt hi))
      generalize impl_builtins.L.getD i (⟨#[]⟩, ⟨#[]⟩, 0) = X at hK hc0 hrow
      obtain ⟨_, _, rfl, rfl, _, _, rfl, rfl, rfl⟩ := hK
      have hx0 : wr.cell? (ad.add (i * 3)) = some (.string X.1) := hc0 0 _ rfl
      have hx1 : wr.cell? ⟨(ad.add (i * 3)).block, (ad.add (i * 3)).off + 1, none⟩ = some (.string X.2.1) := by rw [← add_field _ _ 1 (by omega)]; exact hc0 1 _ rfl
      have hx2 : wr.cell? ⟨(ad.add (i * 3)).block, (ad.add (i * 3)).off + 2, none⟩ = some (.func (.func X.2.2) #[] #[]) := by rw [← add_field _ _ 2 (by omega)]; exact hc0 2 _ rfl
      clear hc0
      have p1' := eq_true p1
      have q1' := decide_eq_true q1
      go_wp2_with (first | ((with_reducible refine gate_builtin (b := .append) (xs := #[.tmp 11, .tmp 14]) rfl ?_); at_builtin; refine Kd.R_append Kd.string (w0 := w) w.heap.size rfl (.tmp 11) (.tmp 14) 22 9 (.string ⟨#[]⟩) 16 rfl Tryz.underlying22 info9 rfl (by decide) (by omega) u1 (impl_BuiltinNames.row i) X.1 [.string X.1] (fun _ => True) (fun _ => False) rfl ?hx ?aP (fun _ hk => hk.elim) ?aF ?aO ?aB ?aS ?aL ?_; (case hx => first | rfl | (go_simp; done) | (simp [Act.eval, World.alloc]; done)); (case aP => exact rfl); (case aB => exact (by repeat (first | (with_reducible first | exact HB.out | apply below_alloc | apply pw_below_drewN | apply below_drew1) | exact HB.out))); (case aF => exact (fun _ _ => trivial)); (case aO => exact (by (with_reducible repeat (first | apply Kd.R_alloc | apply Kd.R_drewN | apply Kd.R_drew)); exact HO1.out)); (case aS => exact (below_size (by repeat (first | (with_reducible first | exact HB.out | apply below_alloc | apply pw_below_drewN | apply below_drew1) | exact HB.out)))); (case aL => have := hlenr.out; omega); intro v120 w13 ho hb hg hat; rw [← hrow.out] at ho; have n0_ := Aside0.mk (hb); have n1_ := Aside0.mk (ho); have n2_ := Aside0.mk (Kd.R_over (Kd.R_alloc HO2.out _) (Kd.R_alloc HO1.out _) (by decide) hg); clear HB HO1 HO2; have HB := n0_; have HO1 := n1_; have HO2 := n2_; clear n0_ n1_ n2_; clear ho hb hg hat))
      go_roundg kq
      case measure => omega
      case rel => exact ⟨i + 1, (by first | rfl | (simp; done) | (simp [*]; done)), ⟨by have := HI.out; omega⟩, HO1, HO2, HB⟩

end Go.Proofs.YtiibnjceahkngaaGreatDoor.Q
