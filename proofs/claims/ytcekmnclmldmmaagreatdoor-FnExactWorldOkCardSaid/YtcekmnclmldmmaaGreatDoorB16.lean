import Derived.Test.YtcekmnclmldmmaaGreatDoorB15
set_option linter.unusedVariables false
set_option linter.unusedSimpArgs false
namespace Go.Proofs.YtcekmnclmldmmaaGreatDoor.Q
open Go.RowKit W1 W2 W3
attribute [local go_sem] max2_int min2_int max_two min_two max_three min_three max_four min_four
attribute [local go_sem high] bl_leq bl_gtr bl_geq
set_option maxHeartbeats 8000000
set_option maxRecDepth 100000
def Tight (w : World) (g : Nat) (xs : List Int) : Prop := ∃ cs e fr, w.heap[g]? = some (.cells cs e fr) ∧ cs.toList = xs.map (fun x => Value.int .u8 x)
def RT (e base : Nat) (w : World) (v : Value) (xs : List Int) : Prop := Kd.R (Kd.int .u8) e w base (fun _ => True) v xs ∨ ∃ g, v = .slice (some ⟨g, 0, none⟩) xs.length xs.length ∧ Tight w g xs
theorem Tight.cell {w : World} {g : Nat} {xs : List Int} (h : Tight w g xs) : ∀ j u, (xs.map (fun x => Value.int .u8 x))[j]? = some u → w.cell? ((⟨g, 0, none⟩ : Addr).add j) = some u := by
 obtain ⟨cs, e, fr, h1, h2⟩ := h
 intro j u hj
 have ha : (⟨g, 0, none⟩ : Addr).add j = ⟨g, j, none⟩ := by unfold Addr.add; split <;> simp_all
 rw [← h2, Array.getElem?_toList] at hj
 rw [ha]
 simp [World.cell?, h1, hj]
theorem Tight.old {w w' : World} {g : Nat} {xs : List Int} (h : Tight w g xs) (hw : w'.heap[g]? = w.heap[g]?) : Tight w' g xs := by
 obtain ⟨cs, e, fr, h1, h2⟩ := h
 exact ⟨cs, e, fr, hw.trans h1, h2⟩
theorem Tight.lt {w : World} {g : Nat} {xs : List Int} (h : Tight w g xs) : g < w.heap.size := by
 obtain ⟨cs, e, fr, h1, h2⟩ := h
 exact (Array.getElem?_eq_some_iff.1 h1).1
theorem RT.alloc {e base : Nat} {w : World} {v : Value} {xs : List Int} (h : RT e base w v xs) (o : Obj) : RT e base (w.alloc o) v xs := by
 rcases h with h | ⟨g, h1, h2⟩
 ·exact .inl (Kd.R_alloc h o)
 ·exact .inr ⟨g, h1, h2.old (Below.heap_alloc w o g h2.lt)⟩
section
variable {P : Program} {ops : Array Oper} {rest : List Oper} {o : Oper} {a : Act} {Q : Exit → Act → World → Prop}
theorem RT_append {w0 W : World} (base : Nat) (hgd : o.guard = none) (s x : Operand) (t e : TypeId)
 (ho : o.op = .call { callee := .builtin .append, args := #[s, x], argTypes := #[t, t] })
 (ht : P.underlying t = some (.slice e)) (hinfo : (P.info? e).map (fun i => (i.zero, i.size, i.bytes)) = some (some (.int .u8 0), 1, 1))
 (v : Value) (xs : List Int) (p : Int) (hs : a.eval s = v) (hx : a.eval x = .slice (some ⟨W.heap.size, 0, none⟩) 1 1)
 (HO : RT e base W v xs) (HB : Below base w0 W) (hbase : base ≤ W.heap.size) (hl : xs.length < 140737488355328)
 (h : ∀ v1 w1, Kd.R (Kd.int .u8) e w1 base (fun _ => True) v1 (xs ++ [p]) → Below base w0 w1 → wpList P ops Q rest (a.put o.dst v1) w1) :
 wpList P ops Q (o :: rest) a (W.alloc (.cells #[.int .u8 p] e)) := by
 rcases HO with HO | ⟨g, rfl, hT⟩
 ·exact Kd.R_append (Kd.int .u8) (w0 := w0) base hgd s x t e (.int .u8 0) 1 ho ht hinfo rfl (by decide) (by omega) v xs p [.int .u8 p] (fun _ => True) (fun _ => False) hs hx rfl (fun _ hk => hk.elim) (fun _ _ => trivial) HO HB hbase (by omega) (fun v1 w1 h1 h2 _ _ => h v1 w1 h1 h2)
 ·obtain ⟨i0, hi, hzz⟩ := Option.map_eq_some_iff.1 hinfo
  simp only [Prod.mk.injEq] at hzz
  obtain ⟨hz0, hz1, hz2⟩ := hzz
  refine wpList_plain hgd fun K hK => ?_
  have hT' : Tight (W.alloc (.cells #[.int .u8 p] e)) g xs := hT.old (Below.heap_alloc W _ g hT.lt)
  have hr := run_append_grow (P := P) (W.alloc (.cells #[.int .u8 p] e)) t o.type e i0 (.int .u8 0) ht hi hz0 ⟨g, 0, none⟩ xs.length xs.length (xs.map (fun x => Value.int .u8 x)) (by rw [hz1]; simp) hT'.cell ⟨W.heap.size, 0, none⟩ 1 1 [.int .u8 p] (by rw [hz1]; rfl)
   (by simpa using World.news_of_block (cs := #[Value.int .u8 p]) (t := e) (fr := (0, 0)) (heap_alloc_new W (.cells #[.int .u8 p] e))) (by omega) (by omega) (by rw [hz2]; exact growslice_fits (by omega) (by omega))
  unfold Oper.wp execOp
  simp only [ho, resolve, invoke, builtin, Sem.run_bind, Sem.run_pure, Result.andThen_ok, List.map_toArray, List.map_cons, List.map_nil, hs, hx, hr]
  refine hK _ _ (h _ _ ?_ ?_)
  ·generalize hW2 : (W.alloc (.cells #[.int .u8 p] e)) = W2
   have hge := grownCap_ge W2 (xs.length + 1) xs.length e
   have hle := grownCap_le_maxLen W2 (xs.length + 1) xs.length e (by simp only [maxLen]; omega)
   have hb2 : base ≤ W2.heap.size := by rw [← hW2]; simp; omega
   refine Kd.R_of_own (enc := Value.int .u8) ⟨by simp [encs], .inr ⟨W2.heap.size, _, _, by simp, hb2, heap_alloc_new W2.drew _, by simpa using hge, hle, ?_, ?_⟩⟩ (fun _ _ => trivial)
   ·simp [size_zeroCells, Value.cells]; omega
   ·simp [encs]
    have e1 : ∀ Z : List Value, List.map (fun x => Value.int IntKind.u8 x) xs ++ Value.int IntKind.u8 p :: Z = (List.map (fun x => Value.int IntKind.u8 x) xs ++ [Value.int IntKind.u8 p]) ++ Z := fun Z => by simp
    rw [e1, List.take_left' (by simp)]
  ·exact ((HB.alloc hbase _).drew).alloc (by simp; omega) _
theorem lar_event {W : World} (hgd : o.guard = none) {N : Tmp} (_hd : o.dst = some N) {cs : Array Value} {t : TypeId}
 (hrun : (execOp a.eval o).run P W = .ok (.value (.slice (some ⟨W.heap.size, 0, none⟩) cs.size cs.size)) (W.alloc (.cells cs t (0, 0))))
 (h : ∀ g, W.heap.size ≤ g → ∀ w1, w1.heap[g]? = some (.cells cs t (0, 0)) → Below W.heap.size W w1 → wpList P ops Q rest (a.put o.dst (.slice (some ⟨g, 0, none⟩) cs.size cs.size)) w1) : wpList P ops Q (o :: rest) a W :=
 Kd.event_run hgd hrun (h _ (Nat.le_refl _) _ (blk_new W _) (below_alloc (Below.refl _ _) _))
theorem mark_event {W : World} (hgd : o.guard = none) {t e te : TypeId} {x : Operand} (ho : o.op = .convert t t x) (ht : P.underlying t = some (.slice e)) (he : P.underlying e = some (.int .u8)) {g n c : Nat} (hx : a.eval x = .slice (some ⟨g, 0, none⟩) n c) {cs : Array Value} (hb : W.heap[g]? = some (.cells cs te (0, 0)))
 (h : ∀ w1, w1.heap[g]? = some (.cells cs te (cs.size, cs.size + 1)) → Below g W w1 → wpList P ops Q rest (a.put o.dst (.slice (some ⟨g, 0, none⟩) n c)) w1) : wpList P ops Q (o :: rest) a W := by
 have hr : (execOp a.eval o).run P W = .ok (.value (.slice (some ⟨g, 0, none⟩) n c)) (W.freeze ⟨g, cs.size, none⟩ 1) := by
  unfold execOp
  simp only [ho, hx, convert, Sem.run_bind, run_underlying ht, run_underlying he, Result.andThen_ok]
  simp [markStringish, World.shape?, hb]
 have hf : (W.freeze ⟨g, cs.size, none⟩ 1).heap = W.heap.modify g fun
  | .cells c elem (lo, hi) => .cells c elem (if lo == hi then (cs.size, cs.size + 1) else (min lo cs.size, max hi (cs.size + 1)))
  | o => o := rfl
 refine Kd.event_run hgd hr (h _ ?_ ⟨rfl, rfl, rfl, ?_, fun k hk => ?_⟩)
 ·rw [hf, Array.getElem?_modify, if_pos rfl, hb]; rfl
 ·rw [hf]; simp
 ·rw [hf, Array.getElem?_modify, if_neg (by omega)]
end
theorem spec_l10Num.lar (k : Nat) (u : Value) (l0 : List Int) (a1 : Int) (r : List Int) (w0 w : World) (hB : Below w0.heap.size w0 w) (ho0 : RT 5 w0.heap.size w u l0) (h : spec_l10Num.f k l0 a1 = some r) :
 Calls Tryz.prog 158 #[u, .int .i64 a1] w fun e w' => ∃ v0_ : Value, e = .returned (v0_) ∧ Kd.R (Kd.int .u8) 5 w' w0.heap.size (fun _ => True) v0_ r ∧ Below w0.heap.size w0 w' := by
 have HO0 := Aside0.mk ho0
 have HB := Aside0.mk hB
 clear hB ho0
 have H : (spec_l10Num.l0 k l0 a1) = some r := h
 clear h
 have H' := Aside0.mk H
 clear H
 go_enter Tryz.func158, Tryz.ntmps158
 go_wp2
 go_loopg [0, 1] k (fun kq v0 v1 w' => ∃ (x0_1 : List Int) (x1_1 : Int), v1 = .int .i64 x1_1 ∧ Aside0 (spec_l10Num.l0 kq x0_1 x1_1 = some r) ∧ Aside0 (kq ≤ k) ∧ Aside0 (RT 5 w0.heap.size w' v0 x0_1) ∧ Aside0 (Below w0.heap.size w0 w'))
 case atStart => exact ⟨l0, a1, by first | rfl | (simp; done), H', ⟨Nat.le_refl _⟩, HO0, HB⟩
 case round =>
  clear H' HO0
  obtain ⟨x0_1, x1_1, rfl, HA, HK1, HO_0, HB⟩ := hrel
  cases gk with
  | zero => exact absurd HA.out (by simp [spec_l10Num.l0])
  | succ k1 =>
   have H := HA.out
   clear HA
   simp only [spec_l10Num.l0] at H
   by_cases c3 : x1_1 ≥ 128
   ·rw [if_pos c3] at H
    have c3b0 : decide (128 ≤ x1_1) = true := decide_eq_true c3
    clear c3
    by_cases c4 : x0_1.length < 140737488355328
    ·rw [if_pos c4] at H
     have LMc4 := Aside0.mk c4
     clear c4
     obtain ⟨y1, hy1⟩ : ∃ y_ : List Int, y_ = (x0_1 ++ [(wrap64 ((Int.tmod x1_1 128) + 128)) % 256]) := ⟨_, rfl⟩
     rw [← hy1] at H
     have Ny1 := Aside0.mk hy1
     clear hy1
     have H' := Aside0.mk H
     clear H
     go_wp2_with (first | ((with_reducible refine gate_builtin (b := .append) (xs := #[.tmp 7, .tmp 12]) rfl ?_); at_builtin; refine RT_append (w0 := w0) w0.heap.size rfl (.tmp 7) (.tmp 12) 133 5 rfl Tryz.underlying133 info5 u0 x0_1 ((wrap64 ((Int.tmod x1_1 128) + 128)) % 256) rfl rfl HO_0.out HB.out (below_size HB.out) LMc4.out ?_; intro v177 w5 ho hb; rw [← Ny1.out] at ho; have n0_ := Aside0.mk hb; have n2_ := Aside0.mk ho; clear HB HO_0; have HB := n0_; have HO1 := n2_; clear n0_ n2_ ho hb))
     go_roundg k1
     case measure => have := HK1.out; omega
     case rel => exact ⟨y1, wrap64 (Int.tdiv x1_1 128), by first | rfl | (simp; done) | (simp [*]; done), H', ⟨by have := HK1.out; omega⟩, ⟨.inl HO1.out⟩, HB⟩
    ·rw [if_neg c4] at H
     exact absurd H (by simp)
   ·rw [if_neg c3] at H
    have c3b0 : decide (128 ≤ x1_1) = false := decide_eq_false c3
    clear c3
    by_cases c6 : x0_1.length < 140737488355328
    ·rw [if_pos c6] at H
     have LMc6 := Aside0.mk c6
     clear c6
     obtain ⟨y1, hy1⟩ : ∃ y_ : List Int, y_ = (x0_1 ++ [(x1_1) % 256]) := ⟨_, rfl⟩
     rw [← hy1] at H
     have Ny1 := Aside0.mk hy1
     clear hy1
     obtain rfl := Option.some.inj H
     go_wp2_with (first | ((with_reducible refine gate_builtin (b := .append) (xs := #[.tmp 16, .tmp 19]) rfl ?_); at_builtin; refine RT_append (w0 := w0) w0.heap.size rfl (.tmp 16) (.tmp 19) 133 5 rfl Tryz.underlying133 info5 u0 x0_1 ((x1_1) % 256) rfl rfl HO_0.out HB.out (below_size HB.out) LMc6.out ?_; intro v180 w7 ho hb; rw [← Ny1.out] at ho; have n0_ := Aside0.mk hb; have n2_ := Aside0.mk ho; clear HB HO_0; have HB := n0_; have HO1 := n2_; clear n0_ n2_ ho hb))
     go_ret
     exact ⟨_, by first | rfl | (simp [*]; done), HO1.out, HB.out⟩
    ·rw [if_neg c6] at H
     exact absurd H (by simp)
theorem impl_varint.lar (k : Nat) (u : Value) (l0 : List Int) (a1 : Int) (r : List Int) (w0 w : World) (hB : Below w0.heap.size w0 w) (ho0 : RT 5 w0.heap.size w u l0) (h : impl_varint.f k l0 a1 = some r) :
 Calls Tryz.prog 160 #[u, .int .i64 a1] w fun e w' => ∃ v0_ : Value, e = .returned (v0_) ∧ Kd.R (Kd.int .u8) 5 w' w0.heap.size (fun _ => True) v0_ r ∧ Below w0.heap.size w0 w' := by
 have HO0 := Aside0.mk ho0
 have HB := Aside0.mk hB
 clear hB ho0
 have H : (impl_varint.l0 k l0 a1) = some r := h
 clear h
 have H' := Aside0.mk H
 clear H
 go_enter Tryz.func160, Tryz.ntmps160
 go_wp2
 go_loopg [0, 1] k (fun kq v0 v1 w' => ∃ (x0_1 : List Int) (x1_1 : Int), v1 = .int .i64 x1_1 ∧ Aside0 (impl_varint.l0 kq x0_1 x1_1 = some r) ∧ Aside0 (kq ≤ k) ∧ Aside0 (RT 5 w0.heap.size w' v0 x0_1) ∧ Aside0 (Below w0.heap.size w0 w'))
 case atStart => exact ⟨l0, a1, by first | rfl | (simp; done), H', ⟨Nat.le_refl _⟩, HO0, HB⟩
 case round =>
  clear H' HO0
  obtain ⟨x0_1, x1_1, rfl, HA, HK1, HO_0, HB⟩ := hrel
  cases gk with
  | zero => exact absurd HA.out (by simp [impl_varint.l0])
  | succ k1 =>
   have H := HA.out
   clear HA
   simp only [impl_varint.l0] at H
   by_cases c3 : x1_1 > 127
   ·rw [if_pos c3] at H
    have c3b0 : decide (127 < x1_1) = true := decide_eq_true c3
    clear c3
    by_cases c4 : x0_1.length < 140737488355328
    ·rw [if_pos c4] at H
     have LMc4 := Aside0.mk c4
     clear c4
     obtain ⟨y1, hy1⟩ : ∃ y_ : List Int, y_ = (x0_1 ++ [(Go.bits .or .i64 (Go.bits .and .i64 x1_1 127) 128) % 256]) := ⟨_, rfl⟩
     rw [← hy1] at H
     have Ny1 := Aside0.mk hy1
     clear hy1
     have H' := Aside0.mk H
     clear H
     go_wp2_with (first | ((with_reducible refine gate_builtin (b := .append) (xs := #[.tmp 7, .tmp 12]) rfl ?_); at_builtin; refine RT_append (w0 := w0) w0.heap.size rfl (.tmp 7) (.tmp 12) 133 5 rfl Tryz.underlying133 info5 u0 x0_1 ((Go.bits .or .i64 (Go.bits .and .i64 x1_1 127) 128) % 256) rfl rfl HO_0.out HB.out (below_size HB.out) LMc4.out ?_; intro v177 w5 ho hb; rw [← Ny1.out] at ho; have n0_ := Aside0.mk hb; have n2_ := Aside0.mk ho; clear HB HO_0; have HB := n0_; have HO1 := n2_; clear n0_ n2_ ho hb))
     go_roundg k1
     case measure => have := HK1.out; omega
     case rel => exact ⟨y1, x1_1 / 128, by first | rfl | (simp; done) | (simp [*]; done), H', ⟨by have := HK1.out; omega⟩, ⟨.inl HO1.out⟩, HB⟩
    ·rw [if_neg c4] at H
     exact absurd H (by simp)
   ·rw [if_neg c3] at H
    have c3b0 : decide (127 < x1_1) = false := decide_eq_false c3
    clear c3
    by_cases c6 : x0_1.length < 140737488355328
    ·rw [if_pos c6] at H
     have LMc6 := Aside0.mk c6
     clear c6
     obtain ⟨y1, hy1⟩ : ∃ y_ : List Int, y_ = (x0_1 ++ [(x1_1) % 256]) := ⟨_, rfl⟩
     rw [← hy1] at H
     have Ny1 := Aside0.mk hy1
     clear hy1
     obtain rfl := Option.some.inj H
     go_wp2_with (first | ((with_reducible refine gate_builtin (b := .append) (xs := #[.tmp 16, .tmp 19]) rfl ?_); at_builtin; refine RT_append (w0 := w0) w0.heap.size rfl (.tmp 16) (.tmp 19) 133 5 rfl Tryz.underlying133 info5 u0 x0_1 ((x1_1) % 256) rfl rfl HO_0.out HB.out (below_size HB.out) LMc6.out ?_; intro v180 w7 ho hb; rw [← Ny1.out] at ho; have n0_ := Aside0.mk hb; have n2_ := Aside0.mk ho; clear HB HO_0; have HB := n0_; have HO1 := n2_; clear n0_ n2_ ho hb))
     go_ret
     exact ⟨_, by first | rfl | (simp [*]; done), HO1.out, HB.out⟩
    ·rw [if_neg c6] at H
     exact absurd H (by simp)
end Go.Proofs.YtcekmnclmldmmaaGreatDoor.Q
