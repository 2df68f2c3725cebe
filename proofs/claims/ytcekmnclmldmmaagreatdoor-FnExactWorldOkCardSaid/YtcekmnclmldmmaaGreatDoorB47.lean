/- Proved: at every run the law FnExactWorldOk returns true (impl.WorldOk answers as spec.WorldOk does, and leaves its argument as it was), under no condition but the card's own: the variables that the row lists read as the program's text lays them. -/
import Derived.Test.YtcekmnclmldmmaaGreatDoorB36
import Derived.Test.YtcekmnclmldmmaaGreatDoorB45
import Derived.Test.YtcekmnclmldmmaaGreatDoorB46
import Derived.Lib.SmallJoins
import Derived.SizedLaws
import Derived.Test.YtcekmnclmldmmaaGreatDoorCards
import Derived.Test.YtcekmnclmldmmaaGreatDoorTie
import Derived.ProofKit
import Derived.OpenShut
import Derived.Lay
import Derived.LaidOnce
import Derived.SevenTiedAt
import Derived.Handed
import Derived.Shelf.Vars
set_option linter.unusedVariables false
set_option linter.unusedSimpArgs false
namespace Go.Proofs.YtcekmnclmldmmaaGreatDoor.Q
open Go.RowKit W1 W2 W3
namespace P
structure SmallW (a : List LItem) (b : List LProfile) (c : List LPending) (d : List LNext) : Prop where
 a : SmallItemS a
 b : SmallProfileS b
 c : SmallPendingS c
 d : SmallNextS d
theorem szWorld_ok (a : List LItem) (b : List LProfile) (c : List LPending) (d : List LNext) (ha : BItemS a) (hb : BProfileS b) (hc : BPendingS c) (hd : BNextS d) : Sz (fun k => laws_szWorld.f k a b c d 1048576) 1048576 (SmallW a b c d) := by
 refine Sz.sub (G := fun l k => (laws_szProfileS.f k b l).bind fun t => if t < 0 then some (-1) else ((laws_szPendingS.f k c t).bind fun t => if t < 0 then some (-1) else ((laws_szNextS.f k d t).bind fun t => if t < 0 then some (-1) else some t))) (szItemS_ok a ha 1048576 (by decide) (by decide)) (fun k => rfl) fun l a0 b0 c0 => ?_
 refine Sz.sub (G := fun l k => (laws_szPendingS.f k c l).bind fun t => if t < 0 then some (-1) else ((laws_szNextS.f k d t).bind fun t => if t < 0 then some (-1) else some t)) (szProfileS_ok b hb l a0 (by omega)) (fun k => rfl) fun l1 a1 b1 c1 => ?_
 refine Sz.sub (G := fun l k => (laws_szNextS.f k d l).bind fun t => if t < 0 then some (-1) else some t) (szPendingS_ok c hc l1 a1 (by omega)) (fun k => rfl) fun l2 a2 b2 c2 => ?_
 refine Sz.sub (G := fun l k => some l) (szNextS_ok d hd l2 a2 (by omega)) (fun k => rfl) fun l3 a3 b3 c3 => ?_
 exact Sz.yes a3 (Int.le_refl _) ⟨c0, c1, c2, c3⟩
theorem tree_small (t : List LEntry) (h : SmallEntryS t) : tSmall (t.map cpEntry) := by
 intro e he
 obtain ⟨y, hy, rfl⟩ := List.mem_map.1 he
 exact ⟨(h.all y hy).f0, (h.all y hy).f2⟩
section
variable {a : List LItem} {b : List LProfile} {c : List LPending} {d : List LNext}
theorem toWorld_ok (H : SmallW a b c d) : Ev (fun k => laws_toWorld.f k a b c d) (a.map cpItem, b.map cpProfile, c.map cpPending, d.map cpNext) := by
 unfold laws_toWorld.f
 exact Ev.bind (toItemS_ok a H.a) (Ev.bind (toProfileS_ok b H.b) (Ev.bind (toPendingS_ok c H.c) (Ev.bind (toNextS_ok d H.d) (Ev.now _))))
theorem eqWorld_ok (H : SmallW a b c d) : Ev (fun k => laws_eqWorld.f k (a.map cpItem) (b.map cpProfile) (c.map cpPending) (d.map cpNext) (a.map cpItem) (b.map cpProfile) (c.map cpPending) (d.map cpNext)) true := by
 unfold laws_eqWorld.f
 refine Ev.bind (eqItemS_ok _ (by simpa using H.a.len) (fun x hx => by obtain ⟨y, hy, rfl⟩ := List.mem_map.1 hx; exact fitItem y (H.a.all y hy))) ?_
 simp only [if_true]
 refine Ev.bind (eqProfileS_ok _ (by simpa using H.b.len) (fun x hx => by obtain ⟨y, hy, rfl⟩ := List.mem_map.1 hx; exact fitProfile y (H.b.all y hy))) ?_
 simp only [if_true]
 refine Ev.bind (eqPendingS_ok _ (by simpa using H.c.len) (fun x hx => by obtain ⟨y, hy, rfl⟩ := List.mem_map.1 hx; exact fitPending y (H.c.all y hy))) ?_
 simp only [if_true]
 refine Ev.bind (eqNextS_ok _ (by simpa using H.d.len) (fun x hx => by obtain ⟨y, hy, rfl⟩ := List.mem_map.1 hx; exact fitNext y (H.d.all y hy))) ?_
 simp only [if_true]
 exact Ev.now _
theorem sized (H : SmallW a b c d) : Sized (a.map cpItem) (b.map cpProfile) (c.map cpPending) (d.map cpNext) where
 sts := fun x hx => by
  obtain ⟨y, hy, rfl⟩ := List.mem_map.1 hx
  exact ⟨tree_small y.f4 (H.a.all y hy).f4, (H.a.all y hy).f2.len⟩
 stl := by simpa using H.a.len
 psl := by simpa using H.b.len
 gs := fun x hx => by
  obtain ⟨y, hy, rfl⟩ := List.mem_map.1 hx
  simpa [cpProfile] using (H.b.all y hy).f2.len
 qs := fun x hx => by
  obtain ⟨y, hy, rfl⟩ := List.mem_map.1 hx
  exact tree_small y.f1 (H.c.all y hy).f1
end
theorem law (a : List LItem) (b : List LProfile) (c : List LPending) (d : List LNext) (ha : BItemS a) (hb : BProfileS b) (hc : BPendingS c) (hd : BNextS d) : ∃ k, laws_FnExactWorldOk.f k a b c d = some true := by
 refine Ev.rounds (g := fun k => laws_FnExactWorldOk.f k a b c d) ?_
 unfold laws_FnExactWorldOk.f
 obtain ⟨r, e, hr⟩ := szWorld_ok a b c d ha hb hc hd
 refine Ev.bind e ?_
 by_cases h0 : r < 0
 ·simp only [if_pos h0]; exact Ev.now _
 ·obtain ⟨_, _, H⟩ := hr.resolve_left h0
  simp only [if_neg h0]
  refine Ev.bind (toWorld_ok H) (Ev.bind (eWorldS (sized H)) (Ev.bind (toWorld_ok H) (Ev.bind (eWorldI (sized H)) ?_)))
  simp only [bne_self_eq_false, Bool.false_eq_true, if_false]
  refine Ev.bind (toWorld_ok H) (Ev.bind (eqWorld_ok H) ?_)
  simp only [if_true]
  exact Ev.now _
end P
end Go.Proofs.YtcekmnclmldmmaaGreatDoor.Q
namespace Go.Proofs.YtcekmnclmldmmaaGreatDoor.Q
open Go.RowKit W1 W2 W3
open Go.Deep
namespace P
def Opens {H : Type} (enc : TypeId × Value → H) (W : World) (t : TypeId) {α : Type} (k : Kd α) (B : α → Prop) : Prop :=
 ∀ fuel cs x, DataW.trod enc Tryz.prog W 0 (fun _ => true) true fuel t cs = some x → (∀ n ∈ x.1.weights Tryz.prog t, n ≤ reachBytes) → ∃ a, k.K W a cs ∧ B a
def OpensF {H : Type} (enc : TypeId × Value → H) (W : World) (N : Nat) (fs : List Field) (off : Nat) {α : Type} (k : Kd α) (B : α → Prop) : Prop :=
 ∀ (n : Nat) (cs : List Value) (xs : List (DataW H × List MemPlace)), cs.length = N → xs.length = fs.length →
  (∀ (i : Nat) (f : Field), fs[i]? = some f → DataW.trod enc Tryz.prog W 0 (fun _ => true) true n f.type ((cs.drop f.offset).take (Tryz.prog.cellsOf f.type)) = xs[i]?) →
  (∀ m ∈ DataW.weightsEach Tryz.prog (fs.map (·.type)) (xs.map (·.1)), m ≤ reachBytes) → ∃ a, k.K W a (cs.drop off) ∧ B a
section
variable {H : Type} {enc : TypeId × Value → H} {W : World}
theorem reach_big {n : Nat} (h : n ≤ reachBytes) : n ≤ big := by have := reachBytes_lt; unfold big; omega
theorem Opens.str {t : TypeId} (ht : Tryz.prog.underlying t = some .string) : Opens enc W t Kd.string (fun s => s.size ≤ big) := by
 intro fuel cs x h hw
 obtain ⟨s, rfl, rfl, _⟩ := DataW.trod_string ht h
 refine ⟨s, rfl, reach_big ?_⟩
 have := hw s.data.toList.length (by simp [DataW.weights])
 rwa [Array.length_toList] at this
theorem Opens.num {t : TypeId} {k : IntKind} (ht : Tryz.prog.underlying t = some (.int k)) : Opens enc W t (Kd.int k) (fun _ => True) := by
 intro fuel cs x h hw
 obtain ⟨n, rfl, rfl, _⟩ := DataW.trod_int ht h
 exact ⟨n, rfl, trivial⟩
theorem Opens.bool {t : TypeId} (ht : Tryz.prog.underlying t = some .bool) : Opens enc W t Kd.bool (fun _ => True) := by
 intro fuel cs x h hw
 obtain ⟨n, rfl, rfl⟩ := DataW.trod_bool ht h
 exact ⟨n, rfl, trivial⟩
theorem list_lt {α : Type} {p : Nat → α → Prop} : ∀ n : Nat, (∀ i, i < n → ∃ x, p i x) → ∃ l : List α, l.length = n ∧ ∀ i x, l[i]? = some x → p i x
 | 0, _ => ⟨[], rfl, fun i x h => by simp at h⟩
 | n + 1, h => by
  obtain ⟨l, hl, hp⟩ := list_lt n (fun i hi => h i (by omega))
  obtain ⟨x, hx⟩ := h n (by omega)
  refine ⟨l ++ [x], by simp [hl], fun i y hy => ?_⟩
  by_cases hi : i < l.length
  ·rw [List.getElem?_append_left hi] at hy; exact hp i y hy
  ·rw [List.getElem?_append_right (by omega)] at hy
   have h0 : i - l.length = 0 := by
    rcases Nat.eq_zero_or_pos (i - l.length) with h0 | h0
    ·exact h0
    ·rw [List.getElem?_eq_none (by simp; omega)] at hy; cases hy
   rw [h0] at hy
   obtain rfl : x = y := by simpa using hy
   rw [show i = n by omega]; exact hx
theorem all_mem {P : Program} {e : TypeId} {b : Nat} : ∀ (l : List (DataW H)), (∀ n ∈ DataW.weightsAll P e l, n ≤ b) → ∀ d ∈ l, ∀ n ∈ d.weights P e, n ≤ b
 | [], _, d, hd => by cases hd
 | x :: l, h, d, hd => by
  intro n hn
  rcases List.mem_cons.1 hd with rfl | hd
  ·exact h n (by simp [DataW.weightsAll, hn])
  ·exact all_mem l (fun m hm => h m (by simp [DataW.weightsAll, hm])) d hd n hn
theorem Opens.slice {t e : TypeId} {α : Type} {k : Kd α} {B : α → Prop} (ht : Tryz.prog.underlying t = some (.slice e)) (hc : Tryz.prog.cellsOf e = k.sz) (hb : 1 ≤ Tryz.prog.bytesOf e) (h : Opens enc W e k B) :
 Opens enc W t (Kd.slice e k) (fun l => l.length ≤ big ∧ ∀ x ∈ l, B x) := by
 intro fuel cs x hx hw
 rcases open_slice ht hx with ⟨rfl, _⟩ | ⟨a, len, cap, m, n, D, Pl, rfl, _, hl, hm, hmm, rfl, hD⟩
 ·exact ⟨[], ⟨none, 0, rfl, Nat.le_refl _, rfl, Nat.zero_le _, fun hp => absurd hp (Nat.lt_irrefl _)⟩, Nat.zero_le _, fun x hx => by cases hx⟩
 ·obtain rfl : m = cap := by simpa using hmm
  simp only [DataW.weights, ht] at hw
  have hlen : len ≤ big := by
   have h1 := hw _ (List.mem_cons_self ..)
   simp only [List.length_map, List.length_range] at h1
   refine reach_big (Nat.le_trans ?_ h1)
   calc len ≤ len + (m - len) := by omega
    _ = (len + (m - len)) * 1 := by omega
    _ ≤ _ := Nat.mul_le_mul_left _ hb
  have hall : ∀ i, i < len → ∀ n ∈ (D i).weights Tryz.prog e, n ≤ reachBytes := fun i hi =>
   all_mem ((List.range len).map D) (fun n hn => hw n (List.mem_cons_of_mem _ (List.mem_append_left _ hn))) (D i) (List.mem_map.2 ⟨i, List.mem_range.2 hi, rfl⟩)
  obtain ⟨l, hll, hp⟩ := list_lt (p := fun i (x : α) => ∃ cs', W.cells? 0 (a.add (i * Tryz.prog.cellsOf e)) (Tryz.prog.cellsOf e) = some cs' ∧ k.K W x cs' ∧ B x) len (fun i hi => by
   obtain ⟨cs', h1, h2⟩ := hD i (by omega)
   obtain ⟨y, h3, h4⟩ := h _ _ _ h2 (hall i hi)
   exact ⟨y, cs', h1, h3, h4⟩)
  refine ⟨l, ⟨some a, m, by rw [hll], by omega, rfl, by unfold big at hlen; omega, fun hpos => ⟨a, rfl, fun j p hj => ?_⟩⟩, by omega, fun x hxm => ?_⟩
  ·obtain ⟨cs', h1, h2, _⟩ := hp j p hj
   obtain ⟨_, h3, h4⟩ := World.cells?_some h1
   refine ⟨cs', h3.trans hc, h2, fun i u hu => ?_⟩
   have hi : i < cs'.length := (List.getElem?_eq_some_iff.1 hu).1
   rw [← hu, ← h4 i (by omega), Deep.add_add, hc]
  ·obtain ⟨j, hj⟩ := List.getElem?_of_mem hxm
   obtain ⟨_, _, _, h3⟩ := hp j x hj
   exact h3
theorem Opens.last {N : Nat} {f : Field} {off : Nat} {α : Type} {k : Kd α} {B : α → Prop} (ho : f.offset = off) (hn : off + Tryz.prog.cellsOf f.type = N) (h : Opens enc W f.type k B) : OpensF enc W N [f] off k B := by
 intro n cs xs hl hx hf hw
 match xs, hx with
 | [x], _ =>
  have h0 := hf 0 f rfl
  rw [ho, List.take_of_length_le (by rw [List.length_drop]; omega)] at h0
  exact h n _ x h0 (fun m hm => hw m (by simp [DataW.weightsEach, hm]))
theorem Opens.cons {N : Nat} {f : Field} {fs : List Field} {off : Nat} {α β : Type} {k : Kd α} {k' : Kd β} {B : α → Prop} {B' : β → Prop} (ho : f.offset = off) (h : Opens enc W f.type k B) (hs : OpensF enc W N fs (off + Tryz.prog.cellsOf f.type) k' B') :
 OpensF enc W N (f :: fs) off (Kd.pair k k') (fun p => B p.1 ∧ B' p.2) := by
 intro n cs xs hl hx hf hw
 match xs, hx with
 | x :: xs, hx =>
  have h0 := hf 0 f rfl
  rw [ho] at h0
  obtain ⟨a, h1, h2⟩ := h n _ x h0 (fun m hm => hw m (by simp only [List.map_cons, DataW.weightsEach]; exact List.mem_append_left _ hm))
  obtain ⟨b, h3, h4⟩ := hs n cs xs hl (by simpa using hx) (fun i g hg => hf (i + 1) g hg) (fun m hm => hw m (by simp only [List.map_cons, DataW.weightsEach]; exact List.mem_append_right _ hm))
  refine ⟨(a, b), ⟨_, _, ?_, h1, h3⟩, h2, h4⟩
  rw [← List.drop_drop, List.take_append_drop]
theorem Opens.struct {t : TypeId} {fs : Array Field} {α β : Type} {k : Kd α} {B : α → Prop} {f : β → α} (ht : Tryz.prog.underlying t = some (.struct fs)) (h : OpensF enc W (Tryz.prog.cellsOf t) fs.toList 0 k B) (g : α → β) (hg : ∀ a, f (g a) = a) :
 Opens enc W t (Kd.iso k f) (fun x => B (f x)) := by
 intro fuel cs x hx hw
 obtain ⟨xs, n, _, rfl, hl, hlen, hf⟩ := DataW.trod_struct ht hx
 simp only [DataW.weights, ht] at hw
 obtain ⟨a, h1, h2⟩ := h n cs xs hl (by simpa using hlen) (fun i f hf' => hf i f (by simpa using hf')) hw
 refine ⟨g a, ?_, ?_⟩
 ·show k.K W (f (g a)) cs
  rw [hg]; simpa using h1
 ·show B (f (g a))
  rw [hg]; exact h2
theorem Opens.imp {t : TypeId} {α : Type} {k : Kd α} {B B' : α → Prop} (h : Opens enc W t k B) (hi : ∀ a, B a → B' a) : Opens enc W t k B' := fun n cs x hx hw => by
 obtain ⟨a, h1, h2⟩ := h n cs x hx hw
 exact ⟨a, h1, hi a h2⟩
end
end P
end Go.Proofs.YtcekmnclmldmmaaGreatDoor.Q
namespace Go.Proofs.YtcekmnclmldmmaaGreatDoor.Law
open Go.ChangeShapes Go.WideShapes Go.ChangeAt Go.RowKit Go.Deep
open Q Q.P W1 W2 W3
section
variable {H : Type} {enc : TypeId × Value → H} {W : World}
theorem oStr : Opens enc W 9 Kd.string (fun s => s.size ≤ big) := Opens.str Tryz.underlying9
theorem oEntry : Opens enc W 159 k159 BEntry :=
 (Opens.struct Tryz.underlying159 (Opens.cons rfl oStr (Opens.cons (by kernel_rfl) (Opens.num Tryz.underlying2) (Opens.cons (by kernel_rfl) oStr (Opens.last (by kernel_rfl) (by kernel_rfl) (Opens.bool Tryz.underlying4)))))
  (fun p => ⟨p.1, p.2.1, p.2.2.1, p.2.2.2⟩) (fun _ => rfl)).imp fun a h => ⟨h.1, h.2.2.1⟩
theorem oEntryS : Opens enc W 101 (Kd.slice 159 k159) BEntryS :=
 (Opens.slice Tryz.underlying101 (by kernel_rfl) (of_decide_eq_true (by kernel_rfl)) oEntry).imp fun a h => ⟨h.1, h.2⟩
theorem oStringS : Opens enc W 39 (Kd.slice 9 Kd.string) BStringS :=
 (Opens.slice Tryz.underlying39 (by kernel_rfl) (of_decide_eq_true (by kernel_rfl)) oStr).imp fun a h => ⟨h.1, h.2⟩
theorem oItem : Opens enc W 103 k103 BItem :=
 (Opens.struct Tryz.underlying103 (Opens.cons rfl oStr (Opens.cons (by kernel_rfl) oStr (Opens.cons (by kernel_rfl) oStringS (Opens.cons (by kernel_rfl) oStr (Opens.last (by kernel_rfl) (by kernel_rfl) oEntryS)))))
  (fun p => ⟨p.1, p.2.1, p.2.2.1, p.2.2.2.1, p.2.2.2.2⟩) (fun _ => rfl)).imp fun a h => ⟨h.1, h.2.1, h.2.2.1, h.2.2.2.1, h.2.2.2.2⟩
theorem oGen : Opens enc W 161 k161 BGen :=
 (Opens.struct Tryz.underlying161 (Opens.cons rfl (Opens.num Tryz.underlying2) (Opens.last (by kernel_rfl) (by kernel_rfl) oStr)) (fun p => ⟨p.1, p.2⟩) (fun _ => rfl)).imp fun a h => ⟨h.2⟩
theorem oGenS : Opens enc W 105 (Kd.slice 161 k161) BGenS :=
 (Opens.slice Tryz.underlying105 (by kernel_rfl) (of_decide_eq_true (by kernel_rfl)) oGen).imp fun a h => ⟨h.1, h.2⟩
theorem oProfile : Opens enc W 107 k107 BProfile :=
 (Opens.struct Tryz.underlying107 (Opens.cons rfl oStr (Opens.cons (by kernel_rfl) (Opens.num Tryz.underlying2) (Opens.last (by kernel_rfl) (by kernel_rfl) oGenS))) (fun p => ⟨p.1, p.2.1, p.2.2⟩) (fun _ => rfl)).imp fun a h => ⟨h.1, h.2.2⟩
theorem oPending : Opens enc W 110 k110 BPending :=
 (Opens.struct Tryz.underlying110 (Opens.cons rfl oStr (Opens.cons (by kernel_rfl) oEntryS (Opens.last (by kernel_rfl) (by kernel_rfl) oStr))) (fun p => ⟨p.1, p.2.1, p.2.2⟩) (fun _ => rfl)).imp fun a h => ⟨h.1, h.2.1, h.2.2⟩
theorem oNext : Opens enc W 112 k112 BNext :=
 (Opens.struct Tryz.underlying112 (Opens.cons rfl oStr (Opens.last (by kernel_rfl) (by kernel_rfl) oStr)) (fun p => ⟨p.1, p.2⟩) (fun _ => rfl)).imp fun a h => ⟨h.1, h.2⟩
theorem oItemS : Opens enc W 22 (Kd.slice 103 k103) BItemS :=
 (Opens.slice Tryz.underlying22 (by kernel_rfl) (of_decide_eq_true (by kernel_rfl)) oItem).imp fun a h => ⟨h.1, h.2⟩
theorem oProfileS : Opens enc W 23 (Kd.slice 107 k107) BProfileS :=
 (Opens.slice Tryz.underlying23 (by kernel_rfl) (of_decide_eq_true (by kernel_rfl)) oProfile).imp fun a h => ⟨h.1, h.2⟩
theorem oPendingS : Opens enc W 24 (Kd.slice 110 k110) BPendingS :=
 (Opens.slice Tryz.underlying24 (by kernel_rfl) (of_decide_eq_true (by kernel_rfl)) oPending).imp fun a h => ⟨h.1, h.2⟩
theorem oNextS : Opens enc W 25 (Kd.slice 112 k112) BNextS :=
 (Opens.slice Tryz.underlying25 (by kernel_rfl) (of_decide_eq_true (by kernel_rfl)) oNext).imp fun a h => ⟨h.1, h.2⟩
end
theorem own : ownKnob Tryz.prog.godebug = none := by kernel_rfl
theorem laidOut : laidOutB Tryz.prog = true := by kernel_rfl
def laid : List (String × DataW Unit) := Rows.fnExactWorldOkRow.laid
theorem wrap {H : Type} {enc : TypeId × Value → H} {a : Assume} {C : Checked} {os : Os} {f : FuncId} {fn : Func} {s : ChangeSpec} {apart fresh handsOn again : Bool} {X : World → Array Value → Prop}
 (own : ownKnob C.prog.godebug = none) (started : os.Started) (noInit : C.prog.inits.idxOf? f = none) (hfn : C.prog.funcs[f]? = some fn)
 (witness : ∃ (w : World) (tape : Tape) (i : Input), w.os = os ∧ (w.forCall tape i).Shaped C.prog ∧ i.vars = [] ∧ Input.okWide C.prog (w.forCall tape i) .any w.heap.size f i ∧
  ((s.pre enc C.prog fn [] apart (w.forCall tape i).memory i.args ∧ X (w.forCall tape i).memory i.args) ∧ sizedMet enc C.prog fn (OpenSpec.ofChange s) apart (w.forCall tape i).memory i.args) ∧ a.holds C.prog (lone (Frame.enter C.prog f i.args .normal) [] (w.forCall tape i)))
 (contract : ∀ (W : World) (base : Nat) (args : Array Value) (ds gs : List (DataW H)) (before : List MemPlace),
  (∀ (j : Nat) t v, fn.params[j]? = some t → args[j]? = some v → Value.okWide C.prog W .any base t v) →
  DataW.Whole enc C.prog fn.params.toList s.vars apart W args.toList ds gs before →
  (DataW.weightsEach C.prog (fn.params.toList ++ s.plain.varTypes C.prog) (ds ++ gs)).all (· ≤ reachBytes) = true →
  W.ShapedOpen C.prog →
  Calls C.prog f args W fun e W' => ∃ v, e = .returned v ∧ s.post enc C.prog fn apart fresh handsOn again W args v W') :
 ReturnsInHanded a C os f .any (fun w args => (s.pre enc C.prog fn [] apart w args ∧ X w args) ∧ sizedMet enc C.prog fn (OpenSpec.ofChange s) apart w args) (s.post enc C.prog fn apart fresh handsOn again) := by
 refine returnsInHanded_of_calls own started noInit witness ?_
 intro w tape i _ hsh _ hok hpre _
 obtain ⟨_, _, _, fn', hfn', _, _, _, _, hval⟩ := hok
 have e : fn' = fn := Option.some.inj (hfn'.symm.trans hfn)
 subst e
 obtain ⟨⟨⟨ds, gs, before, hw, _⟩, _⟩, hz⟩ := hpre
 have hw' := DataW.Whole.of_heap (w' := w.forCall tape i) (by rfl) hw
 refine (contract (w.forCall tape i) w.heap.size i.args ds gs before hval hw' (hz.weights hw) hsh).mono fun e W' ⟨v, he, hp⟩ => ?_
 subst he
 exact ChangeSpec.post_blind hp
set_option maxRecDepth 100000 in
set_option maxHeartbeats 1000000 in
theorem lifted (os : Os) (started : os.Started) (H : Type) (enc : TypeId × Value → H) :
 ReturnsInHanded {} Tryz.checked os 3 .any (fun w args => (Rows.fnExactWorldOkSpec.pre enc Tryz.prog Tryz.f3 [] false w args ∧ laidMetH Tryz.prog laid w) ∧ sizedMet enc Tryz.prog Tryz.f3 (OpenSpec.ofChange Rows.fnExactWorldOkSpec) false w args)
  (Rows.fnExactWorldOkSpec.post enc Tryz.prog Tryz.f3 false true false false) := by
 refine wrap (C := Tryz.checked) (X := fun w _ => laidMetH Tryz.prog laid w) own started (by kernel_rfl) Tryz.func3
  (ChangeSpec.witness_shaped (enc := enc) (C := Tryz.checked) (os := os) (X := fun w _ => laidMetH Tryz.prog laid w) false (World.laidAll Tryz.prog os laid) #[.agg #[.slice none 0 0, .slice none 0 0, .slice none 0 0, .slice none 0 0]] 8 (World.laidAll_os _ _ _)
   (World.shaped_of_ZipB (by kernel_rfl) (by kernel_rfl)) (by kernel_rfl) (by kernel_rfl) (by kernel_rfl)
   (by rw [MakeChecks.laidMetH_plain _ _ _ (by kernel_rfl)]; exact laidMet_laidAll _ (by kernel_rfl) (by kernel_rfl))) ?_
 intro W base args ds gs before hval0 hW hsz0 hsh
 have hsz : (DataW.weightsEach Tryz.prog (Tryz.f3.params.toList ++ Rows.fnExactWorldOkSpec.plain.varTypes Tryz.prog) (ds ++ gs)).all (· ≤ reachBytes) = true := hsz0
 have hval : ∀ (j : Nat) t v, Tryz.f3.params[j]? = some t → args[j]? = some v → Value.okWide Tryz.prog W .any base t v := hval0
 have hW' := hW
 obtain ⟨p, q, hA0, hV, rfl, _, _⟩ := hW
 have hA : DataW.TrodAll enc Tryz.prog W 0 (fun _ => true) true Tryz.f3.params.toList args.toList ds p := hA0
 rw [Tryz.params3] at hA hval hsz
 obtain ⟨v0, d0, rfl, rfl, h0⟩ := trodAll_one hA
 obtain ⟨rfl, rfl⟩ := trodVars_none hV
 have h0k := h0
 have lt0 : ∀ x ∈ p, x.block < W.heap.size := by obtain ⟨m, hm⟩ := h0k; exact DataW.trod_lt m _ _ _ hm
 obtain ⟨w0, w1, w2, w3, y0, y1, y2, y3, n, rfl, rfl, rfl, h0a, h0b, h0c, h0d⟩ := Joins.open_agg4 Tryz.underlying27 (by kernel_rfl) (by kernel_rfl) (hval 0 27 v0 rfl rfl) h0
 have hz : ∀ m ∈ DataW.weightsEach Tryz.prog [22, 23, 24, 25] [y0.1, y1.1, y2.1, y3.1], m ≤ reachBytes := fun m hm => by
  have := List.all_eq_true.1 hsz m (DataW.weights_mem_each (j := 0) (t := 27) (d := .agg [y0.1, y1.1, y2.1, y3.1]) rfl rfl m (by simp only [DataW.weights, Tryz.underlying27]; exact hm))
  simpa using this
 simp only [DataW.weightsEach, List.mem_append] at hz
 obtain ⟨l0, ⟨A0, c0, e0, hc0, hr0⟩, b0⟩ := oItemS (enc := enc) (W := W) n [w0] y0 h0a (fun m hm => hz m (.inl hm))
 obtain ⟨l1, ⟨A1, c1, e1, hc1, hr1⟩, b1⟩ := oProfileS (enc := enc) (W := W) n [w1] y1 h0b (fun m hm => hz m (.inr (.inl hm)))
 obtain ⟨l2, ⟨A2, c2, e2, hc2, hr2⟩, b2⟩ := oPendingS (enc := enc) (W := W) n [w2] y2 h0c (fun m hm => hz m (.inr (.inr (.inl hm))))
 obtain ⟨l3, ⟨A3, c3, e3, hc3, hr3⟩, b3⟩ := oNextS (enc := enc) (W := W) n [w3] y3 h0d (fun m hm => hz m (.inr (.inr (.inr (.inl hm)))))
 simp only [List.cons.injEq, and_true] at e0 e1 e2 e3
 subst e0 e1 e2 e3
 obtain ⟨m, hm⟩ := cell_of_shapedOpen_int (P := Tryz.prog) (g := 0) (t := 3) (zero := #[.int .i64 0]) hsh (of_decide_eq_true (by kernel_rfl)) (by kernel_rfl) rfl (by kernel_rfl) (by kernel_rfl) Tryz.underlying3
 obtain ⟨k, hk⟩ := law l0 l1 l2 l3 b0 b1 b2 b3
 refine (Q.laws_FnExactWorldOk.calls k _ _ l0 _ _ l1 _ _ l2 _ _ l3 true W hr0 hc0 hr1 hc1 hr2 hc2 hr3 hc3 ⟨m, hm⟩ hk).mono fun e W' ⟨he, bel⟩ => ?_
 subst he
 exact ⟨_, rfl, _, _, _, [], _, [], hW', trodAll_mk1 (shut_bool Tryz.underlying4 _), trodAll_mk1 (Below.trod laidOut (by kernel_rfl) (of_decide_eq_true (by kernel_rfl)) h0k bel lt0), rfl, bel.frame _, fun h => by cases h⟩
theorem holds : Rows.fnExactWorldOkRow.holds Tryz.pinned (OpenSpec.ofChange Rows.fnExactWorldOkSpec) :=
 OpenClaim.holds_of_wide 3 Tryz.f3 rfl rfl rfl rfl rfl rfl rfl ⟨rfl, rfl, rfl, rfl, rfl⟩ rfl rfl rfl rfl rfl (by kernel_rfl) Tryz.func3 (by kernel_rfl)
  (of_decide_eq_true (by kernel_rfl)) (by unfold Func.isWrapper; first | (rw [if_pos (by decide +kernel)]; kernel_rfl) | (rw [if_neg (by decide +kernel)]; exact ⟨rfl, rfl⟩))
  (fun os started H enc _ => lifted os started H enc)
theorem card_holds : Rows.FnExactWorldOkCardSaid :=
 Claim7.holds_tied_plain_at .later [] [.data, .pinned] true (true, "99afc5a29af5a04db0b6d2a0182420a6ca6179fab8d5add1538c5249fd447804") false holds (fun _ h => by cases h) (by kernel_rfl) (fun _ h => by cases h) fnExactWorldOk_row_tie rfl ⟨rfl, rfl⟩ (by kernel_rfl) rfl
  (fun f fn hf hfn => by
   obtain rfl : f = 3 := Option.some.inj ((show Tryz.prog.funcNamed "loop.example/g00023/laws.FnExactWorldOk" = some 3 by kernel_rfl).symm.trans hf) |>.symm
   obtain rfl : fn = Tryz.f3 := (Option.some.inj (Tryz.func3.symm.trans hfn)).symm
   exact ⟨by kernel_rfl, fun j t ht => by
    rw [Tryz.params3] at ht
    have hm : t ∈ [27] := by simpa using Array.mem_of_getElem? ht
    have hall : ([27].all fun u => !Tryz.prog.wantsStandIn u) = true := by kernel_rfl
    exact (show Tryz.prog.wantsStandIn t = false by simpa using List.all_eq_true.1 hall t hm)⟩)
  (by kernel_rfl)
#print axioms card_holds
end Go.Proofs.YtcekmnclmldmmaaGreatDoor.Law
