import Derived.Test.YtiibnjceahkngaaGreatDoorProg
import Derived.Below
import Derived.Deep.Draws
import Derived.Deep.AppendLies
import Derived.Maps.AppendAt
import Derived.OwnWalk
import Derived.Laws.BytesArg
import Derived.Laws.MakeOwn
import Derived.Laws.OwnMore
import Derived.Deep.OwnRows
import Derived.Tactics
import Derived.Lib.ConvBytes
import Derived.Laws.Slices
import Derived.WalkKit
import Derived.KernelRfl
import Derived.RowKit3
import Derived.Deep.LoopGhost
import Derived.Deep.QuietTactic
import Derived.BigQuiet
import Derived.WideLaws
import Derived.Deep.DeepCutAuto
import Derived.Deep.CutBlock
import Derived.Deep.RegionHeld3
import Derived.Laws.Rows
import Derived.Lib.AppendStr
import Derived.ArgAppend
import Derived.Laws.IdiomCopy
import Derived.OrdersHeld
import Derived.Laws.BitsLemmas
import Derived.RowKit
import Derived.Test.YtiibnjceahkngaaGreatDoorWWords
import Derived.Test.YtiibnjceahkngaaGreatDoorWLast
import Derived.Test.YtiibnjceahkngaaGreatDoorWTab
import Derived.Test.YtiibnjceahkngaaGreatDoorWFour
import Derived.Test.YtiibnjceahkngaaGreatDoorWQPut
import Derived.Test.YtiibnjceahkngaaGreatDoorWApart
import Derived.Test.YtiibnjceahkngaaGreatDoorWArr
import Derived.Test.YtiibnjceahkngaaGreatDoorWZeros
import Derived.Test.YtiibnjceahkngaaGreatDoorWFoot
import Derived.Test.YtiibnjceahkngaaGreatDoorWKept
import Derived.Test.YtiibnjceahkngaaGreatDoorWShare
import Derived.Test.YtiibnjceahkngaaGreatDoorWN
import Derived.Test.YtiibnjceahkngaaGreatDoorWFootNe
import Derived.Test.YtiibnjceahkngaaGreatDoorWAt
import Derived.Test.YtiibnjceahkngaaGreatDoorWEqStruct
import Derived.Test.YtiibnjceahkngaaGreatDoorWRepsOne
import Derived.Test.YtiibnjceahkngaaGreatDoorWInv
import Derived.Test.YtiibnjceahkngaaGreatDoorWInvWords
import Derived.Test.YtiibnjceahkngaaGreatDoorWGuard
import Derived.Test.YtiibnjceahkngaaGreatDoorWNEv
import Derived.Test.YtiibnjceahkngaaGreatDoorWMore
namespace Go.Proofs.YtiibnjceahkngaaGreatDoor.Q
open Go.RowKit Go.Proofs.YtiibnjceahkngaaGreatDoorW.PrintWords Go.Proofs.YtiibnjceahkngaaGreatDoorW.PrintLast Go.Proofs.YtiibnjceahkngaaGreatDoorW.PrintMore
attribute [local go_sem] max2_int min2_int max_two min_two max_three min_three max_four min_four
set_option linter.unusedVariables false
set_option linter.unusedSimpArgs false

def errW : Option Int → Value
  | none => .nilIface
  | some c => .iface 0 (.int .i64 c)
theorem errW_none : errW none = .nilIface := rfl
theorem errW_some (c : Int) : errW (some c) = .iface 0 (.int .i64 c) := rfl

theorem info5 : (Tryz.prog.info? 5).map (fun i => (i.zero, i.size, i.bytes)) = some (some (.int .u8 0), 1, 1) := by kernel_rfl
theorem info9 : (Tryz.prog.info? 9).map (fun i => (i.zero, i.size, i.bytes)) = some (some (.string ⟨#[]⟩), 1, 16) := by kernel_rfl
-- the values' own types
def rd_L1 (xs : List (List ByteArray)) (i : Int) : (List ByteArray) := xs.getD i.toNat ([] : List ByteArray)
theorem at_L1 {w : World} {A : Option Addr} {n : Nat} {xs : List (List ByteArray)} (h : Kd.C (Kd.slice 9 Kd.string) w A n xs) (i : Int) (h0 : 0 ≤ i) (h1 : i < n) : ∃ ad A0 c0, A = some ad ∧ w.cell? (ad.add i.toNat) = some (.slice A0 (rd_L1 xs i).length c0) ∧ (rd_L1 xs i).length ≤ c0 ∧ Kd.string.C w A0 (rd_L1 xs i).length (rd_L1 xs i) := by
  obtain ⟨ad, c, e, _, hK, hc0⟩ := Kd.C_get h ([] : List ByteArray) i h0 h1
  have hc : ∀ j u, c[j]? = some u → w.cell? (ad.add (i.toNat * 1 + j)) = some u := hc0
  obtain ⟨A0, c0, rfl, l0, g0⟩ := hK
  exact ⟨ad, A0, c0, e, by have hq := hc 0 _ rfl; rwa [Nat.mul_one, Nat.add_zero] at hq, l0, g0⟩

/-- The package-level variable that the library's search reads holds some int. -/
structure GOK (w : World) : Prop where mk :: (out : ∃ m : Int, w.cell? ⟨4, 0, none⟩ = some (.int .i64 m))
theorem GOK.below {w w' : World} (h : GOK w) (b : Below w.heap.size w w') : GOK w' := by
  obtain ⟨m, hm⟩ := h.out
  exact ⟨⟨m, pw_cell_below b hm⟩⟩
theorem GOK.drawn {w w' : World} (h : GOK w) (d : Drawn0 w w') : GOK w' := h.below d.below
theorem bl_total : ∀ a b : List UInt8, (Op.bytesLess a b || a == b) = !(Op.bytesLess b a)
  | [], [] => by simp [Op.bytesLess]
  | [], _ :: _ => by simp [Op.bytesLess]
  | _ :: _, [] => by simp [Op.bytesLess]
  | x :: a, y :: b => by
    have ih := bl_total a b
    simp only [Op.bytesLess]
    by_cases h : x = y
    · subst h
      simpa using ih
    · by_cases h1 : x < y
      · have h2 : ¬ y < x := by intro h3; exact absurd (UInt8.lt_trans h1 h3) (by simp)
        simp [h1, h2, h, Ne.symm h]
      · have h2 : y < x := by
          rcases UInt8.lt_or_lt_of_ne h with h3 | h3
          · exact absurd h3 h1
          · exact h3
        simp [h1, h2, h, Ne.symm h]
theorem bl_leq (t : TypeId) (a b : ByteArray) : binOp .leq t (.string a) (.string b) = pure (.bool (!(Op.bytesLess b.toList a.toList))) := by
  rw [← bl_total]; simp [binOp, Op.stringOp]
theorem bl_gtr (t : TypeId) (a b : ByteArray) : binOp .gtr t (.string a) (.string b) = pure (.bool (Op.bytesLess b.toList a.toList)) := by
  have h := bl_total a.toList b.toList
  have h2 : (Op.bytesLess b.toList a.toList) = !(Op.bytesLess a.toList b.toList || a.toList == b.toList) := by rw [h]; simp
  rw [h2]; simp [binOp, Op.stringOp]
theorem bl_geq (t : TypeId) (a b : ByteArray) : binOp .geq t (.string a) (.string b) = pure (.bool (!(Op.bytesLess a.toList b.toList))) := by
  simp [binOp, Op.stringOp]
/-! A region that draws its order: whatever stays at or above a world. -/
theorem wp_region_inv_lit {P : Program} {id : Nat} {Q : Exit → Act → World → Prop} {a : Act} {w : World} {l : List Oper} {C : World → Prop} (hm : P.follows .mixedOrders = true) (hB : Region.lexB .any l.toArray = true) (hC : C w.drew)
    (h : wpQuiet P l.toArray C (fun a' => ∀ w', C w' → Q .normal a' w') l a) : (Code.region id l.toArray true).wp P Q a w := wp_region_quiet hm hB hC (by simpa using h)
theorem callB {P : Program} {f : FuncId} {args : Array Value} {w W : World} {v : Value} (h : Calls P f args W fun e w' => e = .returned v ∧ Below W.heap.size W w') (hW : Below w.heap.size w W) : Calls P f args W fun e w' => e = .returned v ∧ Below w.heap.size w w' :=
  h.mono fun e w' ⟨he, hb⟩ => ⟨he, below_step hW hb⟩
theorem callD {P : Program} {f : FuncId} {args : Array Value} {w W : World} {v : Value} (h : Calls P f args W fun e w' => e = .returned v ∧ Drawn0 W w') (hW : Below w.heap.size w W) : Calls P f args W fun e w' => e = .returned v ∧ Below w.heap.size w w' :=
  h.mono fun e w' ⟨he, hb⟩ => ⟨he, below_step hW hb.below⟩
theorem cellB {w : World} {a : Addr} {v : Value} (h : w.cell? a = some v) : ∀ W, Below w.heap.size w W → W.cell? a = some v := fun W hW => (hW.cell (World.block_lt_of_cell? w _ h)).trans h
theorem rebase {a b : World} {φ : World → Prop} (h : ∀ W, Below a.heap.size a W → φ W) (hs : Below a.heap.size a b) : ∀ W, Below b.heap.size b W → φ W := fun W hW => h W (below_step hs hW)
theorem R_one {α : Type} {d : Kd α} {e : Nat} {w : World} {base : Nat} {ok : Nat → Prop} {v : Value} {xs : List α} (h : d.R e w base ok v xs) : v.oneCell' = true := by
  obtain ⟨A, c, rfl, _⟩ := Kd.R_reads h
  rfl
theorem run_store_one {P : Program} {w : World} {a : Addr} {v : Value} {m : Mode} (h : v.oneCell' = true) : (store a v m).run P w = stored P w a v m := run_store P w a v m h

end Go.Proofs.YtiibnjceahkngaaGreatDoor.Q
