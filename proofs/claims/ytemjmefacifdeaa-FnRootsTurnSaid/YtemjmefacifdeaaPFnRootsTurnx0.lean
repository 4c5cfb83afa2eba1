-- By a program of this session, out of the translation (the print of the kit, with turns of its own). Lean checks it.
import Derived.Test.YtemjmefacifdeaaProg
import Derived.Test.YtemjmefacifdeaaIns
import Derived.Below
import Derived.Deep.Draws
import Derived.Deep.AppendLies
import Derived.Maps.AppendAt
import Derived.OwnWalk
import Derived.Laws.BytesArg
import Derived.Laws.MakeOwn
import Derived.Laws.OwnMore
import Derived.Deep.OwnRows
import Derived.Tactics
import Derived.Lib.ConvBytes
import Derived.Laws.Slices
import Derived.WalkKit
import Derived.KernelRfl
import Derived.RowKit3
import Derived.Deep.LoopGhost
import Derived.Deep.QuietTactic
import Derived.BigQuiet
import Derived.WideLaws
import Derived.Deep.DeepCutAuto
import Derived.Deep.CutBlock
import Derived.Deep.RegionHeld3
import Derived.Laws.Rows
import Derived.Lib.AppendStr
import Derived.ArgAppend
import Derived.Laws.IdiomCopy
import Derived.OrdersHeld
import Derived.Laws.BitsLemmas
import Derived.RowKit
import Derived.Test.YtemjmefacifdeaaWWords
import Derived.Test.YtemjmefacifdeaaWLast
import Derived.Test.YtemjmefacifdeaaWTab
import Derived.Test.YtemjmefacifdeaaWFour
import Derived.Test.YtemjmefacifdeaaWQPut
import Derived.Test.YtemjmefacifdeaaWApart
import Derived.Test.YtemjmefacifdeaaWArr
import Derived.Test.YtemjmefacifdeaaWZeros
import Derived.Test.YtemjmefacifdeaaWFoot
import Derived.Test.YtemjmefacifdeaaWKept
import Derived.Test.YtemjmefacifdeaaWShare
import Derived.Test.YtemjmefacifdeaaWN
import Derived.Test.YtemjmefacifdeaaWFootNe
import Derived.Test.YtemjmefacifdeaaWAt
import Derived.Test.YtemjmefacifdeaaWEqStruct
import Derived.Test.YtemjmefacifdeaaWRepsOne
import Derived.Test.YtemjmefacifdeaaWInv
import Derived.Test.YtemjmefacifdeaaWInvWords
import Derived.Test.YtemjmefacifdeaaWGuard
import Derived.Test.YtemjmefacifdeaaWNEv
import Derived.Test.YtemjmefacifdeaaWMore
import Derived.Test.YtemjmefacifdeaaWUp
import Derived.Test.YtemjmefacifdeaaWTiny
namespace Go.Proofs.Ytemjmefacifdeaa.PFnRootsTurn
open Go.RowKit Go.Proofs.YtemjmefacifdeaaW.PrintWords Go.Proofs.YtemjmefacifdeaaW.PrintLast Go.Proofs.YtemjmefacifdeaaW.PrintMore
attribute [local go_sem] max2_int min2_int max_two min_two max_three min_three max_four min_four   -- for this text's walks alone
set_option linter.unusedVariables false
set_option linter.unusedSimpArgs false



-- short words: what is told often
theorem y0_0 {p : Prop} (h : p := by rw [hg]; exact Nat.ne_of_lt (IsS68.lt (show IsS68 w0 _ g s0_0 t134 t135 from by repeat (first | (with_reducible first | exact HI0.out | apply IsS68.alloc | apply IsS68.drewN | apply IsS68.drew | apply IsS68.set_1 | apply IsS68.set_2 | refine IsS68.far ?_ NeI.out _) | exact HI0.out)))) : p := h
theorem y0_1 {p : Prop} (h : p := by rw [hg]; exact Nat.ne_of_gt (IsS68.lt (show IsS68 w0 _ g s0_0 t134 t135 from by repeat (first | (with_reducible first | exact HI0.out | apply IsS68.alloc | apply IsS68.drewN | apply IsS68.drew | apply IsS68.set_1 | apply IsS68.set_2 | refine IsS68.far ?_ NeI.out _) | exact HI0.out)))) : p := h
theorem y0_2 {p : Prop} (h : p := by rw [hg]; exact Nat.ne_of_lt (IsS68.lt (show IsS68 w0 _ g s0_0 s0_1 s0_2 from by repeat (first | (with_reducible first | exact HI0.out | apply IsS68.alloc | apply IsS68.drewN | apply IsS68.drew | apply IsS68.set_1 | apply IsS68.set_2) | exact HI0.out)))) : p := h
theorem y0_3 {p : Prop} (h : p := by rw [hg]; exact Nat.ne_of_gt (IsS68.lt (show IsS68 w0 _ g s0_0 s0_1 s0_2 from by repeat (first | (with_reducible first | exact HI0.out | apply IsS68.alloc | apply IsS68.drewN | apply IsS68.drew | apply IsS68.set_1 | apply IsS68.set_2) | exact HI0.out)))) : p := h
theorem y0_4 {p : Prop} (h : p := by repeat (first | (with_reducible first | exact HI156.out | apply IsS68.alloc | apply IsS68.drewN | apply IsS68.drew | apply IsS68.set_1 | apply IsS68.set_2 | refine IsS68.far ?_ NeI.out _) | exact HI156.out)) : p := h
theorem y0_5 {p : Prop} (h : p := by repeat (first | (with_reducible first | exact HB.out | apply below_alloc | apply pw_below_drewN | apply below_drew1 | refine below_set ?_ (IsS68.ge HI156.out) | refine below_set ?_ GeI.out) | exact HB.out)) : p := h
theorem y0_6 {p : Prop} (h : p := by repeat (first | (with_reducible first | exact HB.out | apply below_alloc | apply pw_below_drewN | apply below_drew1 | refine below_set ?_ (IsS68.ge HI0.out) | refine below_set ?_ GeI.out) | exact HB.out)) : p := h
theorem y0_7 {p : Prop} (h : p := by repeat (first | (with_reducible first | exact HI0.out | apply IsS68.alloc | apply IsS68.drewN | apply IsS68.drew | apply IsS68.set_1 | apply IsS68.set_2 | refine IsS68.far ?_ NeI.out _) | exact HI0.out)) : p := h
theorem y0_8 {p : Prop} (h : p := by repeat (first | (with_reducible first | exact HB.out | apply below_alloc | apply pw_below_drewN | apply below_drew1 | refine below_set ?_ (IsS68.ge HI0.out)) | exact HB.out)) : p := h
theorem y0_9 {p : Prop} (h : p := by repeat (first | (with_reducible first | exact HI0.out | apply IsS68.alloc | apply IsS68.drewN | apply IsS68.drew | apply IsS68.set_1 | apply IsS68.set_2) | exact HI0.out)) : p := h
theorem y0_10 {p : Prop} (h : p := by first | rfl | (simp [errW_none, errW_some] <;> rfl) | (simp [*, errW_none, errW_some] <;> rfl)) : p := h
theorem y0_11 {p : Prop} (h : p := by rw [hg]; exact (keep_size (w := w) (g := g) (row := none) (hI HK.out))) : p := h
theorem y0_12 {p : Prop} (h : p := by repeat (first | exact Drawn0.refl _ | apply Drawn0.step)) : p := h
theorem y0_13 {p : Prop} (h : p := by first | (with_reducible assumption) | assumption) : p := h
theorem y0_14 {p : Prop} (h : p := by first | rfl | (simp; done) | (simp [*]; done)) : p := h
def errW : Option Int → Value
 | none => .nilIface
 | some c => .iface 0 (.int .i64 c)
theorem errW_none : errW none = .nilIface := rfl
theorem errW_some (c : Int) : errW (some c) = .iface 0 (.int .i64 c) := rfl

theorem info3 : (Try.prog.info? 3).map (fun i => (i.zero, i.size, i.bytes)) = some (some (.int .i64 0), 1, 8) := by kernel_rfl
-- the values' own types
def rd_L2 (xs : List (List Int)) (i : Int) : (List Int) := xs.getD i.toNat ([] : List Int)
theorem at_L2 {w : World} {A : Option Addr} {n : Nat} {xs : List (List Int)} (h : Kd.C (Kd.slice 3 (Kd.int .i64)) w A n xs) (i : Int) (h0 : 0 ≤ i) (h1 : i < n) : ∃ ad A0 c0, A = some ad ∧ w.cell? (ad.add i.toNat) = some (.slice A0 (rd_L2 xs i).length c0) ∧ (rd_L2 xs i).length ≤ c0 ∧ (Kd.int .i64).C w A0 (rd_L2 xs i).length (rd_L2 xs i) := by
 obtain ⟨ad, c, e, _, hK, hc0⟩ := Kd.C_get h ([] : List Int) i h0 h1; have hc : ∀ j u, c[j]? = some u → w.cell? (ad.add (i.toNat * 1 + j)) = some u := hc0; obtain ⟨A0, c0, rfl, l0, g0⟩ := hK
 exact ⟨ad, A0, c0, e, by have hq := hc 0 _ rfl; rwa [Nat.mul_one, Nat.add_zero] at hq, l0, g0⟩

end Go.Proofs.Ytemjmefacifdeaa.PFnRootsTurn
