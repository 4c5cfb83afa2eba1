/- The law FnExactPartJoin holds of the program: for every input that can be read it answers true, and the input reads as before. -/
import Derived.Test.YtemjmefacifdeaaRows
import Derived.Test.YtemjmefacifdeaaReads
import Derived.Test.YtemjmefacifdeaaPFnExactPartJoinx5
import Derived.Test.YtemjmefacifdeaaStatFnExactPartJoin
import Derived.Test.YtemjmefacifdeaaPureFnExactPartJoin
import Derived.WalkKit
import Derived.ProofKit
import Derived.OpenShut
import Derived.ShutString
import Derived.ChangeOld
import Derived.Below
import Derived.SizedLaws
import Derived.Carry
namespace Go.Proofs.Ytemjmefacifdeaa.fnExactPartJoin
open Go.ChangeShapes Go.WideShapes Go.ChangeAt Go.RowKit Go.Proofs.Ytemjmefacifdeaa.Reads Go.Proofs.Ytemjmefacifdeaa.PFnExactPartJoin Go.Proofs.YtemjmefacifdeaaW.PrintWords
open Go.ChangeMaps (open_string shut_string)
set_option linter.unusedVariables false
theorem own : ownKnob Try.prog.godebug = none := by kernel_rfl
theorem laidOut : laidOutB Try.prog = true := by kernel_rfl
theorem rd24 : Rd Try.prog 24 (Kd.pair (Kd.int .i64) (Kd.pair Kd.string (Kd.slice 3 (Kd.int .i64)))) (fun x => ((Lit.int .i64 (x.1)).wf = true ∧ ((x.2.1).size ≤ maxLen ∧ ((x.2.2).length ≤ maxLen ∧ ∀ a ∈ (x.2.2), (Lit.int .i64 a).wf = true)))) := by
  have z := Rd.struct Try.underlying24 (RdF.cons (Rd.int Try.underlying3 (by kernel_rfl)) rfl rfl (RdF.cons (Rd.string Try.underlying9 (by kernel_rfl)) rfl rfl (RdF.one (Rd.slice Try.underlying22 (by kernel_rfl) (Rd.int Try.underlying3 (by kernel_rfl))) rfl))) (by kernel_rfl)
  exact z
set_option maxRecDepth 100000 in
theorem lifted (os : Os) (started : os.Started) (H : Type) (enc : TypeId × Value → H) :
    ReturnsInHanded {} Try.checked os 3 .any (Rows.fnExactPartJoinSpec.pre6 enc Try.prog Try.f3 Rows.fnExactPartJoinRow.domain false) (Rows.fnExactPartJoinSpec.post enc Try.prog Try.f3 false true false false) := by
  refine returnsInHanded_of_change_sized (C := Try.checked) own started (by kernel_rfl) Try.func3
    (ChangeSpec.witness6 (enc := enc) (C := Try.checked) false ⟨#[], #[.agg #[.int .i64 0, .string ByteArray.empty, .slice none 0 0], .agg #[.int .i64 0, .string ByteArray.empty, .slice none 0 0]], []⟩ 8 (by kernel_rfl) (by kernel_rfl) (by kernel_rfl) (by kernel_rfl)) ?_
  intro W base args ds gs before hval0 hW hcnd hsz0 _
  have hval : ∀ (j : Nat) t v, Try.f3.params[j]? = some t → args[j]? = some v → Value.okWide Try.prog W .any base t v := hval0
  have hW' := hW
  obtain ⟨p, q, hA0, hV, rfl, hfz, hnd⟩ := hW
  have hA : DataW.TrodAll enc Try.prog W 0 (fun _ => true) true Try.f3.params.toList args.toList ds p := hA0
  rw [Try.params3] at hA hval
  obtain ⟨v0, vs0, d0, ds0, p0, q0, hargs, rfl, rfl, h0, r0⟩ := trodAll_cons hA
  obtain ⟨v1, vs1, d1, ds1, p1, q1, rfl, rfl, rfl, h1, r1⟩ := trodAll_cons r0
  obtain ⟨rfl, rfl, rfl⟩ := trodAll_nil r1
  obtain rfl : args = #[v0, v1] := by cases args; simp_all
  obtain ⟨rfl, rfl⟩ := trodVars_none hV
  have b0 := h0
  have lt0 : ∀ x ∈ p0, x.block < W.heap.size := by obtain ⟨m, hm⟩ := b0; exact DataW.trod_lt m _ _ _ hm
  obtain ⟨cs0, rfl, hz0⟩ := okWide_struct Try.underlying24 (hval 0 24 v0 rfl rfl)
  obtain ⟨fu0, hf0⟩ := h0
  obtain ⟨⟨a0_0, ⟨a0_1, l0_2⟩⟩, hK0, ⟨w0_0, ⟨w0_1, w0_2⟩⟩⟩ := rd24.2 H enc W fu0 _ _ hf0
  obtain ⟨_, _, e0, rfl, ⟨_, _, rfl, rfl, ⟨A0_2, c0_2, rfl, m0_2, g0_2⟩⟩⟩ := hK0
  obtain rfl : cs0 = #[.int .i64 a0_0, .string a0_1, .slice A0_2 l0_2.length c0_2] := by have z : cs0.toList = _ := e0; exact array_of z
  have b1 := h1
  have lt1 : ∀ x ∈ p1, x.block < W.heap.size := by obtain ⟨m, hm⟩ := b1; exact DataW.trod_lt m _ _ _ hm
  obtain ⟨cs1, rfl, hz1⟩ := okWide_struct Try.underlying24 (hval 1 24 v1 rfl rfl)
  obtain ⟨fu1, hf1⟩ := h1
  obtain ⟨⟨a1_0, ⟨a1_1, l1_2⟩⟩, hK1, ⟨w1_0, ⟨w1_1, w1_2⟩⟩⟩ := rd24.2 H enc W fu1 _ _ hf1
  obtain ⟨_, _, e1, rfl, ⟨_, _, rfl, rfl, ⟨A1_2, c1_2, rfl, m1_2, g1_2⟩⟩⟩ := hK1
  obtain rfl : cs1 = #[.int .i64 a1_0, .string a1_1, .slice A1_2 l1_2.length c1_2] := by have z : cs1.toList = _ := e1; exact array_of z
  obtain ⟨k, h⟩ := Pure.FnExactPartJoin a0_0 a0_1 l0_2 a1_0 a1_1 l1_2 w0_0 w0_1 w0_2 w1_0 w1_1 w1_2
  refine (laws_FnExactPartJoin.calls k a0_0 a0_1 A0_2 c0_2 l0_2 a1_0 a1_1 A1_2 c1_2 l1_2 true (Aside0.mk rfl) W g0_2 m0_2 g1_2 m1_2 h).mono fun e W' ⟨he, bel⟩ => ?_
  subst he
  exact ⟨_, rfl, _, _, _, [], _, [], hW', trodAll_mk1 (shut_bool Try.underlying4 _), (trodAll_cons_mk (Below.trod laidOut (by kernel_rfl) (of_decide_eq_true (by kernel_rfl)) b0 bel lt0) (trodAll_cons_mk (Below.trod laidOut (by kernel_rfl) (of_decide_eq_true (by kernel_rfl)) b1 bel lt1) trodAll_mk0)), rfl, bel.frame _, fun h => by cases h⟩
theorem over : Rows.fnExactPartJoinRow.holds Try.pinned (OpenSpec.ofChange Rows.fnExactPartJoinSpec) :=
  OpenClaim.holds_of_wide 3 Try.f3 rfl rfl rfl rfl rfl rfl rfl ⟨rfl, rfl, rfl, rfl, rfl⟩ rfl rfl rfl rfl rfl (by kernel_rfl) Try.func3 (by kernel_rfl)
    (of_decide_eq_true (by kernel_rfl)) (by unfold Func.isWrapper; first | (rw [if_pos (by decide +kernel)]; kernel_rfl) | (rw [if_neg (by decide +kernel)]; exact ⟨rfl, rfl⟩))
    (fun os started H enc _ => lifted os started H enc)
end Go.Proofs.Ytemjmefacifdeaa.fnExactPartJoin
namespace Go.Proofs.Ytemjmefacifdeaa
/-- The row, under a short name, for the claim. -/
theorem fnExactPartJoin_holds : Rows.FnExactPartJoinSaid := fnExactPartJoin.over
end Go.Proofs.Ytemjmefacifdeaa
