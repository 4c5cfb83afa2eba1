/- The law FnExactUnder holds of the program: for every input that can be read it answers true, and the input reads as before. -/
import Derived.Test.YtjbkdffimfbdnaaRows
import Derived.Test.YtjbkdffimfbdnaaReads
import Derived.Test.YtjbkdffimfbdnaaPFnExactUnderx3
import Derived.Test.YtjbkdffimfbdnaaStatFnExactUnder
import Derived.Test.YtjbkdffimfbdnaaPureFnExactUnder
import Derived.WalkKit
import Derived.ProofKit
import Derived.OpenShut
import Derived.ShutString
import Derived.ChangeOld
import Derived.Below
import Derived.SizedLaws
import Derived.Carry
namespace Go.Proofs.Ytjbkdffimfbdnaa.fnExactUnder
open Go.ChangeShapes Go.WideShapes Go.ChangeAt Go.RowKit Go.Proofs.Ytjbkdffimfbdnaa.Reads Go.Proofs.Ytjbkdffimfbdnaa.PFnExactUnder Go.Proofs.YtjbkdffimfbdnaaW.PrintWords
open Go.ChangeMaps (open_string shut_string)
set_option linter.unusedVariables false
theorem own : ownKnob Try.prog.godebug = none := by kernel_rfl
theorem laidOut : laidOutB Try.prog = true := by kernel_rfl
theorem rd35 : Rd Try.prog 35 (Kd.pair (Kd.int .i64) (Kd.int .i64)) (fun x => ((Lit.int .i64 (x.1)).wf = true ∧ (Lit.int .i64 (x.2)).wf = true)) := by
  have z := Rd.struct Try.underlying35 (RdF.cons (Rd.int Try.underlying3 (by kernel_rfl)) rfl rfl (RdF.one (Rd.int Try.underlying3 (by kernel_rfl)) rfl)) (by kernel_rfl)
  exact z
set_option maxRecDepth 100000 in
theorem lifted (os : Os) (started : os.Started) (H : Type) (enc : TypeId × Value → H) :
    ReturnsInHanded {} Try.checked os 4 .any (Rows.fnExactUnderSpec.pre6 enc Try.prog Try.f4 Rows.fnExactUnderRow.domain false) (Rows.fnExactUnderSpec.post enc Try.prog Try.f4 false true false false) := by
  refine returnsInHanded_of_change_sized (C := Try.checked) own started (by kernel_rfl) Try.func4
    (ChangeSpec.witness6 (enc := enc) (C := Try.checked) false ⟨#[], #[.agg #[.int .i64 0, .int .i64 0], .int .i64 0, .int .i64 0], []⟩ 8 (by kernel_rfl) (by kernel_rfl) (by kernel_rfl) (by kernel_rfl)) ?_
  intro W base args ds gs before hval0 hW hcnd hsz0 _
  have hval : ∀ (j : Nat) t v, Try.f4.params[j]? = some t → args[j]? = some v → Value.okWide Try.prog W .any base t v := hval0
  have hW' := hW
  obtain ⟨p, q, hA0, hV, rfl, hfz, hnd⟩ := hW
  have hA : DataW.TrodAll enc Try.prog W 0 (fun _ => true) true Try.f4.params.toList args.toList ds p := hA0
  rw [Try.params4] at hA hval
  obtain ⟨v0, vs0, d0, ds0, p0, q0, hargs, rfl, rfl, h0, r0⟩ := trodAll_cons hA
  obtain ⟨v1, vs1, d1, ds1, p1, q1, rfl, rfl, rfl, h1, r1⟩ := trodAll_cons r0
  obtain ⟨v2, vs2, d2, ds2, p2, q2, rfl, rfl, rfl, h2, r2⟩ := trodAll_cons r1
  obtain ⟨rfl, rfl, rfl⟩ := trodAll_nil r2
  obtain rfl : args = #[v0, v1, v2] := by cases args; simp_all
  obtain ⟨rfl, rfl⟩ := trodVars_none hV
  have b0 := h0
  have lt0 : ∀ x ∈ p0, x.block < W.heap.size := by obtain ⟨m, hm⟩ := b0; exact DataW.trod_lt m _ _ _ hm
  obtain ⟨cs0, rfl, hz0⟩ := okWide_struct Try.underlying35 (hval 0 35 v0 rfl rfl)
  obtain ⟨fu0, hf0⟩ := h0
  obtain ⟨⟨a0_0, a0_1⟩, hK0, ⟨w0_0, w0_1⟩⟩ := rd35.2 H enc W fu0 _ _ hf0
  obtain ⟨_, _, e0, rfl, rfl⟩ := hK0
  obtain rfl : cs0 = #[.int .i64 a0_0, .int .i64 a0_1] := by have z : cs0.toList = _ := e0; exact array_of z
  obtain ⟨a1, rfl, rfl, rfl, w1⟩ := open_int Try.underlying3 (hval 1 3 v1 rfl rfl) h1
  obtain ⟨a2, rfl, rfl, rfl, w2⟩ := open_int Try.underlying3 (hval 2 3 v2 rfl rfl) h2
  obtain ⟨k, h⟩ := Pure.FnExactUnder a0_0 a0_1 a1 a2 w0_0 w0_1 w1 w2
  refine (laws_FnExactUnder.calls k a0_0 a0_1 a1 a2 true (Aside0.mk rfl) W h).mono fun e W' ⟨he, bel⟩ => ?_
  subst he
  exact ⟨_, rfl, _, _, _, [], _, [], hW', trodAll_mk1 (shut_bool Try.underlying4 _), (trodAll_cons_mk (Below.trod laidOut (by kernel_rfl) (of_decide_eq_true (by kernel_rfl)) b0 bel lt0) (trodAll_cons_mk (shut_int Try.underlying3 w1) (trodAll_cons_mk (shut_int Try.underlying3 w2) trodAll_mk0))), rfl, bel.frame _, fun h => by cases h⟩
theorem over : Rows.fnExactUnderRow.holds Try.pinned (OpenSpec.ofChange Rows.fnExactUnderSpec) :=
  OpenClaim.holds_of_wide 4 Try.f4 rfl rfl rfl rfl rfl rfl rfl ⟨rfl, rfl, rfl, rfl, rfl⟩ rfl rfl rfl rfl rfl (by kernel_rfl) Try.func4 (by kernel_rfl)
    (of_decide_eq_true (by kernel_rfl)) (by unfold Func.isWrapper; first | (rw [if_pos (by decide +kernel)]; kernel_rfl) | (rw [if_neg (by decide +kernel)]; exact ⟨rfl, rfl⟩))
    (fun os started H enc _ => lifted os started H enc)
end Go.Proofs.Ytjbkdffimfbdnaa.fnExactUnder
namespace Go.Proofs.Ytjbkdffimfbdnaa
/-- The row, under a short name, for the claim. -/
theorem fnExactUnder_holds : Rows.FnExactUnderSaid := fnExactUnder.over
end Go.Proofs.Ytjbkdffimfbdnaa
