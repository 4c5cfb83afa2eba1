/- The law FnExactSync holds of the program: for every input that can be read it answers true, and the input reads as before. -/
import Derived.Test.YtlkmjjojjlihaaaRows
import Derived.Test.YtlkmjjojjlihaaaReads
import Derived.Test.YtlkmjjojjlihaaaPFnExactSyncx2
import Derived.Test.YtlkmjjojjlihaaaStatFnExactSync
import Derived.Test.YtlkmjjojjlihaaaPureFnExactSync
import Derived.WalkKit
import Derived.ProofKit
import Derived.OpenShut
import Derived.ShutString
import Derived.ChangeOld
import Derived.Below
import Derived.SizedLaws
import Derived.Carry
namespace Go.Proofs.Ytlkmjjojjlihaaa.fnExactSync
open Go.ChangeShapes Go.WideShapes Go.ChangeAt Go.RowKit Go.Proofs.Ytlkmjjojjlihaaa.Reads Go.Proofs.Ytlkmjjojjlihaaa.PFnExactSync Go.Proofs.YtlkmjjojjlihaaaW.PrintWords
open Go.ChangeMaps (open_string shut_string)
set_option linter.unusedVariables false
theorem own : ownKnob Try.prog.godebug = none := by kernel_rfl
theorem laidOut : laidOutB Try.prog = true := by kernel_rfl
theorem rd32 : Rd Try.prog 32 (Kd.pair (Kd.slice 5 (Kd.int .u8)) (Kd.int .i64)) (fun x => (((x.1).length ≤ maxLen ∧ ∀ a ∈ (x.1), (Lit.int .u8 a).wf = true) ∧ (Lit.int .i64 (x.2)).wf = true)) :=
  Rd.struct Try.underlying32 (RdF.cons (Rd.slice Try.underlying30 (by kernel_rfl) (Rd.int Try.underlying5 (by kernel_rfl))) rfl rfl (RdF.one (Rd.int Try.underlying3 (by kernel_rfl)) rfl)) (by kernel_rfl)
set_option maxRecDepth 100000 in
theorem lifted (os : Os) (started : os.Started) (H : Type) (enc : TypeId × Value → H) :
    ReturnsInHanded {} Try.checked os 12 .any (Rows.fnExactSyncSpec.pre6 enc Try.prog Try.f12 Rows.fnExactSyncRow.domain false) (Rows.fnExactSyncSpec.post enc Try.prog Try.f12 false true false false) := by
  refine returnsInHanded_of_change_sized (C := Try.checked) own started (by kernel_rfl) Try.func12
    (ChangeSpec.witness6 (enc := enc) (C := Try.checked) false ⟨#[], #[.agg #[.slice none 0 0, .int .i64 0]], []⟩ 8 (by kernel_rfl) (by kernel_rfl) (by kernel_rfl) (by kernel_rfl)) ?_
  intro W base args ds gs before hval0 hW hcnd hsz0 _
  have hval : ∀ (j : Nat) t v, Try.f12.params[j]? = some t → args[j]? = some v → Value.okWide Try.prog W .any base t v := hval0
  have hW' := hW
  obtain ⟨p, q, hA0, hV, rfl, hfz, hnd⟩ := hW
  have hA : DataW.TrodAll enc Try.prog W 0 (fun _ => true) true Try.f12.params.toList args.toList ds p := hA0
  rw [Try.params12] at hA hval
  obtain ⟨v0, vs0, d0, ds0, p0, q0, hargs, rfl, rfl, h0, r0⟩ := trodAll_cons hA
  obtain ⟨rfl, rfl, rfl⟩ := trodAll_nil r0
  obtain rfl : args = #[v0] := by cases args; simp_all
  obtain ⟨rfl, rfl⟩ := trodVars_none hV
  have b0 := h0
  have lt0 : ∀ x ∈ p0, x.block < W.heap.size := by obtain ⟨m, hm⟩ := b0; exact DataW.trod_lt m _ _ _ hm
  obtain ⟨cs0, rfl, hz0⟩ := okWide_struct Try.underlying32 (hval 0 32 v0 rfl rfl)
  obtain ⟨fu0, hf0⟩ := h0
  obtain ⟨⟨l0_0, a0_1⟩, hK0, ⟨w0_0, w0_1⟩⟩ := rd32.2 H enc W fu0 _ _ hf0
  obtain ⟨_, _, e0, ⟨A0_0, c0_0, rfl, m0_0, g0_0⟩, rfl⟩ := hK0
  obtain rfl : cs0 = #[.slice A0_0 l0_0.length c0_0, .int .i64 a0_1] := by have z : cs0.toList = _ := e0; exact array_of z
  obtain ⟨k, h⟩ := Pure.FnExactSync l0_0 a0_1 w0_0 w0_1
  refine (laws_FnExactSync.calls k A0_0 c0_0 l0_0 a0_1 true (Aside0.mk rfl) W g0_0 m0_0 h).mono fun e W' ⟨he, bel⟩ => ?_
  subst he
  exact ⟨_, rfl, _, _, _, [], _, [], hW', trodAll_mk1 (shut_bool Try.underlying4 _), (trodAll_cons_mk (Below.trod laidOut (by kernel_rfl) (of_decide_eq_true (by kernel_rfl)) b0 bel lt0) trodAll_mk0), rfl, bel.frame _, fun h => by cases h⟩
theorem over : Rows.fnExactSyncRow.holds Try.pinned (OpenSpec.ofChange Rows.fnExactSyncSpec) :=
  OpenClaim.holds_of_wide 12 Try.f12 rfl rfl rfl rfl rfl rfl rfl ⟨rfl, rfl, rfl, rfl, rfl⟩ rfl rfl rfl rfl rfl (by kernel_rfl) Try.func12 (by kernel_rfl)
    (of_decide_eq_true (by kernel_rfl)) (by unfold Func.isWrapper; first | (rw [if_pos (by decide +kernel)]; kernel_rfl) | (rw [if_neg (by decide +kernel)]; exact ⟨rfl, rfl⟩))
    (fun os started H enc _ => lifted os started H enc)
end Go.Proofs.Ytlkmjjojjlihaaa.fnExactSync
namespace Go.Proofs.Ytlkmjjojjlihaaa
/-- The row, under a short name, for the claim. -/
theorem fnExactSync_holds : Rows.FnExactSyncSaid := fnExactSync.over
end Go.Proofs.Ytlkmjjojjlihaaa
