/- The law FnExactTableDrop holds of the program: for every input that can be read it answers true, and the input reads as before. -/
import Derived.Test.YtnpbopadajbopaaRows
import Derived.Test.YtnpbopadajbopaaReads
import Derived.Test.YtnpbopadajbopaaPFnExactTableDropx4
import Derived.Test.YtnpbopadajbopaaStatFnExactTableDrop
import Derived.Test.YtnpbopadajbopaaPureFnExactTableDrop
import Derived.WalkKit
import Derived.ProofKit
import Derived.OpenShut
import Derived.ShutString
import Derived.ChangeOld
import Derived.Below
import Derived.SizedLaws
import Derived.Carry
namespace Go.Proofs.Ytnpbopadajbopaa.fnExactTableDrop
open Go.ChangeShapes Go.WideShapes Go.ChangeAt Go.RowKit Go.Proofs.Ytnpbopadajbopaa.Reads Go.Proofs.Ytnpbopadajbopaa.PFnExactTableDrop Go.Proofs.YtnpbopadajbopaaW.PrintWords
open Go.ChangeMaps (open_string shut_string)
set_option linter.unusedVariables false
theorem own : ownKnob Try.prog.godebug = none := by kernel_rfl
theorem laidOut : laidOutB Try.prog = true := by kernel_rfl
theorem rd38k : Rd Try.prog 38 k38 ok38 := by
  have z := Rd.iso (Rd.struct Try.underlying38 (RdF.cons (Rd.int Try.underlying3 (by kernel_rfl)) rfl rfl (RdF.cons (Rd.string Try.underlying9 (by kernel_rfl)) rfl rfl (RdF.one (Rd.slice Try.underlying24 (by kernel_rfl) (Rd.int Try.underlying3 (by kernel_rfl))) rfl))) (by kernel_rfl)) (fun x : S38 => (x.f0, x.f1, x.f2)) (fun a => (⟨a.1, a.2.1, a.2.2⟩ : S38)) (fun _ => rfl)
  exact z
set_option maxRecDepth 100000 in
theorem lifted (os : Os) (started : os.Started) (H : Type) (enc : TypeId × Value → H) :
    ReturnsInHanded {} Try.checked os 4 .any (Rows.fnExactTableDropSpec.pre6 enc Try.prog Try.f4 Rows.fnExactTableDropRow.domain false) (Rows.fnExactTableDropSpec.post enc Try.prog Try.f4 false true false false) := by
  refine returnsInHanded_of_change_sized (C := Try.checked) own started (by kernel_rfl) Try.func4
    (ChangeSpec.witness6 (enc := enc) (C := Try.checked) false ⟨#[], #[.slice none 0 0, .int .i64 0], []⟩ 8 (by kernel_rfl) (by kernel_rfl) (by kernel_rfl) (by kernel_rfl)) ?_
  intro W base args ds gs before hval0 hW hcnd hsz0 _
  have hval : ∀ (j : Nat) t v, Try.f4.params[j]? = some t → args[j]? = some v → Value.okWide Try.prog W .any base t v := hval0
  have hW' := hW
  obtain ⟨p, q, hA0, hV, rfl, hfz, hnd⟩ := hW
  have hA : DataW.TrodAll enc Try.prog W 0 (fun _ => true) true Try.f4.params.toList args.toList ds p := hA0
  rw [Try.params4] at hA hval
  obtain ⟨v0, vs0, d0, ds0, p0, q0, hargs, rfl, rfl, h0, r0⟩ := trodAll_cons hA
  obtain ⟨v1, vs1, d1, ds1, p1, q1, rfl, rfl, rfl, h1, r1⟩ := trodAll_cons r0
  obtain ⟨rfl, rfl, rfl⟩ := trodAll_nil r1
  obtain rfl : args = #[v0, v1] := by cases args; simp_all
  obtain ⟨rfl, rfl⟩ := trodVars_none hV
  have b0 := h0
  have lt0 : ∀ x ∈ p0, x.block < W.heap.size := by obtain ⟨m, hm⟩ := b0; exact DataW.trod_lt m _ _ _ hm
  obtain ⟨aa0, len0, cap0, rfl⟩ := okWide_slice Try.underlying22 (hval 0 22 v0 rfl rfl)
  obtain ⟨fu0, hf0⟩ := h0
  obtain ⟨l0, ⟨A0, c0, e0, m0, g0⟩, w0⟩ := (Rd.slice Try.underlying22 (by kernel_rfl) rd38k).2 H enc W fu0 _ _ hf0
  obtain ⟨rfl, rfl, rfl⟩ : aa0 = A0 ∧ len0 = l0.length ∧ cap0 = c0 := by simpa [Value.cells] using e0
  obtain ⟨a1, rfl, rfl, rfl, w1⟩ := open_int Try.underlying3 (hval 1 3 v1 rfl rfl) h1
  obtain ⟨k, h⟩ := Pure.FnExactTableDrop l0 a1 w0 w1
  refine (laws_FnExactTableDrop.calls k aa0 cap0 l0 a1 true (Aside0.mk rfl) W g0 m0 h).mono fun e W' ⟨he, bel⟩ => ?_
  subst he
  exact ⟨_, rfl, _, _, _, [], _, [], hW', trodAll_mk1 (shut_bool Try.underlying4 _), (trodAll_cons_mk (Below.trod laidOut (by kernel_rfl) (of_decide_eq_true (by kernel_rfl)) b0 bel lt0) (trodAll_cons_mk (shut_int Try.underlying3 w1) trodAll_mk0)), rfl, bel.frame _, fun h => by cases h⟩
theorem over : Rows.fnExactTableDropRow.holds Try.pinned (OpenSpec.ofChange Rows.fnExactTableDropSpec) :=
  OpenClaim.holds_of_wide 4 Try.f4 rfl rfl rfl rfl rfl rfl rfl ⟨rfl, rfl, rfl, rfl, rfl⟩ rfl rfl rfl rfl rfl (by kernel_rfl) Try.func4 (by kernel_rfl)
    (of_decide_eq_true (by kernel_rfl)) (by unfold Func.isWrapper; first | (rw [if_pos (by decide +kernel)]; kernel_rfl) | (rw [if_neg (by decide +kernel)]; exact ⟨rfl, rfl⟩))
    (fun os started H enc _ => lifted os started H enc)
end Go.Proofs.Ytnpbopadajbopaa.fnExactTableDrop
namespace Go.Proofs.Ytnpbopadajbopaa
/-- The row, under a short name, for the claim. -/
theorem fnExactTableDrop_holds : Rows.FnExactTableDropSaid := fnExactTableDrop.over
end Go.Proofs.Ytnpbopadajbopaa
