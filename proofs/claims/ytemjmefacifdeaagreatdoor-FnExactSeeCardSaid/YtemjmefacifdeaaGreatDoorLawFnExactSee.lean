/- The law FnExactSee holds of the program: for every input that can be read it answers true, and the input reads as before. -/
import Derived.Test.YtemjmefacifdeaaGreatDoorRows
import Derived.Test.YtemjmefacifdeaaGreatDoorReads
import Derived.Test.YtemjmefacifdeaaGreatDoorPFnExactSeex17
import Derived.Test.YtemjmefacifdeaaGreatDoorStatFnExactSee
import Derived.Test.YtemjmefacifdeaaGreatDoorPureFnExactSee
import Derived.Test.YtemjmefacifdeaaGreatDoorLaid
import Derived.WalkKit
import Derived.ProofKit
import Derived.OpenShut
import Derived.ShutString
import Derived.ChangeOld
import Derived.Below
import Derived.SizedLaws
import Derived.Carry
namespace Go.Proofs.YtemjmefacifdeaaGreatDoor.fnExactSee
open Go.ChangeShapes Go.WideShapes Go.ChangeAt Go.RowKit Go.Proofs.YtemjmefacifdeaaGreatDoor.Reads Go.Proofs.YtemjmefacifdeaaGreatDoor.PFnExactSee Go.Proofs.YtemjmefacifdeaaGreatDoorW.PrintWords
open Go.ChangeMaps (open_string shut_string)
set_option linter.unusedVariables false
theorem own : ownKnob Tryz.prog.godebug = none := by kernel_rfl
theorem laidOut : laidOutB Tryz.prog = true := by kernel_rfl
theorem rd23 : Rd Tryz.prog 23 (Kd.pair (Kd.int .i64) (Kd.int .i64)) (fun x => ((Lit.int .i64 (x.1)).wf = true ∧ (Lit.int .i64 (x.2)).wf = true)) := by
  have z := Rd.struct Tryz.underlying23 (RdF.cons (Rd.int Tryz.underlying3 (by kernel_rfl)) rfl rfl (RdF.one (Rd.int Tryz.underlying3 (by kernel_rfl)) rfl)) (by kernel_rfl)
  exact z
theorem rd26 : Rd Tryz.prog 26 (Kd.pair (Kd.int .i64) (Kd.pair Kd.string (Kd.slice 3 (Kd.int .i64)))) (fun x => ((Lit.int .i64 (x.1)).wf = true ∧ ((x.2.1).size ≤ maxLen ∧ ((x.2.2).length ≤ maxLen ∧ ∀ a ∈ (x.2.2), (Lit.int .i64 a).wf = true)))) := by
  have z := Rd.struct Tryz.underlying26 (RdF.cons (Rd.int Tryz.underlying3 (by kernel_rfl)) rfl rfl (RdF.cons (Rd.string Tryz.underlying9 (by kernel_rfl)) rfl rfl (RdF.one (Rd.slice Tryz.underlying24 (by kernel_rfl) (Rd.int Tryz.underlying3 (by kernel_rfl))) rfl))) (by kernel_rfl)
  exact z
theorem rd28 : Rd Tryz.prog 28 (Kd.pair (Kd.int .i64) (Kd.pair (Kd.int .i64) (Kd.pair (Kd.pair (Kd.int .i64) (Kd.pair Kd.string (Kd.slice 3 (Kd.int .i64)))) Kd.string))) (fun x => ((Lit.int .i64 (x.1)).wf = true ∧ ((Lit.int .i64 (x.2.1)).wf = true ∧ (((Lit.int .i64 ((x.2.2.1).1)).wf = true ∧ (((x.2.2.1).2.1).size ≤ maxLen ∧ (((x.2.2.1).2.2).length ≤ maxLen ∧ ∀ a ∈ ((x.2.2.1).2.2), (Lit.int .i64 a).wf = true))) ∧ (x.2.2.2).size ≤ maxLen)))) := by
  have z := Rd.struct Tryz.underlying28 (RdF.cons (Rd.int Tryz.underlying3 (by kernel_rfl)) rfl rfl (RdF.cons (Rd.int Tryz.underlying3 (by kernel_rfl)) rfl rfl (RdF.cons rd26 rfl rfl (RdF.one (Rd.string Tryz.underlying9 (by kernel_rfl)) rfl)))) (by kernel_rfl)
  exact z
set_option maxRecDepth 100000 in
theorem contract (H : Type) (enc : TypeId × Value → H) (W : World) (base : Nat) (args : Array Value) (ds gs : List (DataW H)) (before : List MemPlace)
    (hval0 : ∀ (j : Nat) t v, Tryz.f4.params[j]? = some t → args[j]? = some v → Value.okWide Tryz.prog W .any base t v)
    (hW : DataW.Whole enc Tryz.prog Tryz.f4.params.toList Rows.fnExactSeeSpec.vars false W args.toList ds gs before) (hGl : Glob W) :
    Calls Tryz.prog 4 args W fun e W' => ∃ v, e = .returned v ∧ Rows.fnExactSeeSpec.post enc Tryz.prog Tryz.f4 false true false false W args v W' := by
  have hval : ∀ (j : Nat) t v, Tryz.f4.params[j]? = some t → args[j]? = some v → Value.okWide Tryz.prog W .any base t v := hval0
  have hW' := hW
  obtain ⟨p, q, hA0, hV, rfl, hfz, hnd⟩ := hW
  have hA : DataW.TrodAll enc Tryz.prog W 0 (fun _ => true) true Tryz.f4.params.toList args.toList ds p := hA0
  rw [Tryz.params4] at hA hval
  obtain ⟨v0, vs0, d0, ds0, p0, q0, hargs, rfl, rfl, h0, r0⟩ := trodAll_cons hA
  obtain ⟨v1, vs1, d1, ds1, p1, q1, rfl, rfl, rfl, h1, r1⟩ := trodAll_cons r0
  obtain ⟨v2, vs2, d2, ds2, p2, q2, rfl, rfl, rfl, h2, r2⟩ := trodAll_cons r1
  obtain ⟨rfl, rfl, rfl⟩ := trodAll_nil r2
  obtain rfl : args = #[v0, v1, v2] := by cases args; simp_all
  obtain ⟨rfl, rfl⟩ := trodVars_none hV
  have b0 := h0
  have lt0 : ∀ x ∈ p0, x.block < W.heap.size := by obtain ⟨m, hm⟩ := b0; exact DataW.trod_lt m _ _ _ hm
  obtain ⟨cs0, rfl, hz0⟩ := okWide_struct Tryz.underlying23 (hval 0 23 v0 rfl rfl)
  obtain ⟨fu0, hf0⟩ := h0
  obtain ⟨⟨a0_0, a0_1⟩, hK0, ⟨w0_0, w0_1⟩⟩ := rd23.2 H enc W fu0 _ _ hf0
  obtain ⟨_, _, e0, rfl, rfl⟩ := hK0
  obtain rfl : cs0 = #[.int .i64 a0_0, .int .i64 a0_1] := by have z : cs0.toList = _ := e0; exact array_of z
  have b1 := h1
  have lt1 : ∀ x ∈ p1, x.block < W.heap.size := by obtain ⟨m, hm⟩ := b1; exact DataW.trod_lt m _ _ _ hm
  obtain ⟨cs1, rfl, hz1⟩ := okWide_struct Tryz.underlying28 (hval 1 28 v1 rfl rfl)
  obtain ⟨fu1, hf1⟩ := h1
  obtain ⟨⟨a1_0, ⟨a1_1, ⟨⟨a1_2, ⟨a1_3, l1_4⟩⟩, a1_5⟩⟩⟩, hK1, ⟨w1_0, ⟨w1_1, ⟨⟨w1_2, ⟨w1_3, w1_4⟩⟩, w1_5⟩⟩⟩⟩ := rd28.2 H enc W fu1 _ _ hf1
  obtain ⟨_, _, e1, rfl, ⟨_, _, rfl, rfl, ⟨_, _, rfl, ⟨_, _, rfl, rfl, ⟨_, _, rfl, rfl, ⟨A1_4, c1_4, rfl, m1_4, g1_4⟩⟩⟩, rfl⟩⟩⟩ := hK1
  obtain rfl : cs1 = #[.int .i64 a1_0, .int .i64 a1_1, .int .i64 a1_2, .string a1_3, .slice A1_4 l1_4.length c1_4, .string a1_5] := by have z : cs1.toList = _ := e1; exact array_of z
  have b2 := h2
  have lt2 : ∀ x ∈ p2, x.block < W.heap.size := by obtain ⟨m, hm⟩ := b2; exact DataW.trod_lt m _ _ _ hm
  obtain ⟨cs2, rfl, hz2⟩ := okWide_struct Tryz.underlying26 (hval 2 26 v2 rfl rfl)
  obtain ⟨fu2, hf2⟩ := h2
  obtain ⟨⟨a2_0, ⟨a2_1, l2_2⟩⟩, hK2, ⟨w2_0, ⟨w2_1, w2_2⟩⟩⟩ := rd26.2 H enc W fu2 _ _ hf2
  obtain ⟨_, _, e2, rfl, ⟨_, _, rfl, rfl, ⟨A2_2, c2_2, rfl, m2_2, g2_2⟩⟩⟩ := hK2
  obtain rfl : cs2 = #[.int .i64 a2_0, .string a2_1, .slice A2_2 l2_2.length c2_2] := by have z : cs2.toList = _ := e2; exact array_of z
  obtain ⟨k, h⟩ := Pure.FnExactSee a0_0 a0_1 a1_0 a1_1 a1_2 a1_3 l1_4 a1_5 a2_0 a2_1 l2_2 w0_0 w0_1 w1_0 w1_1 w1_2 w1_3 w1_4 w1_5 w2_0 w2_1 w2_2
  refine (laws_FnExactSee.calls k a0_0 a0_1 a1_0 a1_1 a1_2 a1_3 A1_4 c1_4 l1_4 a1_5 a2_0 a2_1 A2_2 c2_2 l2_2 true (Aside0.mk rfl) W g1_4 m1_4 g2_2 m2_2 h hGl).mono fun e W' ⟨he, bel⟩ => ?_
  subst he
  exact ⟨_, rfl, _, _, _, [], _, [], hW', trodAll_mk1 (shut_bool Tryz.underlying4 _), (trodAll_cons_mk (Below.trod laidOut (by kernel_rfl) (of_decide_eq_true (by kernel_rfl)) b0 bel lt0) (trodAll_cons_mk (Below.trod laidOut (by kernel_rfl) (of_decide_eq_true (by kernel_rfl)) b1 bel lt1) (trodAll_cons_mk (Below.trod laidOut (by kernel_rfl) (of_decide_eq_true (by kernel_rfl)) b2 bel lt2) trodAll_mk0))), rfl, bel.frame _, fun h => by cases h⟩
set_option maxRecDepth 100000 in
theorem laid_met (os : Os) : laidMet Tryz.prog Rows.fnExactSeeRow.laid ((Laid.laidWorld os).forCall (fun _ _ => 0) ⟨#[], #[.agg #[.int .i64 0, .int .i64 0], .agg #[.int .i64 0, .int .i64 0, .int .i64 0, .string ByteArray.empty, .slice none 0 0, .string ByteArray.empty], .agg #[.int .i64 0, .string ByteArray.empty, .slice none 0 0]], []⟩).memory :=
  laidMet_of_run' 8 (by kernel_rfl) (by kernel_rfl)
theorem reads (os : Os) {H : Type} (enc : TypeId × Value → H) : ∃ places, DataW.whole enc Tryz.prog ((Laid.laidWorld os).forCall (fun _ _ => 0) ⟨#[], #[.agg #[.int .i64 0, .int .i64 0], .agg #[.int .i64 0, .int .i64 0, .int .i64 0, .string ByteArray.empty, .slice none 0 0, .string ByteArray.empty], .agg #[.int .i64 0, .string ByteArray.empty, .slice none 0 0]], []⟩).memory Tryz.f4.params.toList Rows.fnExactSeeSpec.vars false (#[.agg #[.int .i64 0, .int .i64 0], .agg #[.int .i64 0, .int .i64 0, .int .i64 0, .string ByteArray.empty, .slice none 0 0, .string ByteArray.empty], .agg #[.int .i64 0, .string ByteArray.empty, .slice none 0 0]] : Array Value).toList 8 = some ([.agg [.lit (.int .i64 0), .lit (.int .i64 0)], .agg [.lit (.int .i64 0), .lit (.int .i64 0), .agg [.lit (.int .i64 0), .lit (.string []), .nil], .lit (.string [])], .agg [.lit (.int .i64 0), .lit (.string []), .nil]], [], places) :=
  ⟨[], by kernel_rfl⟩
set_option maxRecDepth 100000 in
theorem lifted (os : Os) (started : os.Started) (H : Type) (enc : TypeId × Value → H) (F : Stop.Interp) :
    ReturnsInHanded {} Tryz.checked os 4 .any ((OpenSpec.ofChange Rows.fnExactSeeSpec).preRow enc Tryz.prog Tryz.f4 Rows.fnExactSeeRow.domain false Rows.fnExactSeeRow.laid) (((OpenSpec.ofChange Rows.fnExactSeeSpec).at F).post enc Tryz.prog Tryz.f4 false true false false) := by
  obtain ⟨places, hx⟩ := reads os enc
  refine returnsInHanded_of_row (C := Tryz.checked) (s := OpenSpec.ofChange Rows.fnExactSeeSpec) own started (by kernel_rfl) Tryz.func4
    (witness_row_at (enc := enc) (C := Tryz.checked) false (Laid.laidWorld os) #[.agg #[.int .i64 0, .int .i64 0], .agg #[.int .i64 0, .int .i64 0, .int .i64 0, .string ByteArray.empty, .slice none 0 0, .string ByteArray.empty], .agg #[.int .i64 0, .string ByteArray.empty, .slice none 0 0]] rfl (by kernel_rfl) (by kernel_rfl) (by kernel_rfl)
      (OpenSpec.preRow_of_cond 8 hx (by kernel_rfl) (fun k hk => by cases hk) (by kernel_rfl) (laid_met os))) ?_
  intro W base args ds gs before hval hW _ _ _ hL hS _
  exact contract H enc W base args ds gs before hval hW (Laid.glob hL hS)
theorem said : Rows.FnExactSeeSaid :=
  OpenClaim.holds_of_cond 4 Tryz.f4 rfl rfl rfl rfl rfl rfl rfl ⟨rfl, rfl, rfl, rfl, rfl⟩ rfl rfl rfl rfl rfl (by kernel_rfl) Tryz.func4 (by kernel_rfl)
    (of_decide_eq_true (by kernel_rfl)) (by unfold Func.isWrapper; first | (rw [if_pos (by decide +kernel)]; kernel_rfl) | (rw [if_neg (by decide +kernel)]; exact ⟨rfl, rfl⟩))
    (fun os started H enc _ F => by rw [OpenClaim.pre_eq_preRow]; exact lifted os started H enc F)
theorem plain (f : FuncId) (fn : Func) (hf : Tryz.pinned.checked.prog.funcNamed "loop.example/g00448/laws.FnExactSee" = some f) (hfn : Tryz.pinned.checked.prog.funcs[f]? = some fn) :
    false = Tryz.pinned.checked.prog.looks [] ∧ ∀ (j : Nat) t, fn.params[j]? = some t → Tryz.pinned.checked.prog.wantsStandIn t = false := by
  obtain rfl : f = 4 := Option.some.inj ((show Tryz.prog.funcNamed "loop.example/g00448/laws.FnExactSee" = some 4 by kernel_rfl).symm.trans hf) |>.symm
  obtain rfl : fn = Tryz.f4 := (Option.some.inj (Tryz.func4.symm.trans hfn)).symm
  refine ⟨by kernel_rfl, fun j t ht => ?_⟩
  have hall : (Tryz.f4.params.toList.all fun t => !Tryz.prog.wantsStandIn t) = true := by kernel_rfl
  have hm := List.all_eq_true.1 hall t (by have := Array.mem_of_getElem? ht; simpa using this)
  exact (Bool.not_eq_true' _).mp hm
end Go.Proofs.YtemjmefacifdeaaGreatDoor.fnExactSee
namespace Go.Proofs.YtemjmefacifdeaaGreatDoor
/-- The card. -/
theorem fnExactSee_holds : Rows.FnExactSeeCardSaid :=
  Claim7.holds_tied_plain_at .later [] _ _ _ _ fnExactSee.said (fun _ h => by cases h) (by kernel_rfl) (fun _ h => by cases h) fnExactSee_row_tie rfl ⟨rfl, rfl⟩ (by kernel_rfl) rfl fnExactSee.plain (by kernel_rfl)
end Go.Proofs.YtemjmefacifdeaaGreatDoor
