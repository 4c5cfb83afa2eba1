/- The law FnExactNoteBytes holds of the program: for every input that can be read it answers true, and the input reads as before. -/
import Derived.Test.YtemjmefacifdeaaDoorRows
import Derived.Test.YtemjmefacifdeaaDoorReads
import Derived.Test.YtemjmefacifdeaaDoorPFnExactNoteBytesx15
import Derived.Test.YtemjmefacifdeaaDoorStatFnExactNoteBytes
import Derived.Test.YtemjmefacifdeaaDoorPureFnExactNoteBytes
import Derived.Test.YtemjmefacifdeaaDoorLaid
import Derived.WalkKit
import Derived.ProofKit
import Derived.OpenShut
import Derived.ShutString
import Derived.ChangeOld
import Derived.Below
import Derived.SizedLaws
import Derived.Carry
namespace Go.Proofs.YtemjmefacifdeaaDoor.fnExactNoteBytes
open Go.ChangeShapes Go.WideShapes Go.ChangeAt Go.RowKit Go.Proofs.YtemjmefacifdeaaDoor.Reads Go.Proofs.YtemjmefacifdeaaDoor.PFnExactNoteBytes Go.Proofs.YtemjmefacifdeaaDoorW.PrintWords
open Go.ChangeMaps (open_string shut_string)
set_option linter.unusedVariables false
theorem own : ownKnob Tryd.prog.godebug = none := by kernel_rfl
theorem laidOut : laidOutB Tryd.prog = true := by kernel_rfl
theorem rd23 : Rd Tryd.prog 23 (Kd.pair (Kd.int .i64) (Kd.int .i64)) (fun x => ((Lit.int .i64 (x.1)).wf = true ∧ (Lit.int .i64 (x.2)).wf = true)) := by
  have z := Rd.struct Tryd.underlying23 (RdF.cons (Rd.int Tryd.underlying3 (by kernel_rfl)) rfl rfl (RdF.one (Rd.int Tryd.underlying3 (by kernel_rfl)) rfl)) (by kernel_rfl)
  exact z
theorem rd26 : Rd Tryd.prog 26 (Kd.pair (Kd.int .i64) (Kd.pair Kd.string (Kd.slice 3 (Kd.int .i64)))) (fun x => ((Lit.int .i64 (x.1)).wf = true ∧ ((x.2.1).size ≤ maxLen ∧ ((x.2.2).length ≤ maxLen ∧ ∀ a ∈ (x.2.2), (Lit.int .i64 a).wf = true)))) := by
  have z := Rd.struct Tryd.underlying26 (RdF.cons (Rd.int Tryd.underlying3 (by kernel_rfl)) rfl rfl (RdF.cons (Rd.string Tryd.underlying9 (by kernel_rfl)) rfl rfl (RdF.one (Rd.slice Tryd.underlying24 (by kernel_rfl) (Rd.int Tryd.underlying3 (by kernel_rfl))) rfl))) (by kernel_rfl)
  exact z
theorem rd28 : Rd Tryd.prog 28 (Kd.pair (Kd.int .i64) (Kd.pair (Kd.int .i64) (Kd.pair (Kd.pair (Kd.int .i64) (Kd.pair Kd.string (Kd.slice 3 (Kd.int .i64)))) Kd.string))) (fun x => ((Lit.int .i64 (x.1)).wf = true ∧ ((Lit.int .i64 (x.2.1)).wf = true ∧ (((Lit.int .i64 ((x.2.2.1).1)).wf = true ∧ (((x.2.2.1).2.1).size ≤ maxLen ∧ (((x.2.2.1).2.2).length ≤ maxLen ∧ ∀ a ∈ ((x.2.2.1).2.2), (Lit.int .i64 a).wf = true))) ∧ (x.2.2.2).size ≤ maxLen)))) := by
  have z := Rd.struct Tryd.underlying28 (RdF.cons (Rd.int Tryd.underlying3 (by kernel_rfl)) rfl rfl (RdF.cons (Rd.int Tryd.underlying3 (by kernel_rfl)) rfl rfl (RdF.cons rd26 rfl rfl (RdF.one (Rd.string Tryd.underlying9 (by kernel_rfl)) rfl)))) (by kernel_rfl)
  exact z
set_option maxRecDepth 100000 in
theorem contract (H : Type) (enc : TypeId × Value → H) (W : World) (base : Nat) (args : Array Value) (ds gs : List (DataW H)) (before : List MemPlace)
    (hval0 : ∀ (j : Nat) t v, Tryd.f3.params[j]? = some t → args[j]? = some v → Value.okWide Tryd.prog W .any base t v)
    (hW : DataW.Whole enc Tryd.prog Tryd.f3.params.toList Rows.fnExactNoteBytesSpec.vars false W args.toList ds gs before) (hGl : Glob W) :
    Calls Tryd.prog 3 args W fun e W' => ∃ v, e = .returned v ∧ Rows.fnExactNoteBytesSpec.post enc Tryd.prog Tryd.f3 false true false false W args v W' := by
  have hval : ∀ (j : Nat) t v, Tryd.f3.params[j]? = some t → args[j]? = some v → Value.okWide Tryd.prog W .any base t v := hval0
  have hW' := hW
  obtain ⟨p, q, hA0, hV, rfl, hfz, hnd⟩ := hW
  have hA : DataW.TrodAll enc Tryd.prog W 0 (fun _ => true) true Tryd.f3.params.toList args.toList ds p := hA0
  rw [Tryd.params3] at hA hval
  obtain ⟨v0, vs0, d0, ds0, p0, q0, hargs, rfl, rfl, h0, r0⟩ := trodAll_cons hA
  obtain ⟨v1, vs1, d1, ds1, p1, q1, rfl, rfl, rfl, h1, r1⟩ := trodAll_cons r0
  obtain ⟨rfl, rfl, rfl⟩ := trodAll_nil r1
  obtain rfl : args = #[v0, v1] := by cases args; simp_all
  obtain ⟨rfl, rfl⟩ := trodVars_none hV
  have b0 := h0
  have lt0 : ∀ x ∈ p0, x.block < W.heap.size := by obtain ⟨m, hm⟩ := b0; exact DataW.trod_lt m _ _ _ hm
  obtain ⟨cs0, rfl, hz0⟩ := okWide_struct Tryd.underlying23 (hval 0 23 v0 rfl rfl)
  obtain ⟨fu0, hf0⟩ := h0
  obtain ⟨⟨a0_0, a0_1⟩, hK0, ⟨w0_0, w0_1⟩⟩ := rd23.2 H enc W fu0 _ _ hf0
  obtain ⟨_, _, e0, rfl, rfl⟩ := hK0
  obtain rfl : cs0 = #[.int .i64 a0_0, .int .i64 a0_1] := by have z : cs0.toList = _ := e0; exact array_of z
  have b1 := h1
  have lt1 : ∀ x ∈ p1, x.block < W.heap.size := by obtain ⟨m, hm⟩ := b1; exact DataW.trod_lt m _ _ _ hm
  obtain ⟨cs1, rfl, hz1⟩ := okWide_struct Tryd.underlying28 (hval 1 28 v1 rfl rfl)
  obtain ⟨fu1, hf1⟩ := h1
  obtain ⟨⟨a1_0, ⟨a1_1, ⟨⟨a1_2, ⟨a1_3, l1_4⟩⟩, a1_5⟩⟩⟩, hK1, ⟨w1_0, ⟨w1_1, ⟨⟨w1_2, ⟨w1_3, w1_4⟩⟩, w1_5⟩⟩⟩⟩ := rd28.2 H enc W fu1 _ _ hf1
  obtain ⟨_, _, e1, rfl, ⟨_, _, rfl, rfl, ⟨_, _, rfl, ⟨_, _, rfl, rfl, ⟨_, _, rfl, rfl, ⟨A1_4, c1_4, rfl, m1_4, g1_4⟩⟩⟩, rfl⟩⟩⟩ := hK1
  obtain rfl : cs1 = #[.int .i64 a1_0, .int .i64 a1_1, .int .i64 a1_2, .string a1_3, .slice A1_4 l1_4.length c1_4, .string a1_5] := by have z : cs1.toList = _ := e1; exact array_of z
  obtain ⟨k, h⟩ := Pure.FnExactNoteBytes a0_0 a0_1 a1_0 a1_1 a1_2 a1_3 l1_4 a1_5 w0_0 w0_1 w1_0 w1_1 w1_2 w1_3 w1_4 w1_5
  refine (laws_FnExactNoteBytes.calls k a0_0 a0_1 a1_0 a1_1 a1_2 a1_3 A1_4 c1_4 l1_4 a1_5 true (Aside0.mk rfl) W g1_4 m1_4 h hGl).mono fun e W' ⟨he, bel⟩ => ?_
  subst he
  exact ⟨_, rfl, _, _, _, [], _, [], hW', trodAll_mk1 (shut_bool Tryd.underlying4 _), (trodAll_cons_mk (Below.trod laidOut (by kernel_rfl) (of_decide_eq_true (by kernel_rfl)) b0 bel lt0) (trodAll_cons_mk (Below.trod laidOut (by kernel_rfl) (of_decide_eq_true (by kernel_rfl)) b1 bel lt1) trodAll_mk0)), rfl, bel.frame _, fun h => by cases h⟩
set_option maxRecDepth 100000 in
theorem laid_met (os : Os) : laidMet Tryd.prog Rows.fnExactNoteBytesRow.laid ((Laid.laidWorld os).forCall (fun _ _ => 0) ⟨#[], #[.agg #[.int .i64 0, .int .i64 0], .agg #[.int .i64 0, .int .i64 0, .int .i64 0, .string ByteArray.empty, .slice none 0 0, .string ByteArray.empty]], []⟩).memory :=
  laidMet_of_run' 8 (by kernel_rfl) (by kernel_rfl)
theorem reads (os : Os) {H : Type} (enc : TypeId × Value → H) : ∃ places, DataW.whole enc Tryd.prog ((Laid.laidWorld os).forCall (fun _ _ => 0) ⟨#[], #[.agg #[.int .i64 0, .int .i64 0], .agg #[.int .i64 0, .int .i64 0, .int .i64 0, .string ByteArray.empty, .slice none 0 0, .string ByteArray.empty]], []⟩).memory Tryd.f3.params.toList Rows.fnExactNoteBytesSpec.vars false (#[.agg #[.int .i64 0, .int .i64 0], .agg #[.int .i64 0, .int .i64 0, .int .i64 0, .string ByteArray.empty, .slice none 0 0, .string ByteArray.empty]] : Array Value).toList 8 = some ([.agg [.lit (.int .i64 0), .lit (.int .i64 0)], .agg [.lit (.int .i64 0), .lit (.int .i64 0), .agg [.lit (.int .i64 0), .lit (.string []), .nil], .lit (.string [])]], [], places) :=
  ⟨[], by kernel_rfl⟩
set_option maxRecDepth 100000 in
theorem lifted (os : Os) (started : os.Started) (H : Type) (enc : TypeId × Value → H) (F : Stop.Interp) :
    ReturnsInHanded {} Tryd.checked os 3 .any ((OpenSpec.ofChange Rows.fnExactNoteBytesSpec).preRow enc Tryd.prog Tryd.f3 Rows.fnExactNoteBytesRow.domain false Rows.fnExactNoteBytesRow.laid) (((OpenSpec.ofChange Rows.fnExactNoteBytesSpec).at F).post enc Tryd.prog Tryd.f3 false true false false) := by
  obtain ⟨places, hx⟩ := reads os enc
  refine returnsInHanded_of_row (C := Tryd.checked) (s := OpenSpec.ofChange Rows.fnExactNoteBytesSpec) own started (by kernel_rfl) Tryd.func3
    (witness_row_at (enc := enc) (C := Tryd.checked) false (Laid.laidWorld os) #[.agg #[.int .i64 0, .int .i64 0], .agg #[.int .i64 0, .int .i64 0, .int .i64 0, .string ByteArray.empty, .slice none 0 0, .string ByteArray.empty]] rfl (by kernel_rfl) (by kernel_rfl) (by kernel_rfl)
      (OpenSpec.preRow_of_cond 8 hx (by kernel_rfl) (fun k hk => by cases hk) (by kernel_rfl) (laid_met os))) ?_
  intro W base args ds gs before hval hW _ _ _ hL hS _
  exact contract H enc W base args ds gs before hval hW (Laid.glob hL hS)
theorem said : Rows.FnExactNoteBytesSaid :=
  OpenClaim.holds_of_cond 3 Tryd.f3 rfl rfl rfl rfl rfl rfl rfl ⟨rfl, rfl, rfl, rfl, rfl⟩ rfl rfl rfl rfl rfl (by kernel_rfl) Tryd.func3 (by kernel_rfl)
    (of_decide_eq_true (by kernel_rfl)) (by unfold Func.isWrapper; first | (rw [if_pos (by decide +kernel)]; kernel_rfl) | (rw [if_neg (by decide +kernel)]; exact ⟨rfl, rfl⟩))
    (fun os started H enc _ F => by rw [OpenClaim.pre_eq_preRow]; exact lifted os started H enc F)
theorem plain (f : FuncId) (fn : Func) (hf : Tryd.pinned.checked.prog.funcNamed "loop.example/g00448/laws.FnExactNoteBytes" = some f) (hfn : Tryd.pinned.checked.prog.funcs[f]? = some fn) :
    false = Tryd.pinned.checked.prog.looks [] ∧ ∀ (j : Nat) t, fn.params[j]? = some t → Tryd.pinned.checked.prog.wantsStandIn t = false := by
  obtain rfl : f = 3 := Option.some.inj ((show Tryd.prog.funcNamed "loop.example/g00448/laws.FnExactNoteBytes" = some 3 by kernel_rfl).symm.trans hf) |>.symm
  obtain rfl : fn = Tryd.f3 := (Option.some.inj (Tryd.func3.symm.trans hfn)).symm
  refine ⟨by kernel_rfl, fun j t ht => ?_⟩
  have hall : (Tryd.f3.params.toList.all fun t => !Tryd.prog.wantsStandIn t) = true := by kernel_rfl
  have hm := List.all_eq_true.1 hall t (by have := Array.mem_of_getElem? ht; simpa using this)
  exact (Bool.not_eq_true' _).mp hm
end Go.Proofs.YtemjmefacifdeaaDoor.fnExactNoteBytes
namespace Go.Proofs.YtemjmefacifdeaaDoor
/-- The card. -/
theorem fnExactNoteBytes_holds : Rows.FnExactNoteBytesCardSaid :=
  Claim7.holds_tied_plain_at .later [] _ _ _ _ fnExactNoteBytes.said (fun _ h => by cases h) (by kernel_rfl) (fun _ h => by cases h) fnExactNoteBytes_row_tie rfl ⟨rfl, rfl⟩ (by kernel_rfl) rfl fnExactNoteBytes.plain (by kernel_rfl)
end Go.Proofs.YtemjmefacifdeaaDoor
