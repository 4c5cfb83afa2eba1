/- The law FnExactBlockNew holds of the program: for every input that can be read it answers true, and the input reads as before. -/
import Derived.Test.YtemjmefacifdeaaGreatDoorRows
import Derived.Test.YtemjmefacifdeaaGreatDoorReads
import Derived.Test.YtemjmefacifdeaaGreatDoorPFnExactBlockNewx19
import Derived.Test.YtemjmefacifdeaaGreatDoorStatFnExactBlockNew
import Derived.Test.YtemjmefacifdeaaGreatDoorPureFnExactBlockNew
import Derived.Test.YtemjmefacifdeaaGreatDoorLaid
import Derived.WalkKit
import Derived.ProofKit
import Derived.OpenShut
import Derived.ShutString
import Derived.ChangeOld
import Derived.Below
import Derived.SizedLaws
import Derived.Carry
namespace Go.Proofs.YtemjmefacifdeaaGreatDoor.fnExactBlockNew
open Go.ChangeShapes Go.WideShapes Go.ChangeAt Go.RowKit Go.Proofs.YtemjmefacifdeaaGreatDoor.Reads Go.Proofs.YtemjmefacifdeaaGreatDoor.PFnExactBlockNew Go.Proofs.YtemjmefacifdeaaGreatDoorW.PrintWords
open Go.ChangeMaps (open_string shut_string)
set_option linter.unusedVariables false
theorem own : ownKnob Tryz.prog.godebug = none := by kernel_rfl
theorem laidOut : laidOutB Tryz.prog = true := by kernel_rfl
theorem rd23 : Rd Tryz.prog 23 (Kd.pair (Kd.int .i64) (Kd.int .i64)) (fun x => ((Lit.int .i64 (x.1)).wf = true ∧ (Lit.int .i64 (x.2)).wf = true)) := by
  have z := Rd.struct Tryz.underlying23 (RdF.cons (Rd.int Tryz.underlying3 (by kernel_rfl)) rfl rfl (RdF.one (Rd.int Tryz.underlying3 (by kernel_rfl)) rfl)) (by kernel_rfl)
  exact z
theorem rd26 : Rd Tryz.prog 26 (Kd.pair (Kd.int .i64) (Kd.pair Kd.string (Kd.slice 3 (Kd.int .i64)))) (fun x => ((Lit.int .i64 (x.1)).wf = true ∧ ((x.2.1).size ≤ maxLen ∧ ((x.2.2).length ≤ maxLen ∧ ∀ a ∈ (x.2.2), (Lit.int .i64 a).wf = true)))) := by
  have z := Rd.struct Tryz.underlying26 (RdF.cons (Rd.int Tryz.underlying3 (by kernel_rfl)) rfl rfl (RdF.cons (Rd.string Tryz.underlying9 (by kernel_rfl)) rfl rfl (RdF.one (Rd.slice Tryz.underlying24 (by kernel_rfl) (Rd.int Tryz.underlying3 (by kernel_rfl))) rfl))) (by kernel_rfl)
  exact z
theorem rd101k : Rd Tryz.prog 101 k101 ok101 := by
  have z := Rd.iso (Rd.struct Tryz.underlying101 (RdF.cons (Rd.int Tryz.underlying3 (by kernel_rfl)) rfl rfl (RdF.cons (Rd.int Tryz.underlying3 (by kernel_rfl)) rfl rfl (RdF.cons (Rd.int Tryz.underlying3 (by kernel_rfl)) rfl rfl (RdF.one (Rd.int Tryz.underlying3 (by kernel_rfl)) rfl)))) (by kernel_rfl)) (fun x : S101 => (x.f0, x.f1, x.f2, x.f3)) (fun a => (⟨a.1, a.2.1, a.2.2.1, a.2.2.2⟩ : S101)) (fun _ => rfl)
  exact z
set_option maxRecDepth 100000 in
theorem contract (H : Type) (enc : TypeId × Value → H) (W : World) (base : Nat) (args : Array Value) (ds gs : List (DataW H)) (before : List MemPlace)
    (hval0 : ∀ (j : Nat) t v, Tryz.f5.params[j]? = some t → args[j]? = some v → Value.okWide Tryz.prog W .any base t v)
    (hW : DataW.Whole enc Tryz.prog Tryz.f5.params.toList Rows.fnExactBlockNewSpec.vars false W args.toList ds gs before) (hGl : Glob W) :
    Calls Tryz.prog 5 args W fun e W' => ∃ v, e = .returned v ∧ Rows.fnExactBlockNewSpec.post enc Tryz.prog Tryz.f5 false true false false W args v W' := by
  have hval : ∀ (j : Nat) t v, Tryz.f5.params[j]? = some t → args[j]? = some v → Value.okWide Tryz.prog W .any base t v := hval0
  have hW' := hW
  obtain ⟨p, q, hA0, hV, rfl, hfz, hnd⟩ := hW
  have hA : DataW.TrodAll enc Tryz.prog W 0 (fun _ => true) true Tryz.f5.params.toList args.toList ds p := hA0
  rw [Tryz.params5] at hA hval
  obtain ⟨v0, vs0, d0, ds0, p0, q0, hargs, rfl, rfl, h0, r0⟩ := trodAll_cons hA
  obtain ⟨v1, vs1, d1, ds1, p1, q1, rfl, rfl, rfl, h1, r1⟩ := trodAll_cons r0
  obtain ⟨v2, vs2, d2, ds2, p2, q2, rfl, rfl, rfl, h2, r2⟩ := trodAll_cons r1
  obtain ⟨v3, vs3, d3, ds3, p3, q3, rfl, rfl, rfl, h3, r3⟩ := trodAll_cons r2
  obtain ⟨rfl, rfl, rfl⟩ := trodAll_nil r3
  obtain rfl : args = #[v0, v1, v2, v3] := by cases args; simp_all
  obtain ⟨rfl, rfl⟩ := trodVars_none hV
  have b0 := h0
  have lt0 : ∀ x ∈ p0, x.block < W.heap.size := by obtain ⟨m, hm⟩ := b0; exact DataW.trod_lt m _ _ _ hm
  obtain ⟨cs0, rfl, hz0⟩ := okWide_struct Tryz.underlying23 (hval 0 23 v0 rfl rfl)
  obtain ⟨fu0, hf0⟩ := h0
  obtain ⟨⟨a0_0, a0_1⟩, hK0, ⟨w0_0, w0_1⟩⟩ := rd23.2 H enc W fu0 _ _ hf0
  obtain ⟨_, _, e0, rfl, rfl⟩ := hK0
  obtain rfl : cs0 = #[.int .i64 a0_0, .int .i64 a0_1] := by have z : cs0.toList = _ := e0; exact array_of z
  have b1 := h1
  have lt1 : ∀ x ∈ p1, x.block < W.heap.size := by obtain ⟨m, hm⟩ := b1; exact DataW.trod_lt m _ _ _ hm
  obtain ⟨cs1, rfl, hz1⟩ := okWide_struct Tryz.underlying26 (hval 1 26 v1 rfl rfl)
  obtain ⟨fu1, hf1⟩ := h1
  obtain ⟨⟨a1_0, ⟨a1_1, l1_2⟩⟩, hK1, ⟨w1_0, ⟨w1_1, w1_2⟩⟩⟩ := rd26.2 H enc W fu1 _ _ hf1
  obtain ⟨_, _, e1, rfl, ⟨_, _, rfl, rfl, ⟨A1_2, c1_2, rfl, m1_2, g1_2⟩⟩⟩ := hK1
  obtain rfl : cs1 = #[.int .i64 a1_0, .string a1_1, .slice A1_2 l1_2.length c1_2] := by have z : cs1.toList = _ := e1; exact array_of z
  obtain ⟨a2, rfl, rfl, rfl, w2⟩ := open_int Tryz.underlying3 (hval 2 3 v2 rfl rfl) h2
  have b3 := h3
  have lt3 : ∀ x ∈ p3, x.block < W.heap.size := by obtain ⟨m, hm⟩ := b3; exact DataW.trod_lt m _ _ _ hm
  obtain ⟨aa3, len3, cap3, rfl⟩ := okWide_slice Tryz.underlying55 (hval 3 55 v3 rfl rfl)
  obtain ⟨fu3, hf3⟩ := h3
  obtain ⟨l3, ⟨A3, c3, e3, m3, g3⟩, w3⟩ := (Rd.slice Tryz.underlying55 (by kernel_rfl) rd101k).2 H enc W fu3 _ _ hf3
  obtain ⟨rfl, rfl, rfl⟩ : aa3 = A3 ∧ len3 = l3.length ∧ cap3 = c3 := by simpa [Value.cells] using e3
  obtain ⟨k, h⟩ := Pure.FnExactBlockNew a0_0 a0_1 a1_0 a1_1 l1_2 a2 l3 w0_0 w0_1 w1_0 w1_1 w1_2 w2 w3
  refine (laws_FnExactBlockNew.calls k a0_0 a0_1 a1_0 a1_1 A1_2 c1_2 l1_2 a2 aa3 cap3 l3 true (Aside0.mk rfl) W g1_2 m1_2 g3 m3 h hGl).mono fun e W' ⟨he, bel⟩ => ?_
  subst he
  exact ⟨_, rfl, _, _, _, [], _, [], hW', trodAll_mk1 (shut_bool Tryz.underlying4 _), (trodAll_cons_mk (Below.trod laidOut (by kernel_rfl) (of_decide_eq_true (by kernel_rfl)) b0 bel lt0) (trodAll_cons_mk (Below.trod laidOut (by kernel_rfl) (of_decide_eq_true (by kernel_rfl)) b1 bel lt1) (trodAll_cons_mk (shut_int Tryz.underlying3 w2) (trodAll_cons_mk (Below.trod laidOut (by kernel_rfl) (of_decide_eq_true (by kernel_rfl)) b3 bel lt3) trodAll_mk0)))), rfl, bel.frame _, fun h => by cases h⟩
set_option maxRecDepth 100000 in
theorem laid_met (os : Os) : laidMet Tryz.prog Rows.fnExactBlockNewRow.laid ((Laid.laidWorld os).forCall (fun _ _ => 0) ⟨#[], #[.agg #[.int .i64 0, .int .i64 0], .agg #[.int .i64 0, .string ByteArray.empty, .slice none 0 0], .int .i64 0, .slice none 0 0], []⟩).memory :=
  laidMet_of_run' 8 (by kernel_rfl) (by kernel_rfl)
theorem reads (os : Os) {H : Type} (enc : TypeId × Value → H) : ∃ places, DataW.whole enc Tryz.prog ((Laid.laidWorld os).forCall (fun _ _ => 0) ⟨#[], #[.agg #[.int .i64 0, .int .i64 0], .agg #[.int .i64 0, .string ByteArray.empty, .slice none 0 0], .int .i64 0, .slice none 0 0], []⟩).memory Tryz.f5.params.toList Rows.fnExactBlockNewSpec.vars false (#[.agg #[.int .i64 0, .int .i64 0], .agg #[.int .i64 0, .string ByteArray.empty, .slice none 0 0], .int .i64 0, .slice none 0 0] : Array Value).toList 8 = some ([.agg [.lit (.int .i64 0), .lit (.int .i64 0)], .agg [.lit (.int .i64 0), .lit (.string []), .nil], .lit (.int .i64 0), .nil], [], places) :=
  ⟨[], by kernel_rfl⟩
set_option maxRecDepth 100000 in
theorem lifted (os : Os) (started : os.Started) (H : Type) (enc : TypeId × Value → H) (F : Stop.Interp) :
    ReturnsInHanded {} Tryz.checked os 5 .any ((OpenSpec.ofChange Rows.fnExactBlockNewSpec).preRow enc Tryz.prog Tryz.f5 Rows.fnExactBlockNewRow.domain false Rows.fnExactBlockNewRow.laid) (((OpenSpec.ofChange Rows.fnExactBlockNewSpec).at F).post enc Tryz.prog Tryz.f5 false true false false) := by
  obtain ⟨places, hx⟩ := reads os enc
  refine returnsInHanded_of_row (C := Tryz.checked) (s := OpenSpec.ofChange Rows.fnExactBlockNewSpec) own started (by kernel_rfl) Tryz.func5
    (witness_row_at (enc := enc) (C := Tryz.checked) false (Laid.laidWorld os) #[.agg #[.int .i64 0, .int .i64 0], .agg #[.int .i64 0, .string ByteArray.empty, .slice none 0 0], .int .i64 0, .slice none 0 0] rfl (by kernel_rfl) (by kernel_rfl) (by kernel_rfl)
      (OpenSpec.preRow_of_cond 8 hx (by kernel_rfl) (fun k hk => by cases hk) (by kernel_rfl) (laid_met os))) ?_
  intro W base args ds gs before hval hW _ _ _ hL hS _
  exact contract H enc W base args ds gs before hval hW (Laid.glob hL hS)
theorem said : Rows.FnExactBlockNewSaid :=
  OpenClaim.holds_of_cond 5 Tryz.f5 rfl rfl rfl rfl rfl rfl rfl ⟨rfl, rfl, rfl, rfl, rfl⟩ rfl rfl rfl rfl rfl (by kernel_rfl) Tryz.func5 (by kernel_rfl)
    (of_decide_eq_true (by kernel_rfl)) (by unfold Func.isWrapper; first | (rw [if_pos (by decide +kernel)]; kernel_rfl) | (rw [if_neg (by decide +kernel)]; exact ⟨rfl, rfl⟩))
    (fun os started H enc _ F => by rw [OpenClaim.pre_eq_preRow]; exact lifted os started H enc F)
theorem plain (f : FuncId) (fn : Func) (hf : Tryz.pinned.checked.prog.funcNamed "loop.example/g00448/laws.FnExactBlockNew" = some f) (hfn : Tryz.pinned.checked.prog.funcs[f]? = some fn) :
    false = Tryz.pinned.checked.prog.looks [] ∧ ∀ (j : Nat) t, fn.params[j]? = some t → Tryz.pinned.checked.prog.wantsStandIn t = false := by
  obtain rfl : f = 5 := Option.some.inj ((show Tryz.prog.funcNamed "loop.example/g00448/laws.FnExactBlockNew" = some 5 by kernel_rfl).symm.trans hf) |>.symm
  obtain rfl : fn = Tryz.f5 := (Option.some.inj (Tryz.func5.symm.trans hfn)).symm
  refine ⟨by kernel_rfl, fun j t ht => ?_⟩
  have hall : (Tryz.f5.params.toList.all fun t => !Tryz.prog.wantsStandIn t) = true := by kernel_rfl
  have hm := List.all_eq_true.1 hall t (by have := Array.mem_of_getElem? ht; simpa using this)
  exact (Bool.not_eq_true' _).mp hm
end Go.Proofs.YtemjmefacifdeaaGreatDoor.fnExactBlockNew
namespace Go.Proofs.YtemjmefacifdeaaGreatDoor
/-- The card. -/
theorem fnExactBlockNew_holds : Rows.FnExactBlockNewCardSaid :=
  Claim7.holds_tied_plain_at .later [] _ _ _ _ fnExactBlockNew.said (fun _ h => by cases h) (by kernel_rfl) (fun _ h => by cases h) fnExactBlockNew_row_tie rfl ⟨rfl, rfl⟩ (by kernel_rfl) rfl fnExactBlockNew.plain (by kernel_rfl)
end Go.Proofs.YtemjmefacifdeaaGreatDoor
