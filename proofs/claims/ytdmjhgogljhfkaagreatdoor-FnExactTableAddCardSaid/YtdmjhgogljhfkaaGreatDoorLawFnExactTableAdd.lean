/- The law FnExactTableAdd holds of the program: for every input that can be read it answers true, and the input reads as before. -/
import Derived.Test.YtdmjhgogljhfkaaGreatDoorRows
import Derived.Test.YtdmjhgogljhfkaaGreatDoorReads
import Derived.Test.YtdmjhgogljhfkaaGreatDoorPFnExactTableAddx16
import Derived.Test.YtdmjhgogljhfkaaGreatDoorStatFnExactTableAdd
import Derived.Test.YtdmjhgogljhfkaaGreatDoorPureFnExactTableAdd
import Derived.Test.YtdmjhgogljhfkaaGreatDoorLaid
import Derived.WalkKit
import Derived.ProofKit
import Derived.OpenShut
import Derived.ShutString
import Derived.ChangeOld
import Derived.Below
import Derived.SizedLaws
import Derived.Carry
namespace Go.Proofs.YtdmjhgogljhfkaaGreatDoor.fnExactTableAdd
open Go.ChangeShapes Go.WideShapes Go.ChangeAt Go.RowKit Go.Proofs.YtdmjhgogljhfkaaGreatDoor.Reads Go.Proofs.YtdmjhgogljhfkaaGreatDoor.PFnExactTableAdd Go.Proofs.YtdmjhgogljhfkaaGreatDoorW.PrintWords
open Go.ChangeMaps (open_string shut_string)
set_option linter.unusedVariables false
theorem own : ownKnob Tryz.prog.godebug = none := by kernel_rfl
theorem laidOut : laidOutB Tryz.prog = true := by kernel_rfl
theorem rd23 : Rd Tryz.prog 23 (Kd.pair (Kd.int .i64) (Kd.int .i64)) (fun x => ((Lit.int .i64 (x.1)).wf = true ∧ (Lit.int .i64 (x.2)).wf = true)) := by
  have z := Rd.struct Tryz.underlying23 (RdF.cons (Rd.int Tryz.underlying3 (by kernel_rfl)) rfl rfl (RdF.one (Rd.int Tryz.underlying3 (by kernel_rfl)) rfl)) (by kernel_rfl)
  exact z
theorem rd41k : Rd Tryz.prog 41 k41 ok41 := by
  have z := Rd.iso (Rd.struct Tryz.underlying41 (RdF.cons (Rd.int Tryz.underlying3 (by kernel_rfl)) rfl rfl (RdF.cons (Rd.string Tryz.underlying9 (by kernel_rfl)) rfl rfl (RdF.one (Rd.slice Tryz.underlying25 (by kernel_rfl) (Rd.int Tryz.underlying3 (by kernel_rfl))) rfl))) (by kernel_rfl)) (fun x : S41 => (x.f0, x.f1, x.f2)) (fun a => (⟨a.1, a.2.1, a.2.2⟩ : S41)) (fun _ => rfl)
  exact z
theorem rd41 : Rd Tryz.prog 41 (Kd.pair (Kd.int .i64) (Kd.pair Kd.string (Kd.slice 3 (Kd.int .i64)))) (fun x => ((Lit.int .i64 (x.1)).wf = true ∧ ((x.2.1).size ≤ maxLen ∧ ((x.2.2).length ≤ maxLen ∧ ∀ a ∈ (x.2.2), (Lit.int .i64 a).wf = true)))) := by
  have z := Rd.struct Tryz.underlying41 (RdF.cons (Rd.int Tryz.underlying3 (by kernel_rfl)) rfl rfl (RdF.cons (Rd.string Tryz.underlying9 (by kernel_rfl)) rfl rfl (RdF.one (Rd.slice Tryz.underlying25 (by kernel_rfl) (Rd.int Tryz.underlying3 (by kernel_rfl))) rfl))) (by kernel_rfl)
  exact z
set_option maxRecDepth 100000 in
theorem contract (H : Type) (enc : TypeId × Value → H) (W : World) (base : Nat) (args : Array Value) (ds gs : List (DataW H)) (before : List MemPlace)
    (hval0 : ∀ (j : Nat) t v, Tryz.f4.params[j]? = some t → args[j]? = some v → Value.okWide Tryz.prog W .any base t v)
    (hW : DataW.Whole enc Tryz.prog Tryz.f4.params.toList Rows.fnExactTableAddSpec.vars false W args.toList ds gs before) (hGl : Glob W) :
    Calls Tryz.prog 4 args W fun e W' => ∃ v, e = .returned v ∧ Rows.fnExactTableAddSpec.post enc Tryz.prog Tryz.f4 false true false false W args v W' := by
  have hval : ∀ (j : Nat) t v, Tryz.f4.params[j]? = some t → args[j]? = some v → Value.okWide Tryz.prog W .any base t v := hval0
  have hW' := hW
  obtain ⟨p, q, hA0, hV, rfl, hfz, hnd⟩ := hW
  have hA : DataW.TrodAll enc Tryz.prog W 0 (fun _ => true) true Tryz.f4.params.toList args.toList ds p := hA0
  rw [Tryz.params4] at hA hval
  obtain ⟨v0, vs0, d0, ds0, p0, q0, hargs, rfl, rfl, h0, r0⟩ := trodAll_cons hA
  obtain ⟨v1, vs1, d1, ds1, p1, q1, rfl, rfl, rfl, h1, r1⟩ := trodAll_cons r0
  obtain ⟨v2, vs2, d2, ds2, p2, q2, rfl, rfl, rfl, h2, r2⟩ := trodAll_cons r1
  obtain ⟨rfl, rfl, rfl⟩ := trodAll_nil r2
  obtain rfl : args = #[v0, v1, v2] := by cases args; simp_all
  obtain ⟨rfl, rfl⟩ := trodVars_none hV
  have b0 := h0
  have lt0 : ∀ x ∈ p0, x.block < W.heap.size := by obtain ⟨m, hm⟩ := b0; exact DataW.trod_lt m _ _ _ hm
  obtain ⟨cs0, rfl, hz0⟩ := okWide_struct Tryz.underlying23 (hval 0 23 v0 rfl rfl)
  obtain ⟨fu0, hf0⟩ := h0
  obtain ⟨⟨a0_0, a0_1⟩, hK0, ⟨w0_0, w0_1⟩⟩ := rd23.2 H enc W fu0 _ _ hf0
  obtain ⟨_, _, e0, rfl, rfl⟩ := hK0
  obtain rfl : cs0 = #[.int .i64 a0_0, .int .i64 a0_1] := by have z : cs0.toList = _ := e0; exact array_of z
  have b1 := h1
  have lt1 : ∀ x ∈ p1, x.block < W.heap.size := by obtain ⟨m, hm⟩ := b1; exact DataW.trod_lt m _ _ _ hm
  obtain ⟨aa1, len1, cap1, rfl⟩ := okWide_slice Tryz.underlying40 (hval 1 40 v1 rfl rfl)
  obtain ⟨fu1, hf1⟩ := h1
  obtain ⟨l1, ⟨A1, c1, e1, m1, g1⟩, w1⟩ := (Rd.slice Tryz.underlying40 (by kernel_rfl) rd41k).2 H enc W fu1 _ _ hf1
  obtain ⟨rfl, rfl, rfl⟩ : aa1 = A1 ∧ len1 = l1.length ∧ cap1 = c1 := by simpa [Value.cells] using e1
  have b2 := h2
  have lt2 : ∀ x ∈ p2, x.block < W.heap.size := by obtain ⟨m, hm⟩ := b2; exact DataW.trod_lt m _ _ _ hm
  obtain ⟨cs2, rfl, hz2⟩ := okWide_struct Tryz.underlying41 (hval 2 41 v2 rfl rfl)
  obtain ⟨fu2, hf2⟩ := h2
  obtain ⟨⟨a2_0, ⟨a2_1, l2_2⟩⟩, hK2, ⟨w2_0, ⟨w2_1, w2_2⟩⟩⟩ := rd41.2 H enc W fu2 _ _ hf2
  obtain ⟨_, _, e2, rfl, ⟨_, _, rfl, rfl, ⟨A2_2, c2_2, rfl, m2_2, g2_2⟩⟩⟩ := hK2
  obtain rfl : cs2 = #[.int .i64 a2_0, .string a2_1, .slice A2_2 l2_2.length c2_2] := by have z : cs2.toList = _ := e2; exact array_of z
  obtain ⟨k, h⟩ := Pure.FnExactTableAdd a0_0 a0_1 l1 a2_0 a2_1 l2_2 w0_0 w0_1 w1 w2_0 w2_1 w2_2
  refine (laws_FnExactTableAdd.calls k a0_0 a0_1 aa1 cap1 l1 a2_0 a2_1 A2_2 c2_2 l2_2 true (Aside0.mk rfl) W g1 m1 g2_2 m2_2 h hGl).mono fun e W' ⟨he, bel⟩ => ?_
  subst he
  exact ⟨_, rfl, _, _, _, [], _, [], hW', trodAll_mk1 (shut_bool Tryz.underlying4 _), (trodAll_cons_mk (Below.trod laidOut (by kernel_rfl) (of_decide_eq_true (by kernel_rfl)) b0 bel lt0) (trodAll_cons_mk (Below.trod laidOut (by kernel_rfl) (of_decide_eq_true (by kernel_rfl)) b1 bel lt1) (trodAll_cons_mk (Below.trod laidOut (by kernel_rfl) (of_decide_eq_true (by kernel_rfl)) b2 bel lt2) trodAll_mk0))), rfl, bel.frame _, fun h => by cases h⟩
set_option maxRecDepth 100000 in
theorem laid_met (os : Os) : laidMet Tryz.prog Rows.fnExactTableAddRow.laid ((Laid.laidWorld os).forCall (fun _ _ => 0) ⟨#[], #[.agg #[.int .i64 0, .int .i64 0], .slice none 0 0, .agg #[.int .i64 0, .string ByteArray.empty, .slice none 0 0]], []⟩).memory :=
  laidMet_of_run' 8 (by kernel_rfl) (by kernel_rfl)
theorem reads (os : Os) {H : Type} (enc : TypeId × Value → H) : ∃ places, DataW.whole enc Tryz.prog ((Laid.laidWorld os).forCall (fun _ _ => 0) ⟨#[], #[.agg #[.int .i64 0, .int .i64 0], .slice none 0 0, .agg #[.int .i64 0, .string ByteArray.empty, .slice none 0 0]], []⟩).memory Tryz.f4.params.toList Rows.fnExactTableAddSpec.vars false (#[.agg #[.int .i64 0, .int .i64 0], .slice none 0 0, .agg #[.int .i64 0, .string ByteArray.empty, .slice none 0 0]] : Array Value).toList 8 = some ([.agg [.lit (.int .i64 0), .lit (.int .i64 0)], .nil, .agg [.lit (.int .i64 0), .lit (.string []), .nil]], [], places) :=
  ⟨[], by kernel_rfl⟩
set_option maxRecDepth 100000 in
theorem lifted (os : Os) (started : os.Started) (H : Type) (enc : TypeId × Value → H) (F : Stop.Interp) :
    ReturnsInHanded {} Tryz.checked os 4 .any ((OpenSpec.ofChange Rows.fnExactTableAddSpec).preRow enc Tryz.prog Tryz.f4 Rows.fnExactTableAddRow.domain false Rows.fnExactTableAddRow.laid) (((OpenSpec.ofChange Rows.fnExactTableAddSpec).at F).post enc Tryz.prog Tryz.f4 false true false false) := by
  obtain ⟨places, hx⟩ := reads os enc
  refine returnsInHanded_of_row (C := Tryz.checked) (s := OpenSpec.ofChange Rows.fnExactTableAddSpec) own started (by kernel_rfl) Tryz.func4
    (witness_row_at (enc := enc) (C := Tryz.checked) false (Laid.laidWorld os) #[.agg #[.int .i64 0, .int .i64 0], .slice none 0 0, .agg #[.int .i64 0, .string ByteArray.empty, .slice none 0 0]] rfl (by kernel_rfl) (by kernel_rfl) (by kernel_rfl)
      (OpenSpec.preRow_of_cond 8 hx (by kernel_rfl) (fun k hk => by cases hk) (by kernel_rfl) (laid_met os))) ?_
  intro W base args ds gs before hval hW _ _ _ hL hS _
  exact contract H enc W base args ds gs before hval hW (Laid.glob hL hS)
theorem said : Rows.FnExactTableAddSaid :=
  OpenClaim.holds_of_cond 4 Tryz.f4 rfl rfl rfl rfl rfl rfl rfl ⟨rfl, rfl, rfl, rfl, rfl⟩ rfl rfl rfl rfl rfl (by kernel_rfl) Tryz.func4 (by kernel_rfl)
    (of_decide_eq_true (by kernel_rfl)) (by unfold Func.isWrapper; first | (rw [if_pos (by decide +kernel)]; kernel_rfl) | (rw [if_neg (by decide +kernel)]; exact ⟨rfl, rfl⟩))
    (fun os started H enc _ F => by rw [OpenClaim.pre_eq_preRow]; exact lifted os started H enc F)
theorem plain (f : FuncId) (fn : Func) (hf : Tryz.pinned.checked.prog.funcNamed "loop.example/g00448/laws.FnExactTableAdd" = some f) (hfn : Tryz.pinned.checked.prog.funcs[f]? = some fn) :
    false = Tryz.pinned.checked.prog.looks [] ∧ ∀ (j : Nat) t, fn.params[j]? = some t → Tryz.pinned.checked.prog.wantsStandIn t = false := by
  obtain rfl : f = 4 := Option.some.inj ((show Tryz.prog.funcNamed "loop.example/g00448/laws.FnExactTableAdd" = some 4 by kernel_rfl).symm.trans hf) |>.symm
  obtain rfl : fn = Tryz.f4 := (Option.some.inj (Tryz.func4.symm.trans hfn)).symm
  refine ⟨by kernel_rfl, fun j t ht => ?_⟩
  have hall : (Tryz.f4.params.toList.all fun t => !Tryz.prog.wantsStandIn t) = true := by kernel_rfl
  have hm := List.all_eq_true.1 hall t (by have := Array.mem_of_getElem? ht; simpa using this)
  exact (Bool.not_eq_true' _).mp hm
end Go.Proofs.YtdmjhgogljhfkaaGreatDoor.fnExactTableAdd
namespace Go.Proofs.YtdmjhgogljhfkaaGreatDoor
/-- The card. -/
theorem fnExactTableAdd_holds : Rows.FnExactTableAddCardSaid :=
  Claim7.holds_tied_plain_at .later [] _ _ _ _ fnExactTableAdd.said (fun _ h => by cases h) (by kernel_rfl) (fun _ h => by cases h) fnExactTableAdd_row_tie rfl ⟨rfl, rfl⟩ (by kernel_rfl) rfl fnExactTableAdd.plain (by kernel_rfl)
end Go.Proofs.YtdmjhgogljhfkaaGreatDoor
