import Derived.Test.YtdmjhgogljhfkaaGreatDoorProg
import Derived.Below
import Derived.Deep.Draws
import Derived.Deep.AppendLies
import Derived.Maps.AppendAt
import Derived.OwnWalk
import Derived.Laws.BytesArg
import Derived.Laws.MakeOwn
import Derived.Laws.OwnMore
import Derived.Deep.OwnRows
import Derived.Tactics
import Derived.Lib.ConvBytes
import Derived.Laws.Slices
import Derived.WalkKit
import Derived.KernelRfl
import Derived.RowKit3
import Derived.Deep.LoopGhost
import Derived.Deep.QuietTactic
import Derived.BigQuiet
import Derived.WideLaws
import Derived.Deep.DeepCutAuto
import Derived.Deep.CutBlock
import Derived.Deep.RegionHeld3
import Derived.Laws.Rows
import Derived.Lib.AppendStr
import Derived.ArgAppend
import Derived.Laws.IdiomCopy
import Derived.OrdersHeld
import Derived.Laws.BitsLemmas
import Derived.RowKit
import Derived.Test.YtdmjhgogljhfkaaGreatDoorWWords
import Derived.Test.YtdmjhgogljhfkaaGreatDoorWLast
import Derived.Test.YtdmjhgogljhfkaaGreatDoorWTab
import Derived.Test.YtdmjhgogljhfkaaGreatDoorWFour
import Derived.Test.YtdmjhgogljhfkaaGreatDoorWQPut
import Derived.Test.YtdmjhgogljhfkaaGreatDoorWApart
import Derived.Test.YtdmjhgogljhfkaaGreatDoorWArr
import Derived.Test.YtdmjhgogljhfkaaGreatDoorWZeros
import Derived.Test.YtdmjhgogljhfkaaGreatDoorWFoot
import Derived.Test.YtdmjhgogljhfkaaGreatDoorWKept
import Derived.Test.YtdmjhgogljhfkaaGreatDoorWShare
import Derived.Test.YtdmjhgogljhfkaaGreatDoorWN
import Derived.Test.YtdmjhgogljhfkaaGreatDoorWFootNe
import Derived.Test.YtdmjhgogljhfkaaGreatDoorWAt
import Derived.Test.YtdmjhgogljhfkaaGreatDoorWEqStruct
import Derived.Test.YtdmjhgogljhfkaaGreatDoorWRepsOne
import Derived.Test.YtdmjhgogljhfkaaGreatDoorWInv
import Derived.Test.YtdmjhgogljhfkaaGreatDoorWInvWords
import Derived.Test.YtdmjhgogljhfkaaGreatDoorWGuard
import Derived.Test.YtdmjhgogljhfkaaGreatDoorWNEv
import Derived.Test.YtdmjhgogljhfkaaGreatDoorWMore
import Derived.Test.YtdmjhgogljhfkaaGreatDoorWUp
import Derived.Test.YtdmjhgogljhfkaaGreatDoorWTiny
import Derived.Test.YtdmjhgogljhfkaaGreatDoorWLazy
import Derived.Test.YtdmjhgogljhfkaaGreatDoorLib
namespace Go.Proofs.YtdmjhgogljhfkaaGreatDoor.PFnNotes
open Go.RowKit Go.Proofs.YtdmjhgogljhfkaaGreatDoorW.PrintWords Go.Proofs.YtdmjhgogljhfkaaGreatDoorW.PrintLast Go.Proofs.YtdmjhgogljhfkaaGreatDoorW.PrintMore
attribute [local go_sem] max2_int min2_int max_two min_two max_three min_three max_four min_four
attribute [local go_sem] cell_in frozen_in cell_g cell_p cell_r cell_q
set_option synthInstance.maxSize 1000000
set_option synthInstance.maxHeartbeats 2000000
set_option linter.unusedVariables false
set_option linter.unusedSimpArgs false
theorem y0_0 {p : Prop} (h : p := by first | exact Kd.S_nil _ _ _ _ _ | exact Kd.N_nil _ _ _ _ _ | exact Kd.V_nil _ _ _ _ _ | exact Kd.Q_nil _ _ _ _ _ | exact Kd.R_nil _ _ _ _ _) : p := h
theorem y0_1 {p : Prop} (h : p := by (with_reducible repeat (first | apply Kd.S_alloc | apply Kd.S_drewN | apply Kd.S_drew)); exact Kd.S_mono HO_4.out (fun _ hk => trivial)) : p := h
theorem y0_2 {p : Prop} (h : p := by first | rfl | (simp; done) | (simp only [← hji7, ← hji10, ← hji12] <;> (first | rfl | simp)) | (simp [*]; done)) : p := h
theorem y0_3 {p : Prop} (h : p := by first | rfl | (simp [errW_none, errW_some] <;> rfl) | (simp [*, errW_none, errW_some] <;> rfl)) : p := h
theorem y0_4 {p : Prop} (h : p := by first | rfl | (simp; done) | (simp only [← hji13] <;> (first | rfl | simp)) | (simp [*]; done)) : p := h
theorem y0_6 {p : Prop} (h : p := by repeat (first | exact Drawn0.refl _ | apply Drawn0.step)) : p := h
theorem y0_7 {p : Prop} (h : p := by first | (with_reducible assumption) | assumption) : p := h
theorem y0_8 {p : Prop} (h : p := by first | rfl | (simp; done) | (simp [*]; done)) : p := h
theorem y0_9 {p : Prop} (h : p := by first | rfl | (simp; done)) : p := h
theorem y0_10 {p : Prop} (h : p := by have := LMc10.out; omega) : p := h
theorem y0_11 {p : Prop} (h : p := by have := HK1.out; omega) : p := h
theorem y0_12 {p : Prop} (h : p := by have := HI_.out; omega) : p := h
def errW : Option Int → Value
 | none => .nilIface
 | some c => .iface 0 (.int .i64 c)
theorem errW_none : errW none = .nilIface := rfl
theorem errW_some (c : Int) : errW (some c) = .iface 0 (.int .i64 c) := rfl
theorem info3 : (Tryz.prog.info? 3).map (fun i => (i.zero, i.size, i.bytes)) = some (some (.int .i64 0), 1, 8) := by kernel_rfl
theorem info5 : (Tryz.prog.info? 5).map (fun i => (i.zero, i.size, i.bytes)) = some (some (.int .u8 0), 1, 1) := by kernel_rfl
theorem info9 : (Tryz.prog.info? 9).map (fun i => (i.zero, i.size, i.bytes)) = some (some (.string ⟨#[]⟩), 1, 16) := by kernel_rfl
theorem info156 : (Tryz.prog.info? 156).map (fun i => (i.zero, i.size, i.bytes)) = some (some (.agg #[(.int .i64 0), (.int .i64 0), (.int .i64 0), (.int .i64 0)]), 4, 32) := by kernel_rfl
theorem info163 : (Tryz.prog.info? 163).map (fun i => (i.zero, i.size, i.bytes)) = some (some (.agg #[(.int .i64 0), (.slice none 0 0)]), 2, 32) := by kernel_rfl
structure S156 where
 f0 : Int
 f1 : Int
 f2 : Int
 f3 : Int
def z156 : S156 := ⟨(0 : Int), (0 : Int), (0 : Int), (0 : Int)⟩
def k156 : Kd S156 := Kd.iso (Kd.pair (Kd.int .i64) (Kd.pair (Kd.int .i64) (Kd.pair (Kd.int .i64) (Kd.int .i64)))) (fun x : S156 => (x.f0, x.f1, x.f2, x.f3))
theorem k156_open {w : World} {x : S156} {cs : List Value} (h : k156.K w x cs) : cs = [.int .i64 x.f0, .int .i64 x.f1, .int .i64 x.f2, .int .i64 x.f3] := by
 obtain ⟨_, _, rfl, rfl, ⟨_, _, rfl, rfl, ⟨_, _, rfl, rfl, rfl⟩⟩⟩ := h
 exact rfl
theorem k156_mkM (w : World) (base : Nat) (ok : Nat → Prop) (x : S156)  : k156.M w base ok x [.int .i64 x.f0, .int .i64 x.f1, .int .i64 x.f2, .int .i64 x.f3] := ⟨[.int .i64 x.f0], [.int .i64 x.f1, .int .i64 x.f2, .int .i64 x.f3], rfl, rfl, ⟨[.int .i64 x.f1], [.int .i64 x.f2, .int .i64 x.f3], rfl, rfl, ⟨[.int .i64 x.f2], [.int .i64 x.f3], rfl, rfl, rfl⟩⟩⟩
def rd_T156 (xs : List S156) (i : Int) : S156 := xs.getD i.toNat z156
theorem at_T156 {w : World} {A : Option Addr} {n : Nat} {xs : List S156} (h : Kd.C k156 w A n xs) (i : Int) (h0 : 0 ≤ i) (h1 : i < n) : ∃ ad , A = some ad ∧ w.cell? (ad.add (i.toNat * 4)) = some (.int .i64 (rd_T156 xs i).f0) ∧ w.cell? ⟨(ad.add (i.toNat * 4)).block, (ad.add (i.toNat * 4)).off + 1, none⟩ = some (.int .i64 (rd_T156 xs i).f1) ∧ w.cell? ⟨(ad.add (i.toNat * 4)).block, (ad.add (i.toNat * 4)).off + 2, none⟩ = some (.int .i64 (rd_T156 xs i).f2) ∧ w.cell? ⟨(ad.add (i.toNat * 4)).block, (ad.add (i.toNat * 4)).off + 3, none⟩ = some (.int .i64 (rd_T156 xs i).f3) := by
 obtain ⟨ad, c, e, _, hK, hc0⟩ := Kd.C_get h z156 i h0 h1; have hc : ∀ j u, c[j]? = some u → w.cell? (ad.add (i.toNat * 4 + j)) = some u := hc0; obtain rfl := k156_open hK
 exact ⟨ad, e, hc 0 _ rfl, by rw [← add_field _ _ 1 (by omega)]; exact hc 1 _ rfl, by rw [← add_field _ _ 2 (by omega)]; exact hc 2 _ rfl, by rw [← add_field _ _ 3 (by omega)]; exact hc 3 _ rfl⟩
structure S163 where
 f0 : Int
 f1 : (List S156)
def z163 : S163 := ⟨(0 : Int), ([] : List S156)⟩
def k163 : Kd S163 := Kd.iso (Kd.pair (Kd.int .i64) (Kd.slice 156 k156)) (fun x : S163 => (x.f0, x.f1))
theorem k163_openM {w : World} {base : Nat} {ok : Nat → Prop} {x : S163} {cs : List Value} (h : k163.M w base ok x cs) : ∃ v1, cs = [.int .i64 x.f0, v1] ∧ k156.R 156 w base ok v1 x.f1 := by
 obtain ⟨_, _, rfl, rfl, ⟨v1, rfl, g1⟩⟩ := h
 exact ⟨v1, rfl, g1⟩
theorem k163_mkM (w : World) (base : Nat) (ok : Nat → Prop) (x : S163) {v1 : Value} (g1 : k156.R 156 w base ok v1 x.f1) : k163.M w base ok x [.int .i64 x.f0, v1] := ⟨[.int .i64 x.f0], [v1], rfl, rfl, ⟨v1, rfl, g1⟩⟩
def rd_T163 (xs : List S163) (i : Int) : S163 := xs.getD i.toNat z163
instance : TyNe (Kd.int .i64) 3 27 := ⟨by decide⟩
instance : TyNe (Kd.int .i64) 3 29 := ⟨by decide⟩
instance : TyNe (Kd.int .i64) 3 32 := ⟨by decide⟩
instance : TyNe (Kd.int .i64) 3 134 := ⟨by decide⟩
instance : TyNe (Kd.int .i64) 3 139 := ⟨by decide⟩
instance : TyNe (Kd.int .i64) 3 149 := ⟨by decide⟩
instance : TyNe (Kd.int .i64) 3 156 := ⟨by decide⟩
instance : TyNe (Kd.int .i64) 3 165 := ⟨by decide⟩
instance : TyNe (Kd.int .u8) 5 27 := ⟨by decide⟩
instance : TyNe (Kd.int .u8) 5 29 := ⟨by decide⟩
instance : TyNe (Kd.int .u8) 5 32 := ⟨by decide⟩
instance : TyNe (Kd.int .u8) 5 134 := ⟨by decide⟩
instance : TyNe (Kd.int .u8) 5 139 := ⟨by decide⟩
instance : TyNe (Kd.int .u8) 5 149 := ⟨by decide⟩
instance : TyNe (Kd.int .u8) 5 156 := ⟨by decide⟩
instance : TyNe (Kd.int .u8) 5 165 := ⟨by decide⟩
instance : TyNe Kd.string 9 27 := ⟨by decide⟩
instance : TyNe Kd.string 9 29 := ⟨by decide⟩
instance : TyNe Kd.string 9 32 := ⟨by decide⟩
instance : TyNe Kd.string 9 134 := ⟨by decide⟩
instance : TyNe Kd.string 9 139 := ⟨by decide⟩
instance : TyNe Kd.string 9 149 := ⟨by decide⟩
instance : TyNe Kd.string 9 156 := ⟨by decide⟩
instance : TyNe Kd.string 9 165 := ⟨by decide⟩
instance : TyNe k156 156 27 := ⟨by decide⟩
instance : TyNe k156 156 29 := ⟨by decide⟩
instance : TyNe k156 156 32 := ⟨by decide⟩
instance : TyNe k156 156 134 := ⟨by decide⟩
instance : TyNe k156 156 139 := ⟨by decide⟩
instance : TyNe k156 156 149 := ⟨by decide⟩
instance : TyNe k156 156 165 := ⟨by decide⟩
instance : TyNe k163 163 27 := ⟨by decide⟩
instance : TyNe k163 163 29 := ⟨by decide⟩
instance : TyNe k163 163 32 := ⟨by decide⟩
instance : TyNe k163 163 134 := ⟨by decide⟩
instance : TyNe k163 163 139 := ⟨by decide⟩
instance : TyNe k163 163 149 := ⟨by decide⟩
instance : TyNe k163 163 165 := ⟨by decide⟩
end Go.Proofs.YtdmjhgogljhfkaaGreatDoor.PFnNotes
