/- What the walks take of Go's library (strings.Split, strings.Cut, strconv.Itoa) by the contracts of the shelf, in the form of the printed ones. Condition: the start lays the two package variables ('Glob'). -/
import Derived.Test.YtdmjhgogljhfkaaGreatDoorShelf
import Derived.Test.YtdmjhgogljhfkaaGreatDoorWUp
import Derived.WalkSmall
import Derived.Lib.SplitLaws
import Derived.Lib.AppendIntMem
namespace Go.Proofs.YtdmjhgogljhfkaaGreatDoorW.PrintWords
open Go.RowKit
/-- Two package variables hold what they hold at the start. -/
structure Glob (w : World) : Prop where
  mk ::
  len : ∃ m : Int, w.cell? ⟨0, 0, none⟩ = some (.int .i64 m)
  pow : Lib.TabIs Tryz.prog w "internal/strconv.uint64pow10" .u64 Lib.pow10Tab
theorem globPow : Tryz.prog.globalNamed "internal/strconv.uint64pow10" = some 3 := by kernel_rfl
theorem Glob.below {w w1 : World} (h : Glob w) (hb : Below w.heap.size w w1) : Glob w1 := by
  obtain ⟨⟨m, hm⟩, hp⟩ := h
  refine ⟨⟨m, (hb.cell (World.block_lt_of_cell? w _ hm)).trans hm⟩, ?_⟩
  have hlt : 3 < w.heap.size := by
    unfold Lib.TabIs World.var? at hp
    rw [globPow, Option.bind_some] at hp
    rcases Nat.lt_or_ge 3 w.heap.size with h' | h'
    · exact h'
    · rw [Array.getElem?_eq_none h'] at hp; simp at hp
  exact Go.var?_below hb globPow hlt hp
theorem gG {w w1 W : World} (h : Aside0 (Glob w)) (hb : Aside0 (Below w.heap.size w w1)) [u : UpS w w1 W] : Glob W := h.out.below (u.out hb.out)
def strings_Split.f (a0 a1 : ByteArray) : Option (List ByteArray) := if a0.size < 4294967281 then (if 1 ≤ a1.size then (some (Lib.splitB a1 0 (Lib.countB a0 a1) a0)) else (none)) else (none)
theorem strings_Split.calls (a0 : ByteArray) (a1 : ByteArray) (r : List ByteArray) (w : World) (h : strings_Split.f a0 a1 = some r) (hG : Glob w := by exact gG HG HB) :
    Calls Tryz.prog 195 #[.string a0, .string a1] w fun e w' => ∃ v0_ : Value, e = .returned (v0_) ∧ Kd.R Kd.string 9 w' w.heap.size (fun _ => True) v0_ r ∧ Below w.heap.size w w' := by
  unfold strings_Split.f at h
  by_cases h1 : a0.size < 4294967281
  · rw [if_pos h1] at h
    by_cases h2 : 1 ≤ a1.size
    · rw [if_pos h2] at h
      obtain rfl := Option.some.inj h
      obtain ⟨m, hm⟩ := hG.len
      refine (Tryz.strings_Split a0 a1 m w h1 hm h2).mono ?_
      rintro e w' ⟨rfl, rfl⟩
      have hl := Lib.splitB_all a1 h2 0 _ a0 rfl
      have hc := Lib.countB_le a1 h2 a0.size a0 (Nat.le_refl _)
      have ho := own_lit_of (enc := Value.string) w w.heap.size 9 (Lib.splitB a1 0 (Lib.countB a0 a1) a0) (Nat.le_refl _) (by omega)
      rw [hl] at ho
      exact ⟨_, rfl, Kd.R_of_own (by rw [hl]; exact ho) (fun _ _ => trivial), below_alloc (Below.refl _ _) _⟩
    · rw [if_neg h2] at h; cases h
  · rw [if_neg h1] at h; cases h
def strings_Cut.f (a0 a1 : ByteArray) : Option (ByteArray × ByteArray × Bool) := if a0.size < 4294967281 then (some (⟨(Lib.cut a0.data.toList a1.data.toList).1.toArray⟩, ⟨(Lib.cut a0.data.toList a1.data.toList).2.1.toArray⟩, (Lib.cut a0.data.toList a1.data.toList).2.2)) else (none)
theorem strings_Cut.calls (a0 : ByteArray) (a1 : ByteArray) (r1 : ByteArray) (r2 : ByteArray) (r3 : Bool) (w : World) (h : strings_Cut.f a0 a1 = some (r1, r2, r3)) (hG : Glob w := by exact gG HG HB) :
    Calls Tryz.prog 175 #[.string a0, .string a1] w fun e w' => e = .returned (.tuple #[.string r1, .string r2, .bool r3]) ∧ Below w.heap.size w w' := by
  unfold strings_Cut.f at h
  by_cases h1 : a0.size < 4294967281
  · rw [if_pos h1] at h
    simp only [Option.some.injEq, Prod.mk.injEq] at h
    obtain ⟨rfl, rfl, rfl⟩ := h
    obtain ⟨m, hm⟩ := hG.len
    refine (Tryz.strings_Cut a0 a1 m w h1 hm).mono ?_
    rintro e w' ⟨rfl, n, rfl⟩
    exact ⟨rfl, pw_below_drewN (Below.refl _ _) n⟩
  · rw [if_neg h1] at h; cases h
def strconv_Itoa_205.f (a0 : Int) : Option ByteArray := if -9223372036854775808 ≤ a0 then (if a0 ≤ 9223372036854775807 then (some ⟨(Lib.itoa a0).toArray⟩) else (none)) else (none)
theorem strconv_Itoa_205.calls (a0 : Int) (r : ByteArray) (w : World) (h : strconv_Itoa_205.f a0 = some r) (hG : Glob w := by exact gG HG HB) :
    Calls Tryz.prog 205 #[.int .i64 a0] w fun e w' => e = .returned (.string r) ∧ Below w.heap.size w w' := by
  unfold strconv_Itoa_205.f at h
  by_cases h1 : -9223372036854775808 ≤ a0
  · rw [if_pos h1] at h
    by_cases h2 : a0 ≤ 9223372036854775807
    · rw [if_pos h2] at h
      obtain rfl := Option.some.inj h
      refine (Tryz.strconv_Itoa a0 h1 h2 w hG.pow).mono ?_
      rintro e w' ⟨rfl, k, os, rfl⟩
      refine ⟨rfl, ?_⟩
      exact Lib.below_grow w.heap.size w (Nat.le_refl _) k os
    · rw [if_neg h2] at h; cases h
  · rw [if_neg h1] at h; cases h
end Go.Proofs.YtdmjhgogljhfkaaGreatDoorW.PrintWords
