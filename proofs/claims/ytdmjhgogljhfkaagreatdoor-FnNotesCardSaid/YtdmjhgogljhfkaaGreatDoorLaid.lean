/- The package variables that the rows list, laid in a world (the witness), and what the rows' list gives a walk ('Glob'). No condition. -/
import Derived.Test.YtdmjhgogljhfkaaGreatDoorCards
import Derived.Test.YtdmjhgogljhfkaaGreatDoorTie
import Derived.Test.YtdmjhgogljhfkaaGreatDoorLib
import Derived.WalkKit
import Derived.ProofKit
import Derived.OpenShut
import Derived.Deep.DeepHandedRow
import Derived.Lib.LaidTab
import Derived.Stop.LaidErr
namespace Go.Proofs.YtdmjhgogljhfkaaGreatDoor.Laid
open Go Go.Proofs.YtdmjhgogljhfkaaGreatDoorW.PrintWords
/-- A literal's value. -/
def litOf : DataW Unit → Value
  | .lit (.int k n) => .int k n
  | _ => undef
def rowOf : DataW Unit → List (DataW Unit)
  | .agg l => l
  | _ => []
/-- A table's cells: of numbers, or of structs of numbers. -/
def flat (d : DataW Unit) : Array Value := ((rowOf d).flatMap fun e => match rowOf e with
  | [] => [litOf e]
  | l => l.map litOf).toArray
noncomputable def lay (w : World) (x : String × DataW Unit) : World := match Tryz.prog.globalNamed x.1 with
  | some g => { w with heap := w.heap.modify g fun
      | .cells _ t frozen => .cells (flat x.2) t frozen
      | o => o }
  | none => w
/-- A world for the witness: the settled one, each listed variable holding what its initialiser lays. -/
noncomputable def laidWorld (os : Os) : World := Rows.fnExactLastNoteRow.laid.foldl lay (World.holding Tryz.prog os ⟨#[], #[], []⟩)
theorem gPow : Tryz.prog.globalNamed "internal/strconv.uint64pow10" = some 3 := by kernel_rfl
theorem powData : (Rows.laid_internal_strconv_uint64pow10 : DataW Unit) = Lib.tabData .u64 Lib.pow10Tab := by kernel_rfl
theorem powType : (Tryz.prog.globals[3]?).map (·.type) = some 227 := by kernel_rfl
theorem powCells : Tryz.prog.cellsOf 227 = 20 := by kernel_rfl
theorem u64Cells : Tryz.prog.cellsOf 217 = 1 := by kernel_rfl
theorem table {W : World} (h : laidMetH Tryz.prog Rows.fnExactLastNoteRow.laid W) : Lib.TabIs Tryz.prog W "internal/strconv.uint64pow10" .u64 Lib.pow10Tab := by
  have h1 : laidMet Tryz.prog Rows.fnExactLastNoteRow.laid W := h
  have h2 := h1.tail.tail
  rw [powData] at h2
  exact Lib.tabIs_of_head gPow powType Tryz.underlying227 Tryz.underlying217 u64Cells powCells h2
theorem glob {W : World} (h : laidMetH Tryz.prog Rows.fnExactLastNoteRow.laid W) (hs : W.ShapedOpen Tryz.prog) : Glob W := ⟨Tryz.laysM145.s1_3 W hs, table h⟩
theorem laid_met (os : Os) : laidMet Tryz.prog Rows.fnExactLastNoteRow.laid ((laidWorld os).forCall (fun _ _ => 0) ⟨#[], #[.string ByteArray.empty], []⟩).memory :=
  laidMet_of_run' 8 (by kernel_rfl) (by kernel_rfl)
end Go.Proofs.YtdmjhgogljhfkaaGreatDoor.Laid
