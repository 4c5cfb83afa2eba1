-- By a program of this session, out of the translation (the print of the kit, with turns of its own). Lean checks it.
import Derived.Test.YtlkmjjojjlihaaaProg
import Derived.Below
import Derived.Deep.Draws
import Derived.Deep.AppendLies
import Derived.Maps.AppendAt
import Derived.OwnWalk
import Derived.Laws.BytesArg
import Derived.Laws.MakeOwn
import Derived.Laws.OwnMore
import Derived.Deep.OwnRows
import Derived.Tactics
import Derived.Lib.ConvBytes
import Derived.Laws.Slices
import Derived.WalkKit
import Derived.KernelRfl
import Derived.RowKit3
import Derived.Deep.LoopGhost
import Derived.Deep.QuietTactic
import Derived.BigQuiet
import Derived.WideLaws
import Derived.Deep.DeepCutAuto
import Derived.Deep.CutBlock
import Derived.Deep.RegionHeld3
import Derived.Laws.Rows
import Derived.Lib.AppendStr
import Derived.ArgAppend
import Derived.Laws.IdiomCopy
import Derived.OrdersHeld
import Derived.Laws.BitsLemmas
import Derived.RowKit
import Derived.Test.YtlkmjjojjlihaaaWWords
import Derived.Test.YtlkmjjojjlihaaaWLast
import Derived.Test.YtlkmjjojjlihaaaWTab
import Derived.Test.YtlkmjjojjlihaaaWFour
import Derived.Test.YtlkmjjojjlihaaaWQPut
import Derived.Test.YtlkmjjojjlihaaaWApart
import Derived.Test.YtlkmjjojjlihaaaWArr
import Derived.Test.YtlkmjjojjlihaaaWZeros
import Derived.Test.YtlkmjjojjlihaaaWFoot
import Derived.Test.YtlkmjjojjlihaaaWKept
import Derived.Test.YtlkmjjojjlihaaaWShare
import Derived.Test.YtlkmjjojjlihaaaWN
import Derived.Test.YtlkmjjojjlihaaaWFootNe
import Derived.Test.YtlkmjjojjlihaaaWAt
import Derived.Test.YtlkmjjojjlihaaaWEqStruct
import Derived.Test.YtlkmjjojjlihaaaWRepsOne
import Derived.Test.YtlkmjjojjlihaaaWInv
import Derived.Test.YtlkmjjojjlihaaaWInvWords
import Derived.Test.YtlkmjjojjlihaaaWGuard
import Derived.Test.YtlkmjjojjlihaaaWNEv
import Derived.Test.YtlkmjjojjlihaaaWMore
import Derived.Test.YtlkmjjojjlihaaaWUp
namespace Go.Proofs.Ytlkmjjojjlihaaa.PFnExactKids
open Go.RowKit Go.Proofs.YtlkmjjojjlihaaaW.PrintWords Go.Proofs.YtlkmjjojjlihaaaW.PrintLast Go.Proofs.YtlkmjjojjlihaaaW.PrintMore
attribute [local go_sem] max2_int min2_int max_two min_two max_three min_three max_four min_four   -- for this text's walks alone
set_option linter.unusedVariables false
set_option linter.unusedSimpArgs false



def errW : Option Int → Value
  | none => .nilIface
  | some c => .iface 0 (.int .i64 c)
theorem errW_none : errW none = .nilIface := rfl
theorem errW_some (c : Int) : errW (some c) = .iface 0 (.int .i64 c) := rfl

theorem info3 : (Try.prog.info? 3).map (fun i => (i.zero, i.size, i.bytes)) = some (some (.int .i64 0), 1, 8) := by kernel_rfl
-- the values' own types

end Go.Proofs.Ytlkmjjojjlihaaa.PFnExactKids
