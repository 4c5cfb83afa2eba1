/-
  No cell of these rows narrows 'for every input' (looked for: loops, veiled, ifaces, maps, wideKeys, modest, calm, conditions, laid).
  DERIVED. THE GIVEN ROWS OF THIS SEAT. 9 by the template 'for every input the law returns true; each argument reads behind the call as it read before'; 0 by the template 'total and deterministic' (their statements: YtjbkdffimfbdnaaTotals.lean).
  GIVEN WITH THE SEED: the statements are not yours to turn. If you find one false, say at which input.
  Laid BY PROGRAM, IN A SANDBOX (cutbox-rows.mjs): the forced cells as the released guide's own fill.sh prints them over the translation 830a7cee253f1d75… (all of the seat's roots in one cut). By AI agents, Wed Nov 11 2026. No macro, syntax, notation, axiom, sorry.
-/
import Derived.Test.YtjbkdffimfbdnaaChecked
import GoSem.Claim
import GoSem.ClaimJoined
import GoSem.ClaimMapViews
import Derived.JoinedTies
import Derived.KernelRfl
namespace Go.Proofs.Ytjbkdffimfbdnaa
/- THE CELL 'sum', in the pinned program and in every row, IS THE sha256 OF THE DUMP (.gsa) THAT YtjbkdffimfbdnaaProg.lean LOADS. Nothing in Lean hashes anything: it is a label: what it is worth is what the hold of that sum in a sandbox is worth. -/
noncomputable def Try.pinned : Pinned := { name := "ytjbkdffimfbdnaa", sum := "830a7cee253f1d75593c32ff09d6e1bcc67624c8496f0ff2baf900350471ac47", checked := Try.checked }
namespace Rows
def none {H : Type} : Left H := { results := [], args := [] }

/-- 'laws.FnExactSafeSame': WHATEVER THE INPUT: true; the input reads as it did. -/
def fnExactSafeSameSpec : ChangeSpec := { name := "fnExactSafeSame", fn := fun _ => fun
  | [d1, d2] => { results := [.lit (.bool true)], args := [d1, d2] }
  | _ => none }
def fnExactSafeSameRow : OpenClaim := { program := "ytjbkdffimfbdnaa", sum := "830a7cee253f1d75593c32ff09d6e1bcc67624c8496f0ff2baf900350471ac47", func := "loop.example/g00448/laws.FnExactSafeSame", spec := "fnExactSafeSame", apart := false }
def FnExactSafeSameSaid : Prop := fnExactSafeSameRow.holds Try.pinned (OpenSpec.ofChange fnExactSafeSameSpec)

/-- ITS FALSE NEIGHBOUR: 'it returns false'. Refute it at one input. -/
def fnExactSafeSameWrong : ChangeSpec := { name := "fnExactSafeSame", fn := fun _ => fun
  | [d1, d2] => { results := [.lit (.bool false)], args := [d1, d2] }
  | _ => none }
def FnExactSafeSameWrongFalsely : Prop := fnExactSafeSameRow.holds Try.pinned (OpenSpec.ofChange fnExactSafeSameWrong)

/-- 'laws.FnExactUnder': WHATEVER THE INPUT: true; the input reads as it did. -/
def fnExactUnderSpec : ChangeSpec := { name := "fnExactUnder", fn := fun _ => fun
  | [d1, d2, d3] => { results := [.lit (.bool true)], args := [d1, d2, d3] }
  | _ => none }
def fnExactUnderRow : OpenClaim := { program := "ytjbkdffimfbdnaa", sum := "830a7cee253f1d75593c32ff09d6e1bcc67624c8496f0ff2baf900350471ac47", func := "loop.example/g00448/laws.FnExactUnder", spec := "fnExactUnder", apart := false }
def FnExactUnderSaid : Prop := fnExactUnderRow.holds Try.pinned (OpenSpec.ofChange fnExactUnderSpec)

/-- ITS FALSE NEIGHBOUR: 'it returns false'. Refute it at one input. -/
def fnExactUnderWrong : ChangeSpec := { name := "fnExactUnder", fn := fun _ => fun
  | [d1, d2, d3] => { results := [.lit (.bool false)], args := [d1, d2, d3] }
  | _ => none }
def FnExactUnderWrongFalsely : Prop := fnExactUnderRow.holds Try.pinned (OpenSpec.ofChange fnExactUnderWrong)

/-- 'laws.FnExactTableGet': WHATEVER THE INPUT: true; the input reads as it did. -/
def fnExactTableGetSpec : ChangeSpec := { name := "fnExactTableGet", fn := fun _ => fun
  | [d1, d2, d3] => { results := [.lit (.bool true)], args := [d1, d2, d3] }
  | _ => none }
def fnExactTableGetRow : OpenClaim := { program := "ytjbkdffimfbdnaa", sum := "830a7cee253f1d75593c32ff09d6e1bcc67624c8496f0ff2baf900350471ac47", func := "loop.example/g00448/laws.FnExactTableGet", spec := "fnExactTableGet", apart := false }
def FnExactTableGetSaid : Prop := fnExactTableGetRow.holds Try.pinned (OpenSpec.ofChange fnExactTableGetSpec)

/-- ITS FALSE NEIGHBOUR: 'it returns false'. Refute it at one input. -/
def fnExactTableGetWrong : ChangeSpec := { name := "fnExactTableGet", fn := fun _ => fun
  | [d1, d2, d3] => { results := [.lit (.bool false)], args := [d1, d2, d3] }
  | _ => none }
def FnExactTableGetWrongFalsely : Prop := fnExactTableGetRow.holds Try.pinned (OpenSpec.ofChange fnExactTableGetWrong)

/-- 'laws.FnExactTableDrop': WHATEVER THE INPUT: true; the input reads as it did. -/
def fnExactTableDropSpec : ChangeSpec := { name := "fnExactTableDrop", fn := fun _ => fun
  | [d1, d2] => { results := [.lit (.bool true)], args := [d1, d2] }
  | _ => none }
def fnExactTableDropRow : OpenClaim := { program := "ytjbkdffimfbdnaa", sum := "830a7cee253f1d75593c32ff09d6e1bcc67624c8496f0ff2baf900350471ac47", func := "loop.example/g00448/laws.FnExactTableDrop", spec := "fnExactTableDrop", apart := false }
def FnExactTableDropSaid : Prop := fnExactTableDropRow.holds Try.pinned (OpenSpec.ofChange fnExactTableDropSpec)

/-- ITS FALSE NEIGHBOUR: 'it returns false'. Refute it at one input. -/
def fnExactTableDropWrong : ChangeSpec := { name := "fnExactTableDrop", fn := fun _ => fun
  | [d1, d2] => { results := [.lit (.bool false)], args := [d1, d2] }
  | _ => none }
def FnExactTableDropWrongFalsely : Prop := fnExactTableDropRow.holds Try.pinned (OpenSpec.ofChange fnExactTableDropWrong)

/-- 'laws.FnUnderAll': WHATEVER THE INPUT: true; the input reads as it did. -/
def fnUnderAllSpec : ChangeSpec := { name := "fnUnderAll", fn := fun _ => fun
  | [d] => { results := [.lit (.bool true)], args := [d] }
  | _ => none }
def fnUnderAllRow : OpenClaim := { program := "ytjbkdffimfbdnaa", sum := "830a7cee253f1d75593c32ff09d6e1bcc67624c8496f0ff2baf900350471ac47", func := "loop.example/g00448/laws.FnUnderAll", spec := "fnUnderAll", apart := false }
def FnUnderAllSaid : Prop := fnUnderAllRow.holds Try.pinned (OpenSpec.ofChange fnUnderAllSpec)

/-- ITS FALSE NEIGHBOUR: 'it returns false'. Refute it at one input. -/
def fnUnderAllWrong : ChangeSpec := { name := "fnUnderAll", fn := fun _ => fun
  | [d] => { results := [.lit (.bool false)], args := [d] }
  | _ => none }
def FnUnderAllWrongFalsely : Prop := fnUnderAllRow.holds Try.pinned (OpenSpec.ofChange fnUnderAllWrong)

/-- 'laws.FnTrees': WHATEVER THE INPUT: true; the input reads as it did. -/
def fnTreesSpec : ChangeSpec := { name := "fnTrees", fn := fun _ => fun
  | [d] => { results := [.lit (.bool true)], args := [d] }
  | _ => none }
def fnTreesRow : OpenClaim := { program := "ytjbkdffimfbdnaa", sum := "830a7cee253f1d75593c32ff09d6e1bcc67624c8496f0ff2baf900350471ac47", func := "loop.example/g00448/laws.FnTrees", spec := "fnTrees", apart := false }
def FnTreesSaid : Prop := fnTreesRow.holds Try.pinned (OpenSpec.ofChange fnTreesSpec)

/-- ITS FALSE NEIGHBOUR: 'it returns false'. Refute it at one input. -/
def fnTreesWrong : ChangeSpec := { name := "fnTrees", fn := fun _ => fun
  | [d] => { results := [.lit (.bool false)], args := [d] }
  | _ => none }
def FnTreesWrongFalsely : Prop := fnTreesRow.holds Try.pinned (OpenSpec.ofChange fnTreesWrong)

/-- 'laws.FnRootsTurn': WHATEVER THE INPUT: true; the input reads as it did. -/
def fnRootsTurnSpec : ChangeSpec := { name := "fnRootsTurn", fn := fun _ => fun
  | [d] => { results := [.lit (.bool true)], args := [d] }
  | _ => none }
def fnRootsTurnRow : OpenClaim := { program := "ytjbkdffimfbdnaa", sum := "830a7cee253f1d75593c32ff09d6e1bcc67624c8496f0ff2baf900350471ac47", func := "loop.example/g00448/laws.FnRootsTurn", spec := "fnRootsTurn", inPlace := ["slices.overlaps[int]"], unfollowed := true, recurses := true, apart := false }
def FnRootsTurnSaid : Prop := fnRootsTurnRow.holds Try.pinned (OpenSpec.ofChange fnRootsTurnSpec)

/-- ITS FALSE NEIGHBOUR: 'it returns false'. Refute it at one input. -/
def fnRootsTurnWrong : ChangeSpec := { name := "fnRootsTurn", fn := fun _ => fun
  | [d] => { results := [.lit (.bool false)], args := [d] }
  | _ => none }
def FnRootsTurnWrongFalsely : Prop := fnRootsTurnRow.holds Try.pinned (OpenSpec.ofChange fnRootsTurnWrong)

/-- 'laws.FnExactPartJoin': WHATEVER THE INPUT: true; the input reads as it did. -/
def fnExactPartJoinSpec : ChangeSpec := { name := "fnExactPartJoin", fn := fun _ => fun
  | [d1, d2] => { results := [.lit (.bool true)], args := [d1, d2] }
  | _ => none }
def fnExactPartJoinRow : OpenClaim := { program := "ytjbkdffimfbdnaa", sum := "830a7cee253f1d75593c32ff09d6e1bcc67624c8496f0ff2baf900350471ac47", func := "loop.example/g00448/laws.FnExactPartJoin", spec := "fnExactPartJoin", inPlace := ["slices.overlaps[int]"], unfollowed := true, recurses := true, apart := false }
def FnExactPartJoinSaid : Prop := fnExactPartJoinRow.holds Try.pinned (OpenSpec.ofChange fnExactPartJoinSpec)

/-- ITS FALSE NEIGHBOUR: 'it returns false'. Refute it at one input. -/
def fnExactPartJoinWrong : ChangeSpec := { name := "fnExactPartJoin", fn := fun _ => fun
  | [d1, d2] => { results := [.lit (.bool false)], args := [d1, d2] }
  | _ => none }
def FnExactPartJoinWrongFalsely : Prop := fnExactPartJoinRow.holds Try.pinned (OpenSpec.ofChange fnExactPartJoinWrong)

/-- 'laws.FnDropsBelow': WHATEVER THE INPUT: true; the input reads as it did. -/
def fnDropsBelowSpec : ChangeSpec := { name := "fnDropsBelow", fn := fun _ => fun
  | [d] => { results := [.lit (.bool true)], args := [d] }
  | _ => none }
def fnDropsBelowRow : OpenClaim := { program := "ytjbkdffimfbdnaa", sum := "830a7cee253f1d75593c32ff09d6e1bcc67624c8496f0ff2baf900350471ac47", func := "loop.example/g00448/laws.FnDropsBelow", spec := "fnDropsBelow", apart := false }
def FnDropsBelowSaid : Prop := fnDropsBelowRow.holds Try.pinned (OpenSpec.ofChange fnDropsBelowSpec)

/-- ITS FALSE NEIGHBOUR: 'it returns false'. Refute it at one input. -/
def fnDropsBelowWrong : ChangeSpec := { name := "fnDropsBelow", fn := fun _ => fun
  | [d] => { results := [.lit (.bool false)], args := [d] }
  | _ => none }
def FnDropsBelowWrongFalsely : Prop := fnDropsBelowRow.holds Try.pinned (OpenSpec.ofChange fnDropsBelowWrong)

/- THE SECOND FORM. 'bulk': how many values and letters a reading holds, each counted each time it is reached (what is shared counts as often as it is met; a slice's spare places count too). A statement '..UptoSaid' is the law's where the arguments, and the package variables that the reading takes, are together of bulk at most 1048576: NARROWER than '..Said'. Prove '..Said' where nothing that the law and all that it calls make is longer than what came in: it says more and counts as full. Else prove '..UptoSaid'. A law counts once. -/
mutual
def uptoBulk {H : Type} : DataW H → Nat
  | .lit (.string bytes) => bytes.length + 1
  | .lit _ => 1
  | .nil => 1
  | .ptr d => uptoBulk d + 1
  | .slice elems spare => uptoBulkAll elems + uptoBulkAll spare + 1
  | .agg parts => uptoBulkAll parts + 1
  | .iface _ d => uptoBulk d + 1
  | .map entries => uptoBulkEntries entries + 1
  | .held _ => 1
def uptoBulkAll {H : Type} : List (DataW H) → Nat
  | [] => 0
  | d :: r => uptoBulk d + uptoBulkAll r
def uptoBulkEntries {H : Type} : List (Lit × DataW H) → Nat
  | [] => 0
  | x :: r => uptoBulkEntry x + uptoBulkEntries r
def uptoBulkEntry {H : Type} : Lit × DataW H → Nat
  | (.string bytes, d) => bytes.length + uptoBulk d + 1
  | (_, d) => uptoBulk d + 1
 end
def uptoSmall : (H : Type) → List (DataW H) → Bool := fun _ ds => decide (uptoBulkAll ds ≤ 1048576)
def OpenSpec.upto (s : _root_.Go.ChangeSpec) : _root_.Go.OpenSpec := { _root_.Go.OpenSpec.ofChange s with cond := some uptoSmall }

/-- 'laws.FnExactSafeSame', WHERE WHAT IT READS IS OF BULK AT MOST 1048576: true; the input reads as it did. -/
def fnExactSafeSameUptoRow : OpenClaim := { program := "ytjbkdffimfbdnaa", sum := "830a7cee253f1d75593c32ff09d6e1bcc67624c8496f0ff2baf900350471ac47", func := "loop.example/g00448/laws.FnExactSafeSame", spec := "fnExactSafeSame", apart := false, narrowed := true }
def FnExactSafeSameUptoSaid : Prop := fnExactSafeSameUptoRow.holds Try.pinned (OpenSpec.upto fnExactSafeSameSpec)

/-- 'laws.FnExactUnder', WHERE WHAT IT READS IS OF BULK AT MOST 1048576: true; the input reads as it did. -/
def fnExactUnderUptoRow : OpenClaim := { program := "ytjbkdffimfbdnaa", sum := "830a7cee253f1d75593c32ff09d6e1bcc67624c8496f0ff2baf900350471ac47", func := "loop.example/g00448/laws.FnExactUnder", spec := "fnExactUnder", apart := false, narrowed := true }
def FnExactUnderUptoSaid : Prop := fnExactUnderUptoRow.holds Try.pinned (OpenSpec.upto fnExactUnderSpec)

/-- 'laws.FnExactTableGet', WHERE WHAT IT READS IS OF BULK AT MOST 1048576: true; the input reads as it did. -/
def fnExactTableGetUptoRow : OpenClaim := { program := "ytjbkdffimfbdnaa", sum := "830a7cee253f1d75593c32ff09d6e1bcc67624c8496f0ff2baf900350471ac47", func := "loop.example/g00448/laws.FnExactTableGet", spec := "fnExactTableGet", apart := false, narrowed := true }
def FnExactTableGetUptoSaid : Prop := fnExactTableGetUptoRow.holds Try.pinned (OpenSpec.upto fnExactTableGetSpec)

/-- 'laws.FnExactTableDrop', WHERE WHAT IT READS IS OF BULK AT MOST 1048576: true; the input reads as it did. -/
def fnExactTableDropUptoRow : OpenClaim := { program := "ytjbkdffimfbdnaa", sum := "830a7cee253f1d75593c32ff09d6e1bcc67624c8496f0ff2baf900350471ac47", func := "loop.example/g00448/laws.FnExactTableDrop", spec := "fnExactTableDrop", apart := false, narrowed := true }
def FnExactTableDropUptoSaid : Prop := fnExactTableDropUptoRow.holds Try.pinned (OpenSpec.upto fnExactTableDropSpec)

/-- 'laws.FnUnderAll', WHERE WHAT IT READS IS OF BULK AT MOST 1048576: true; the input reads as it did. -/
def fnUnderAllUptoRow : OpenClaim := { program := "ytjbkdffimfbdnaa", sum := "830a7cee253f1d75593c32ff09d6e1bcc67624c8496f0ff2baf900350471ac47", func := "loop.example/g00448/laws.FnUnderAll", spec := "fnUnderAll", apart := false, narrowed := true }
def FnUnderAllUptoSaid : Prop := fnUnderAllUptoRow.holds Try.pinned (OpenSpec.upto fnUnderAllSpec)

/-- 'laws.FnTrees', WHERE WHAT IT READS IS OF BULK AT MOST 1048576: true; the input reads as it did. -/
def fnTreesUptoRow : OpenClaim := { program := "ytjbkdffimfbdnaa", sum := "830a7cee253f1d75593c32ff09d6e1bcc67624c8496f0ff2baf900350471ac47", func := "loop.example/g00448/laws.FnTrees", spec := "fnTrees", apart := false, narrowed := true }
def FnTreesUptoSaid : Prop := fnTreesUptoRow.holds Try.pinned (OpenSpec.upto fnTreesSpec)

/-- 'laws.FnRootsTurn', WHERE WHAT IT READS IS OF BULK AT MOST 1048576: true; the input reads as it did. -/
def fnRootsTurnUptoRow : OpenClaim := { program := "ytjbkdffimfbdnaa", sum := "830a7cee253f1d75593c32ff09d6e1bcc67624c8496f0ff2baf900350471ac47", func := "loop.example/g00448/laws.FnRootsTurn", spec := "fnRootsTurn", inPlace := ["slices.overlaps[int]"], unfollowed := true, recurses := true, apart := false, narrowed := true }
def FnRootsTurnUptoSaid : Prop := fnRootsTurnUptoRow.holds Try.pinned (OpenSpec.upto fnRootsTurnSpec)

/-- 'laws.FnExactPartJoin', WHERE WHAT IT READS IS OF BULK AT MOST 1048576: true; the input reads as it did. -/
def fnExactPartJoinUptoRow : OpenClaim := { program := "ytjbkdffimfbdnaa", sum := "830a7cee253f1d75593c32ff09d6e1bcc67624c8496f0ff2baf900350471ac47", func := "loop.example/g00448/laws.FnExactPartJoin", spec := "fnExactPartJoin", inPlace := ["slices.overlaps[int]"], unfollowed := true, recurses := true, apart := false, narrowed := true }
def FnExactPartJoinUptoSaid : Prop := fnExactPartJoinUptoRow.holds Try.pinned (OpenSpec.upto fnExactPartJoinSpec)

/-- 'laws.FnDropsBelow', WHERE WHAT IT READS IS OF BULK AT MOST 1048576: true; the input reads as it did. -/
def fnDropsBelowUptoRow : OpenClaim := { program := "ytjbkdffimfbdnaa", sum := "830a7cee253f1d75593c32ff09d6e1bcc67624c8496f0ff2baf900350471ac47", func := "loop.example/g00448/laws.FnDropsBelow", spec := "fnDropsBelow", apart := false, narrowed := true }
def FnDropsBelowUptoSaid : Prop := fnDropsBelowUptoRow.holds Try.pinned (OpenSpec.upto fnDropsBelowSpec)

end Rows
end Go.Proofs.Ytjbkdffimfbdnaa
