/-
  No cell of these rows narrows 'for every input' (looked for: loops, veiled, ifaces, maps, wideKeys, modest, calm, conditions, laid).
  DERIVED. THE GIVEN ROWS OF THIS SEAT. 12 by the template 'for every input the law returns true; each argument reads behind the call as it read before'; 0 by the template 'total and deterministic' (their statements: YtlkmjjojjlihaaaTotals.lean).
  GIVEN WITH THE SEED: the statements are not yours to turn. If you find one false, say at which input.
  Laid BY PROGRAM, IN A SANDBOX (cutbox-rows.mjs): the forced cells as the released guide's own fill.sh prints them over the translation 06fe8a0d9863566c… (all of the seat's roots in one cut). By AI agents, Wed Nov 11 2026. No macro, syntax, notation, axiom, sorry.
-/
import Derived.Test.YtlkmjjojjlihaaaChecked
import GoSem.Claim
import GoSem.ClaimJoined
import GoSem.ClaimMapViews
import Derived.JoinedTies
import Derived.KernelRfl
namespace Go.Proofs.Ytlkmjjojjlihaaa
/- THE CELL 'sum', in the pinned program and in every row, IS THE sha256 OF THE DUMP (.gsa) THAT YtlkmjjojjlihaaaProg.lean LOADS. Nothing in Lean hashes anything: it is a label: what it is worth is what the hold of that sum in a sandbox is worth. -/
noncomputable def Try.pinned : Pinned := { name := "ytlkmjjojjlihaaa", sum := "06fe8a0d9863566c753fb877303691f969ce285eea3574eef0e651248adf682f", checked := Try.checked }
namespace Rows
def none {H : Type} : Left H := { results := [], args := [] }

/-- 'laws.FnExactRoot': WHATEVER THE INPUT: true; the input reads as it did. -/
def fnExactRootSpec : ChangeSpec := { name := "fnExactRoot", fn := fun _ => fun
  | [d1, d2] => { results := [.lit (.bool true)], args := [d1, d2] }
  | _ => none }
def fnExactRootRow : OpenClaim := { program := "ytlkmjjojjlihaaa", sum := "06fe8a0d9863566c753fb877303691f969ce285eea3574eef0e651248adf682f", func := "loop.example/g00448/laws.FnExactRoot", spec := "fnExactRoot", apart := false }
def FnExactRootSaid : Prop := fnExactRootRow.holds Try.pinned (OpenSpec.ofChange fnExactRootSpec)

/-- ITS FALSE NEIGHBOUR: 'it returns false'. Refute it at one input. -/
def fnExactRootWrong : ChangeSpec := { name := "fnExactRoot", fn := fun _ => fun
  | [d1, d2] => { results := [.lit (.bool false)], args := [d1, d2] }
  | _ => none }
def FnExactRootWrongFalsely : Prop := fnExactRootRow.holds Try.pinned (OpenSpec.ofChange fnExactRootWrong)

/-- 'laws.FnExactSeat': WHATEVER THE INPUT: true; the input reads as it did. -/
def fnExactSeatSpec : ChangeSpec := { name := "fnExactSeat", fn := fun _ => fun
  | [d1, d2, d3] => { results := [.lit (.bool true)], args := [d1, d2, d3] }
  | _ => none }
def fnExactSeatRow : OpenClaim := { program := "ytlkmjjojjlihaaa", sum := "06fe8a0d9863566c753fb877303691f969ce285eea3574eef0e651248adf682f", func := "loop.example/g00448/laws.FnExactSeat", spec := "fnExactSeat", apart := false }
def FnExactSeatSaid : Prop := fnExactSeatRow.holds Try.pinned (OpenSpec.ofChange fnExactSeatSpec)

/-- ITS FALSE NEIGHBOUR: 'it returns false'. Refute it at one input. -/
def fnExactSeatWrong : ChangeSpec := { name := "fnExactSeat", fn := fun _ => fun
  | [d1, d2, d3] => { results := [.lit (.bool false)], args := [d1, d2, d3] }
  | _ => none }
def FnExactSeatWrongFalsely : Prop := fnExactSeatRow.holds Try.pinned (OpenSpec.ofChange fnExactSeatWrong)

/-- 'laws.FnExactSits': WHATEVER THE INPUT: true; the input reads as it did. -/
def fnExactSitsSpec : ChangeSpec := { name := "fnExactSits", fn := fun _ => fun
  | [d1, d2, d3] => { results := [.lit (.bool true)], args := [d1, d2, d3] }
  | _ => none }
def fnExactSitsRow : OpenClaim := { program := "ytlkmjjojjlihaaa", sum := "06fe8a0d9863566c753fb877303691f969ce285eea3574eef0e651248adf682f", func := "loop.example/g00448/laws.FnExactSits", spec := "fnExactSits", apart := false }
def FnExactSitsSaid : Prop := fnExactSitsRow.holds Try.pinned (OpenSpec.ofChange fnExactSitsSpec)

/-- ITS FALSE NEIGHBOUR: 'it returns false'. Refute it at one input. -/
def fnExactSitsWrong : ChangeSpec := { name := "fnExactSits", fn := fun _ => fun
  | [d1, d2, d3] => { results := [.lit (.bool false)], args := [d1, d2, d3] }
  | _ => none }
def FnExactSitsWrongFalsely : Prop := fnExactSitsRow.holds Try.pinned (OpenSpec.ofChange fnExactSitsWrong)

/-- 'laws.FnExactUp': WHATEVER THE INPUT: true; the input reads as it did. -/
def fnExactUpSpec : ChangeSpec := { name := "fnExactUp", fn := fun _ => fun
  | [d1, d2, d3] => { results := [.lit (.bool true)], args := [d1, d2, d3] }
  | _ => none }
def fnExactUpRow : OpenClaim := { program := "ytlkmjjojjlihaaa", sum := "06fe8a0d9863566c753fb877303691f969ce285eea3574eef0e651248adf682f", func := "loop.example/g00448/laws.FnExactUp", spec := "fnExactUp", apart := false }
def FnExactUpSaid : Prop := fnExactUpRow.holds Try.pinned (OpenSpec.ofChange fnExactUpSpec)

/-- ITS FALSE NEIGHBOUR: 'it returns false'. Refute it at one input. -/
def fnExactUpWrong : ChangeSpec := { name := "fnExactUp", fn := fun _ => fun
  | [d1, d2, d3] => { results := [.lit (.bool false)], args := [d1, d2, d3] }
  | _ => none }
def FnExactUpWrongFalsely : Prop := fnExactUpRow.holds Try.pinned (OpenSpec.ofChange fnExactUpWrong)

/-- 'laws.FnExactDiskOk': WHATEVER THE INPUT: true; the input reads as it did. -/
def fnExactDiskOkSpec : ChangeSpec := { name := "fnExactDiskOk", fn := fun _ => fun
  | [d] => { results := [.lit (.bool true)], args := [d] }
  | _ => none }
def fnExactDiskOkRow : OpenClaim := { program := "ytlkmjjojjlihaaa", sum := "06fe8a0d9863566c753fb877303691f969ce285eea3574eef0e651248adf682f", func := "loop.example/g00448/laws.FnExactDiskOk", spec := "fnExactDiskOk", apart := false }
def FnExactDiskOkSaid : Prop := fnExactDiskOkRow.holds Try.pinned (OpenSpec.ofChange fnExactDiskOkSpec)

/-- ITS FALSE NEIGHBOUR: 'it returns false'. Refute it at one input. -/
def fnExactDiskOkWrong : ChangeSpec := { name := "fnExactDiskOk", fn := fun _ => fun
  | [d] => { results := [.lit (.bool false)], args := [d] }
  | _ => none }
def FnExactDiskOkWrongFalsely : Prop := fnExactDiskOkRow.holds Try.pinned (OpenSpec.ofChange fnExactDiskOkWrong)

/-- 'laws.FnExactSafeNew': WHATEVER THE INPUT: true; the input reads as it did. -/
def fnExactSafeNewSpec : ChangeSpec := { name := "fnExactSafeNew", fn := fun _ => fun
  | [] => { results := [.lit (.bool true)], args := [] }
  | _ => none }
def fnExactSafeNewRow : OpenClaim := { program := "ytlkmjjojjlihaaa", sum := "06fe8a0d9863566c753fb877303691f969ce285eea3574eef0e651248adf682f", func := "loop.example/g00448/laws.FnExactSafeNew", spec := "fnExactSafeNew", apart := false }
def FnExactSafeNewSaid : Prop := fnExactSafeNewRow.holds Try.pinned (OpenSpec.ofChange fnExactSafeNewSpec)

/-- ITS FALSE NEIGHBOUR: 'it returns false'. Refute it at one input. -/
def fnExactSafeNewWrong : ChangeSpec := { name := "fnExactSafeNew", fn := fun _ => fun
  | [] => { results := [.lit (.bool false)], args := [] }
  | _ => none }
def FnExactSafeNewWrongFalsely : Prop := fnExactSafeNewRow.holds Try.pinned (OpenSpec.ofChange fnExactSafeNewWrong)

/-- 'laws.FnExactQcSame': WHATEVER THE INPUT: true; the input reads as it did. -/
def fnExactQcSameSpec : ChangeSpec := { name := "fnExactQcSame", fn := fun _ => fun
  | [d1, d2] => { results := [.lit (.bool true)], args := [d1, d2] }
  | _ => none }
def fnExactQcSameRow : OpenClaim := { program := "ytlkmjjojjlihaaa", sum := "06fe8a0d9863566c753fb877303691f969ce285eea3574eef0e651248adf682f", func := "loop.example/g00448/laws.FnExactQcSame", spec := "fnExactQcSame", apart := false }
def FnExactQcSameSaid : Prop := fnExactQcSameRow.holds Try.pinned (OpenSpec.ofChange fnExactQcSameSpec)

/-- ITS FALSE NEIGHBOUR: 'it returns false'. Refute it at one input. -/
def fnExactQcSameWrong : ChangeSpec := { name := "fnExactQcSame", fn := fun _ => fun
  | [d1, d2] => { results := [.lit (.bool false)], args := [d1, d2] }
  | _ => none }
def FnExactQcSameWrongFalsely : Prop := fnExactQcSameRow.holds Try.pinned (OpenSpec.ofChange fnExactQcSameWrong)

/-- 'laws.FnExactWay': WHATEVER THE INPUT: true; the input reads as it did. -/
def fnExactWaySpec : ChangeSpec := { name := "fnExactWay", fn := fun _ => fun
  | [d1, d2, d3] => { results := [.lit (.bool true)], args := [d1, d2, d3] }
  | _ => none }
def fnExactWayRow : OpenClaim := { program := "ytlkmjjojjlihaaa", sum := "06fe8a0d9863566c753fb877303691f969ce285eea3574eef0e651248adf682f", func := "loop.example/g00448/laws.FnExactWay", spec := "fnExactWay", apart := false }
def FnExactWaySaid : Prop := fnExactWayRow.holds Try.pinned (OpenSpec.ofChange fnExactWaySpec)

/-- ITS FALSE NEIGHBOUR: 'it returns false'. Refute it at one input. -/
def fnExactWayWrong : ChangeSpec := { name := "fnExactWay", fn := fun _ => fun
  | [d1, d2, d3] => { results := [.lit (.bool false)], args := [d1, d2, d3] }
  | _ => none }
def FnExactWayWrongFalsely : Prop := fnExactWayRow.holds Try.pinned (OpenSpec.ofChange fnExactWayWrong)

/-- 'laws.FnExactKids': WHATEVER THE INPUT: true; the input reads as it did. -/
def fnExactKidsSpec : ChangeSpec := { name := "fnExactKids", fn := fun _ => fun
  | [d1, d2, d3] => { results := [.lit (.bool true)], args := [d1, d2, d3] }
  | _ => none }
def fnExactKidsRow : OpenClaim := { program := "ytlkmjjojjlihaaa", sum := "06fe8a0d9863566c753fb877303691f969ce285eea3574eef0e651248adf682f", func := "loop.example/g00448/laws.FnExactKids", spec := "fnExactKids", apart := false }
def FnExactKidsSaid : Prop := fnExactKidsRow.holds Try.pinned (OpenSpec.ofChange fnExactKidsSpec)

/-- ITS FALSE NEIGHBOUR: 'it returns false'. Refute it at one input. -/
def fnExactKidsWrong : ChangeSpec := { name := "fnExactKids", fn := fun _ => fun
  | [d1, d2, d3] => { results := [.lit (.bool false)], args := [d1, d2, d3] }
  | _ => none }
def FnExactKidsWrongFalsely : Prop := fnExactKidsRow.holds Try.pinned (OpenSpec.ofChange fnExactKidsWrong)

/-- 'laws.FnExactSync': WHATEVER THE INPUT: true; the input reads as it did. -/
def fnExactSyncSpec : ChangeSpec := { name := "fnExactSync", fn := fun _ => fun
  | [d] => { results := [.lit (.bool true)], args := [d] }
  | _ => none }
def fnExactSyncRow : OpenClaim := { program := "ytlkmjjojjlihaaa", sum := "06fe8a0d9863566c753fb877303691f969ce285eea3574eef0e651248adf682f", func := "loop.example/g00448/laws.FnExactSync", spec := "fnExactSync", apart := false }
def FnExactSyncSaid : Prop := fnExactSyncRow.holds Try.pinned (OpenSpec.ofChange fnExactSyncSpec)

/-- ITS FALSE NEIGHBOUR: 'it returns false'. Refute it at one input. -/
def fnExactSyncWrong : ChangeSpec := { name := "fnExactSync", fn := fun _ => fun
  | [d] => { results := [.lit (.bool false)], args := [d] }
  | _ => none }
def FnExactSyncWrongFalsely : Prop := fnExactSyncRow.holds Try.pinned (OpenSpec.ofChange fnExactSyncWrong)

/-- 'laws.FnExactQcLater': WHATEVER THE INPUT: true; the input reads as it did. -/
def fnExactQcLaterSpec : ChangeSpec := { name := "fnExactQcLater", fn := fun _ => fun
  | [d1, d2] => { results := [.lit (.bool true)], args := [d1, d2] }
  | _ => none }
def fnExactQcLaterRow : OpenClaim := { program := "ytlkmjjojjlihaaa", sum := "06fe8a0d9863566c753fb877303691f969ce285eea3574eef0e651248adf682f", func := "loop.example/g00448/laws.FnExactQcLater", spec := "fnExactQcLater", apart := false }
def FnExactQcLaterSaid : Prop := fnExactQcLaterRow.holds Try.pinned (OpenSpec.ofChange fnExactQcLaterSpec)

/-- ITS FALSE NEIGHBOUR: 'it returns false'. Refute it at one input. -/
def fnExactQcLaterWrong : ChangeSpec := { name := "fnExactQcLater", fn := fun _ => fun
  | [d1, d2] => { results := [.lit (.bool false)], args := [d1, d2] }
  | _ => none }
def FnExactQcLaterWrongFalsely : Prop := fnExactQcLaterRow.holds Try.pinned (OpenSpec.ofChange fnExactQcLaterWrong)

/-- 'laws.FnExactBlockSame': WHATEVER THE INPUT: true; the input reads as it did. -/
def fnExactBlockSameSpec : ChangeSpec := { name := "fnExactBlockSame", fn := fun _ => fun
  | [d1, d2] => { results := [.lit (.bool true)], args := [d1, d2] }
  | _ => none }
def fnExactBlockSameRow : OpenClaim := { program := "ytlkmjjojjlihaaa", sum := "06fe8a0d9863566c753fb877303691f969ce285eea3574eef0e651248adf682f", func := "loop.example/g00448/laws.FnExactBlockSame", spec := "fnExactBlockSame", apart := false }
def FnExactBlockSameSaid : Prop := fnExactBlockSameRow.holds Try.pinned (OpenSpec.ofChange fnExactBlockSameSpec)

/-- ITS FALSE NEIGHBOUR: 'it returns false'. Refute it at one input. -/
def fnExactBlockSameWrong : ChangeSpec := { name := "fnExactBlockSame", fn := fun _ => fun
  | [d1, d2] => { results := [.lit (.bool false)], args := [d1, d2] }
  | _ => none }
def FnExactBlockSameWrongFalsely : Prop := fnExactBlockSameRow.holds Try.pinned (OpenSpec.ofChange fnExactBlockSameWrong)

/- THE SECOND FORM. 'bulk': how many values and letters a reading holds, each counted each time it is reached (what is shared counts as often as it is met; a slice's spare places count too). A statement '..UptoSaid' is the law's where the arguments, and the package variables that the reading takes, are together of bulk at most 1048576: NARROWER than '..Said'. Prove '..Said' where nothing that the law and all that it calls make is longer than what came in: it says more and counts as full. Else prove '..UptoSaid'. A law counts once. -/
mutual
def uptoBulk {H : Type} : DataW H → Nat
  | .lit (.string bytes) => bytes.length + 1
  | .lit _ => 1
  | .nil => 1
  | .ptr d => uptoBulk d + 1
  | .slice elems spare => uptoBulkAll elems + uptoBulkAll spare + 1
  | .agg parts => uptoBulkAll parts + 1
  | .iface _ d => uptoBulk d + 1
  | .map entries => uptoBulkEntries entries + 1
  | .held _ => 1
def uptoBulkAll {H : Type} : List (DataW H) → Nat
  | [] => 0
  | d :: r => uptoBulk d + uptoBulkAll r
def uptoBulkEntries {H : Type} : List (Lit × DataW H) → Nat
  | [] => 0
  | x :: r => uptoBulkEntry x + uptoBulkEntries r
def uptoBulkEntry {H : Type} : Lit × DataW H → Nat
  | (.string bytes, d) => bytes.length + uptoBulk d + 1
  | (_, d) => uptoBulk d + 1
 end
def uptoSmall : (H : Type) → List (DataW H) → Bool := fun _ ds => decide (uptoBulkAll ds ≤ 1048576)
def OpenSpec.upto (s : _root_.Go.ChangeSpec) : _root_.Go.OpenSpec := { _root_.Go.OpenSpec.ofChange s with cond := some uptoSmall }

/-- 'laws.FnExactRoot', WHERE WHAT IT READS IS OF BULK AT MOST 1048576: true; the input reads as it did. -/
def fnExactRootUptoRow : OpenClaim := { program := "ytlkmjjojjlihaaa", sum := "06fe8a0d9863566c753fb877303691f969ce285eea3574eef0e651248adf682f", func := "loop.example/g00448/laws.FnExactRoot", spec := "fnExactRoot", apart := false, narrowed := true }
def FnExactRootUptoSaid : Prop := fnExactRootUptoRow.holds Try.pinned (OpenSpec.upto fnExactRootSpec)

/-- 'laws.FnExactSeat', WHERE WHAT IT READS IS OF BULK AT MOST 1048576: true; the input reads as it did. -/
def fnExactSeatUptoRow : OpenClaim := { program := "ytlkmjjojjlihaaa", sum := "06fe8a0d9863566c753fb877303691f969ce285eea3574eef0e651248adf682f", func := "loop.example/g00448/laws.FnExactSeat", spec := "fnExactSeat", apart := false, narrowed := true }
def FnExactSeatUptoSaid : Prop := fnExactSeatUptoRow.holds Try.pinned (OpenSpec.upto fnExactSeatSpec)

/-- 'laws.FnExactSits', WHERE WHAT IT READS IS OF BULK AT MOST 1048576: true; the input reads as it did. -/
def fnExactSitsUptoRow : OpenClaim := { program := "ytlkmjjojjlihaaa", sum := "06fe8a0d9863566c753fb877303691f969ce285eea3574eef0e651248adf682f", func := "loop.example/g00448/laws.FnExactSits", spec := "fnExactSits", apart := false, narrowed := true }
def FnExactSitsUptoSaid : Prop := fnExactSitsUptoRow.holds Try.pinned (OpenSpec.upto fnExactSitsSpec)

/-- 'laws.FnExactUp', WHERE WHAT IT READS IS OF BULK AT MOST 1048576: true; the input reads as it did. -/
def fnExactUpUptoRow : OpenClaim := { program := "ytlkmjjojjlihaaa", sum := "06fe8a0d9863566c753fb877303691f969ce285eea3574eef0e651248adf682f", func := "loop.example/g00448/laws.FnExactUp", spec := "fnExactUp", apart := false, narrowed := true }
def FnExactUpUptoSaid : Prop := fnExactUpUptoRow.holds Try.pinned (OpenSpec.upto fnExactUpSpec)

/-- 'laws.FnExactDiskOk', WHERE WHAT IT READS IS OF BULK AT MOST 1048576: true; the input reads as it did. -/
def fnExactDiskOkUptoRow : OpenClaim := { program := "ytlkmjjojjlihaaa", sum := "06fe8a0d9863566c753fb877303691f969ce285eea3574eef0e651248adf682f", func := "loop.example/g00448/laws.FnExactDiskOk", spec := "fnExactDiskOk", apart := false, narrowed := true }
def FnExactDiskOkUptoSaid : Prop := fnExactDiskOkUptoRow.holds Try.pinned (OpenSpec.upto fnExactDiskOkSpec)

/-- 'laws.FnExactSafeNew', WHERE WHAT IT READS IS OF BULK AT MOST 1048576: true; the input reads as it did. -/
def fnExactSafeNewUptoRow : OpenClaim := { program := "ytlkmjjojjlihaaa", sum := "06fe8a0d9863566c753fb877303691f969ce285eea3574eef0e651248adf682f", func := "loop.example/g00448/laws.FnExactSafeNew", spec := "fnExactSafeNew", apart := false, narrowed := true }
def FnExactSafeNewUptoSaid : Prop := fnExactSafeNewUptoRow.holds Try.pinned (OpenSpec.upto fnExactSafeNewSpec)

/-- 'laws.FnExactQcSame', WHERE WHAT IT READS IS OF BULK AT MOST 1048576: true; the input reads as it did. -/
def fnExactQcSameUptoRow : OpenClaim := { program := "ytlkmjjojjlihaaa", sum := "06fe8a0d9863566c753fb877303691f969ce285eea3574eef0e651248adf682f", func := "loop.example/g00448/laws.FnExactQcSame", spec := "fnExactQcSame", apart := false, narrowed := true }
def FnExactQcSameUptoSaid : Prop := fnExactQcSameUptoRow.holds Try.pinned (OpenSpec.upto fnExactQcSameSpec)

/-- 'laws.FnExactWay', WHERE WHAT IT READS IS OF BULK AT MOST 1048576: true; the input reads as it did. -/
def fnExactWayUptoRow : OpenClaim := { program := "ytlkmjjojjlihaaa", sum := "06fe8a0d9863566c753fb877303691f969ce285eea3574eef0e651248adf682f", func := "loop.example/g00448/laws.FnExactWay", spec := "fnExactWay", apart := false, narrowed := true }
def FnExactWayUptoSaid : Prop := fnExactWayUptoRow.holds Try.pinned (OpenSpec.upto fnExactWaySpec)

/-- 'laws.FnExactKids', WHERE WHAT IT READS IS OF BULK AT MOST 1048576: true; the input reads as it did. -/
def fnExactKidsUptoRow : OpenClaim := { program := "ytlkmjjojjlihaaa", sum := "06fe8a0d9863566c753fb877303691f969ce285eea3574eef0e651248adf682f", func := "loop.example/g00448/laws.FnExactKids", spec := "fnExactKids", apart := false, narrowed := true }
def FnExactKidsUptoSaid : Prop := fnExactKidsUptoRow.holds Try.pinned (OpenSpec.upto fnExactKidsSpec)

/-- 'laws.FnExactSync', WHERE WHAT IT READS IS OF BULK AT MOST 1048576: true; the input reads as it did. -/
def fnExactSyncUptoRow : OpenClaim := { program := "ytlkmjjojjlihaaa", sum := "06fe8a0d9863566c753fb877303691f969ce285eea3574eef0e651248adf682f", func := "loop.example/g00448/laws.FnExactSync", spec := "fnExactSync", apart := false, narrowed := true }
def FnExactSyncUptoSaid : Prop := fnExactSyncUptoRow.holds Try.pinned (OpenSpec.upto fnExactSyncSpec)

/-- 'laws.FnExactQcLater', WHERE WHAT IT READS IS OF BULK AT MOST 1048576: true; the input reads as it did. -/
def fnExactQcLaterUptoRow : OpenClaim := { program := "ytlkmjjojjlihaaa", sum := "06fe8a0d9863566c753fb877303691f969ce285eea3574eef0e651248adf682f", func := "loop.example/g00448/laws.FnExactQcLater", spec := "fnExactQcLater", apart := false, narrowed := true }
def FnExactQcLaterUptoSaid : Prop := fnExactQcLaterUptoRow.holds Try.pinned (OpenSpec.upto fnExactQcLaterSpec)

/-- 'laws.FnExactBlockSame', WHERE WHAT IT READS IS OF BULK AT MOST 1048576: true; the input reads as it did. -/
def fnExactBlockSameUptoRow : OpenClaim := { program := "ytlkmjjojjlihaaa", sum := "06fe8a0d9863566c753fb877303691f969ce285eea3574eef0e651248adf682f", func := "loop.example/g00448/laws.FnExactBlockSame", spec := "fnExactBlockSame", apart := false, narrowed := true }
def FnExactBlockSameUptoSaid : Prop := fnExactBlockSameUptoRow.holds Try.pinned (OpenSpec.upto fnExactBlockSameSpec)

end Rows
end Go.Proofs.Ytlkmjjojjlihaaa
