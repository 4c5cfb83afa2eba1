/-
  NARROWER THAN 'FOR EVERY INPUT', by the rows' own cells (each row's printed sentence says how): FnExactSettles: laid · FnExactPartOk: laid · FnExactQcOk: laid · FnExactTableOk: laid · FnExactSafeOk: laid · FnExactPartQc: laid · FnExactBlockOk: laid · FnExactQcBytes: laid · FnExactMayVote: laid · FnTooFew: laid · FnExactSafeBytes: laid · FnExactQcOf: laid.
  DERIVED. THE GIVEN ROWS OF THIS SEAT. 12 by the template 'for every input the law returns true; each argument reads behind the call as it read before'; 0 by the template 'total and deterministic' (their statements: YtcmldmlmhpfjhaaDoorTotals.lean).
  GIVEN WITH THE SEED: the statements are not yours to turn. If you find one false, say at which input.
  Laid BY PROGRAM, IN A SANDBOX (cutbox-rows.mjs): the forced cells as the released guide's own fill.sh prints them over the translation 962533179a792346… (all of the seat's roots in one cut). By AI agents, Wed Nov 11 2026. No macro, syntax, notation, axiom, sorry.
-/
import Derived.Test.YtcmldmlmhpfjhaaDoorChecked
import GoSem.PinnedTables
import GoSem.Claim
import GoSem.ClaimJoined
import GoSem.ClaimMapViews
import Derived.JoinedTies
import Derived.KernelRfl
namespace Go.Proofs.YtcmldmlmhpfjhaaDoor
/- THE CELL 'sum', in the pinned program and in every row, IS THE sha256 OF THE DUMP (.gsa) THAT YtcmldmlmhpfjhaaDoorProg.lean LOADS. Nothing in Lean hashes anything: it is a label: what it is worth is what the hold of that sum in a sandbox is worth. -/
noncomputable def Tryd.pinned : Pinned := { name := "ytcmldmlmhpfjhaadoor", sum := "962533179a792346536c85391113d6f79b8353d59a053e768a1ce722f633ba7f", checked := Tryd.checked }
namespace Rows
def none {H : Type} : Left H := { results := [], args := [] }

/- WHAT THE LISTED PACKAGE-LEVEL VARIABLES READ AS WHEN THE CALL BEGINS. Each datum BY PROGRAM (the guide's laid-datum.mjs) off the statement by which the dump's own 'gosem.cut.vars' lays the variable. In a bare row this is a premise. The card (YtcmldmlmhpfjhaaDoorCards.lean) ties it to the program's text. -/
def laid_math_bits_deBruijn32tab {H : Type} : DataW H := .agg [.lit (.int .u8 0), .lit (.int .u8 1), .lit (.int .u8 28), .lit (.int .u8 2), .lit (.int .u8 29), .lit (.int .u8 14), .lit (.int .u8 24), .lit (.int .u8 3), .lit (.int .u8 30), .lit (.int .u8 22), .lit (.int .u8 20), .lit (.int .u8 15), .lit (.int .u8 25), .lit (.int .u8 17), .lit (.int .u8 4), .lit (.int .u8 8), .lit (.int .u8 31), .lit (.int .u8 27), .lit (.int .u8 13), .lit (.int .u8 23), .lit (.int .u8 21), .lit (.int .u8 19), .lit (.int .u8 16), .lit (.int .u8 7), .lit (.int .u8 26), .lit (.int .u8 12), .lit (.int .u8 18), .lit (.int .u8 6), .lit (.int .u8 11), .lit (.int .u8 5), .lit (.int .u8 10), .lit (.int .u8 9)]
def laid_math_bits_deBruijn64tab {H : Type} : DataW H := .agg [.lit (.int .u8 0), .lit (.int .u8 1), .lit (.int .u8 56), .lit (.int .u8 2), .lit (.int .u8 57), .lit (.int .u8 49), .lit (.int .u8 28), .lit (.int .u8 3), .lit (.int .u8 61), .lit (.int .u8 58), .lit (.int .u8 42), .lit (.int .u8 50), .lit (.int .u8 38), .lit (.int .u8 29), .lit (.int .u8 17), .lit (.int .u8 4), .lit (.int .u8 62), .lit (.int .u8 47), .lit (.int .u8 59), .lit (.int .u8 36), .lit (.int .u8 45), .lit (.int .u8 43), .lit (.int .u8 51), .lit (.int .u8 22), .lit (.int .u8 53), .lit (.int .u8 39), .lit (.int .u8 33), .lit (.int .u8 30), .lit (.int .u8 24), .lit (.int .u8 18), .lit (.int .u8 12), .lit (.int .u8 5), .lit (.int .u8 63), .lit (.int .u8 55), .lit (.int .u8 48), .lit (.int .u8 27), .lit (.int .u8 60), .lit (.int .u8 41), .lit (.int .u8 37), .lit (.int .u8 16), .lit (.int .u8 46), .lit (.int .u8 35), .lit (.int .u8 44), .lit (.int .u8 21), .lit (.int .u8 52), .lit (.int .u8 32), .lit (.int .u8 23), .lit (.int .u8 11), .lit (.int .u8 54), .lit (.int .u8 26), .lit (.int .u8 40), .lit (.int .u8 15), .lit (.int .u8 34), .lit (.int .u8 20), .lit (.int .u8 31), .lit (.int .u8 10), .lit (.int .u8 25), .lit (.int .u8 14), .lit (.int .u8 19), .lit (.int .u8 9), .lit (.int .u8 13), .lit (.int .u8 8), .lit (.int .u8 7), .lit (.int .u8 6)]
def laid_internal_strconv_uint64pow10 {H : Type} : DataW H := .agg [.lit (.int .u64 1), .lit (.int .u64 10), .lit (.int .u64 100), .lit (.int .u64 1000), .lit (.int .u64 10000), .lit (.int .u64 100000), .lit (.int .u64 1000000), .lit (.int .u64 10000000), .lit (.int .u64 100000000), .lit (.int .u64 1000000000), .lit (.int .u64 10000000000), .lit (.int .u64 100000000000), .lit (.int .u64 1000000000000), .lit (.int .u64 10000000000000), .lit (.int .u64 100000000000000), .lit (.int .u64 1000000000000000), .lit (.int .u64 10000000000000000), .lit (.int .u64 100000000000000000), .lit (.int .u64 1000000000000000000), .lit (.int .u64 10000000000000000000)]
def laid_unicode_utf8_acceptRanges {H : Type} : DataW H := .agg [.agg [.lit (.int .u8 128), .lit (.int .u8 191)], .agg [.lit (.int .u8 160), .lit (.int .u8 191)], .agg [.lit (.int .u8 128), .lit (.int .u8 159)], .agg [.lit (.int .u8 144), .lit (.int .u8 191)], .agg [.lit (.int .u8 128), .lit (.int .u8 143)], .agg [.lit (.int .u8 0), .lit (.int .u8 0)], .agg [.lit (.int .u8 0), .lit (.int .u8 0)], .agg [.lit (.int .u8 0), .lit (.int .u8 0)], .agg [.lit (.int .u8 0), .lit (.int .u8 0)], .agg [.lit (.int .u8 0), .lit (.int .u8 0)], .agg [.lit (.int .u8 0), .lit (.int .u8 0)], .agg [.lit (.int .u8 0), .lit (.int .u8 0)], .agg [.lit (.int .u8 0), .lit (.int .u8 0)], .agg [.lit (.int .u8 0), .lit (.int .u8 0)], .agg [.lit (.int .u8 0), .lit (.int .u8 0)], .agg [.lit (.int .u8 0), .lit (.int .u8 0)]]
/-- One of Go's own tables, pinned by name: the form's constant. -/
def laid_unicode_utf8_first : DataW Unit := Go.Pinned.utf8First

/-- 'laws.FnExactSettles': WHATEVER THE INPUT: true; the input reads as it did. -/
def fnExactSettlesSpec : ChangeSpec := { name := "fnExactSettles", fn := fun _ => fun
  | [d] => { results := [.lit (.bool true)], args := [d] }
  | _ => none }
def fnExactSettlesRow : OpenClaim := { program := "ytcmldmlmhpfjhaadoor", sum := "962533179a792346536c85391113d6f79b8353d59a053e768a1ce722f633ba7f", func := "loop.example/g00448/laws.FnExactSettles", spec := "fnExactSettles", inPlace := ["internal/bytealg.CountString", "internal/bytealg.IndexByteString", "internal/bytealg.IndexString"], named := ["unicode/utf8.first", "unicode/utf8.acceptRanges", "internal/bytealg.MaxLen", "internal/strconv.uint64pow10", "math/bits.deBruijn32tab", "math/bits.deBruijn64tab"], apart := false, laid := [("math/bits.deBruijn32tab", laid_math_bits_deBruijn32tab), ("math/bits.deBruijn64tab", laid_math_bits_deBruijn64tab), ("internal/strconv.uint64pow10", laid_internal_strconv_uint64pow10), ("unicode/utf8.acceptRanges", laid_unicode_utf8_acceptRanges), ("unicode/utf8.first", laid_unicode_utf8_first)] }
def FnExactSettlesSaid : Prop := fnExactSettlesRow.holds Tryd.pinned (OpenSpec.ofChange fnExactSettlesSpec)

/-- ITS FALSE NEIGHBOUR: 'it returns false'. Refute it at one input. -/
def fnExactSettlesWrong : ChangeSpec := { name := "fnExactSettles", fn := fun _ => fun
  | [d] => { results := [.lit (.bool false)], args := [d] }
  | _ => none }
def FnExactSettlesWrongFalsely : Prop := fnExactSettlesRow.holds Tryd.pinned (OpenSpec.ofChange fnExactSettlesWrong)

/-- 'laws.FnExactPartOk': WHATEVER THE INPUT: true; the input reads as it did. -/
def fnExactPartOkSpec : ChangeSpec := { name := "fnExactPartOk", fn := fun _ => fun
  | [d1, d2] => { results := [.lit (.bool true)], args := [d1, d2] }
  | _ => none }
def fnExactPartOkRow : OpenClaim := { program := "ytcmldmlmhpfjhaadoor", sum := "962533179a792346536c85391113d6f79b8353d59a053e768a1ce722f633ba7f", func := "loop.example/g00448/laws.FnExactPartOk", spec := "fnExactPartOk", inPlace := ["internal/bytealg.CountString", "internal/bytealg.IndexByteString", "internal/bytealg.IndexString"], named := ["unicode/utf8.first", "unicode/utf8.acceptRanges", "internal/bytealg.MaxLen", "internal/strconv.uint64pow10", "math/bits.deBruijn32tab", "math/bits.deBruijn64tab"], apart := false, laid := [("math/bits.deBruijn32tab", laid_math_bits_deBruijn32tab), ("math/bits.deBruijn64tab", laid_math_bits_deBruijn64tab), ("internal/strconv.uint64pow10", laid_internal_strconv_uint64pow10), ("unicode/utf8.acceptRanges", laid_unicode_utf8_acceptRanges), ("unicode/utf8.first", laid_unicode_utf8_first)] }
def FnExactPartOkSaid : Prop := fnExactPartOkRow.holds Tryd.pinned (OpenSpec.ofChange fnExactPartOkSpec)

/-- ITS FALSE NEIGHBOUR: 'it returns false'. Refute it at one input. -/
def fnExactPartOkWrong : ChangeSpec := { name := "fnExactPartOk", fn := fun _ => fun
  | [d1, d2] => { results := [.lit (.bool false)], args := [d1, d2] }
  | _ => none }
def FnExactPartOkWrongFalsely : Prop := fnExactPartOkRow.holds Tryd.pinned (OpenSpec.ofChange fnExactPartOkWrong)

/-- 'laws.FnExactQcOk': WHATEVER THE INPUT: true; the input reads as it did. -/
def fnExactQcOkSpec : ChangeSpec := { name := "fnExactQcOk", fn := fun _ => fun
  | [d1, d2] => { results := [.lit (.bool true)], args := [d1, d2] }
  | _ => none }
def fnExactQcOkRow : OpenClaim := { program := "ytcmldmlmhpfjhaadoor", sum := "962533179a792346536c85391113d6f79b8353d59a053e768a1ce722f633ba7f", func := "loop.example/g00448/laws.FnExactQcOk", spec := "fnExactQcOk", inPlace := ["internal/bytealg.CountString", "internal/bytealg.IndexByteString", "internal/bytealg.IndexString"], named := ["unicode/utf8.first", "unicode/utf8.acceptRanges", "internal/bytealg.MaxLen", "internal/strconv.uint64pow10", "math/bits.deBruijn32tab", "math/bits.deBruijn64tab"], apart := false, laid := [("math/bits.deBruijn32tab", laid_math_bits_deBruijn32tab), ("math/bits.deBruijn64tab", laid_math_bits_deBruijn64tab), ("internal/strconv.uint64pow10", laid_internal_strconv_uint64pow10), ("unicode/utf8.acceptRanges", laid_unicode_utf8_acceptRanges), ("unicode/utf8.first", laid_unicode_utf8_first)] }
def FnExactQcOkSaid : Prop := fnExactQcOkRow.holds Tryd.pinned (OpenSpec.ofChange fnExactQcOkSpec)

/-- ITS FALSE NEIGHBOUR: 'it returns false'. Refute it at one input. -/
def fnExactQcOkWrong : ChangeSpec := { name := "fnExactQcOk", fn := fun _ => fun
  | [d1, d2] => { results := [.lit (.bool false)], args := [d1, d2] }
  | _ => none }
def FnExactQcOkWrongFalsely : Prop := fnExactQcOkRow.holds Tryd.pinned (OpenSpec.ofChange fnExactQcOkWrong)

/-- 'laws.FnExactTableOk': WHATEVER THE INPUT: true; the input reads as it did. -/
def fnExactTableOkSpec : ChangeSpec := { name := "fnExactTableOk", fn := fun _ => fun
  | [d1, d2] => { results := [.lit (.bool true)], args := [d1, d2] }
  | _ => none }
def fnExactTableOkRow : OpenClaim := { program := "ytcmldmlmhpfjhaadoor", sum := "962533179a792346536c85391113d6f79b8353d59a053e768a1ce722f633ba7f", func := "loop.example/g00448/laws.FnExactTableOk", spec := "fnExactTableOk", inPlace := ["internal/bytealg.CountString", "internal/bytealg.IndexByteString", "internal/bytealg.IndexString"], named := ["unicode/utf8.first", "unicode/utf8.acceptRanges", "internal/bytealg.MaxLen", "internal/strconv.uint64pow10", "math/bits.deBruijn32tab", "math/bits.deBruijn64tab"], apart := false, laid := [("math/bits.deBruijn32tab", laid_math_bits_deBruijn32tab), ("math/bits.deBruijn64tab", laid_math_bits_deBruijn64tab), ("internal/strconv.uint64pow10", laid_internal_strconv_uint64pow10), ("unicode/utf8.acceptRanges", laid_unicode_utf8_acceptRanges), ("unicode/utf8.first", laid_unicode_utf8_first)] }
def FnExactTableOkSaid : Prop := fnExactTableOkRow.holds Tryd.pinned (OpenSpec.ofChange fnExactTableOkSpec)

/-- ITS FALSE NEIGHBOUR: 'it returns false'. Refute it at one input. -/
def fnExactTableOkWrong : ChangeSpec := { name := "fnExactTableOk", fn := fun _ => fun
  | [d1, d2] => { results := [.lit (.bool false)], args := [d1, d2] }
  | _ => none }
def FnExactTableOkWrongFalsely : Prop := fnExactTableOkRow.holds Tryd.pinned (OpenSpec.ofChange fnExactTableOkWrong)

/-- 'laws.FnExactSafeOk': WHATEVER THE INPUT: true; the input reads as it did. -/
def fnExactSafeOkSpec : ChangeSpec := { name := "fnExactSafeOk", fn := fun _ => fun
  | [d1, d2] => { results := [.lit (.bool true)], args := [d1, d2] }
  | _ => none }
def fnExactSafeOkRow : OpenClaim := { program := "ytcmldmlmhpfjhaadoor", sum := "962533179a792346536c85391113d6f79b8353d59a053e768a1ce722f633ba7f", func := "loop.example/g00448/laws.FnExactSafeOk", spec := "fnExactSafeOk", inPlace := ["internal/bytealg.CountString", "internal/bytealg.IndexByteString", "internal/bytealg.IndexString"], named := ["unicode/utf8.first", "unicode/utf8.acceptRanges", "internal/bytealg.MaxLen", "internal/strconv.uint64pow10", "math/bits.deBruijn32tab", "math/bits.deBruijn64tab"], apart := false, laid := [("math/bits.deBruijn32tab", laid_math_bits_deBruijn32tab), ("math/bits.deBruijn64tab", laid_math_bits_deBruijn64tab), ("internal/strconv.uint64pow10", laid_internal_strconv_uint64pow10), ("unicode/utf8.acceptRanges", laid_unicode_utf8_acceptRanges), ("unicode/utf8.first", laid_unicode_utf8_first)] }
def FnExactSafeOkSaid : Prop := fnExactSafeOkRow.holds Tryd.pinned (OpenSpec.ofChange fnExactSafeOkSpec)

/-- ITS FALSE NEIGHBOUR: 'it returns false'. Refute it at one input. -/
def fnExactSafeOkWrong : ChangeSpec := { name := "fnExactSafeOk", fn := fun _ => fun
  | [d1, d2] => { results := [.lit (.bool false)], args := [d1, d2] }
  | _ => none }
def FnExactSafeOkWrongFalsely : Prop := fnExactSafeOkRow.holds Tryd.pinned (OpenSpec.ofChange fnExactSafeOkWrong)

/-- 'laws.FnExactPartQc': WHATEVER THE INPUT: true; the input reads as it did. -/
def fnExactPartQcSpec : ChangeSpec := { name := "fnExactPartQc", fn := fun _ => fun
  | [d1, d2] => { results := [.lit (.bool true)], args := [d1, d2] }
  | _ => none }
def fnExactPartQcRow : OpenClaim := { program := "ytcmldmlmhpfjhaadoor", sum := "962533179a792346536c85391113d6f79b8353d59a053e768a1ce722f633ba7f", func := "loop.example/g00448/laws.FnExactPartQc", spec := "fnExactPartQc", inPlace := ["internal/bytealg.CountString", "internal/bytealg.IndexByteString", "internal/bytealg.IndexString"], named := ["unicode/utf8.first", "unicode/utf8.acceptRanges", "internal/bytealg.MaxLen", "internal/strconv.uint64pow10", "math/bits.deBruijn32tab", "math/bits.deBruijn64tab"], apart := false, laid := [("math/bits.deBruijn32tab", laid_math_bits_deBruijn32tab), ("math/bits.deBruijn64tab", laid_math_bits_deBruijn64tab), ("internal/strconv.uint64pow10", laid_internal_strconv_uint64pow10), ("unicode/utf8.acceptRanges", laid_unicode_utf8_acceptRanges), ("unicode/utf8.first", laid_unicode_utf8_first)] }
def FnExactPartQcSaid : Prop := fnExactPartQcRow.holds Tryd.pinned (OpenSpec.ofChange fnExactPartQcSpec)

/-- ITS FALSE NEIGHBOUR: 'it returns false'. Refute it at one input. -/
def fnExactPartQcWrong : ChangeSpec := { name := "fnExactPartQc", fn := fun _ => fun
  | [d1, d2] => { results := [.lit (.bool false)], args := [d1, d2] }
  | _ => none }
def FnExactPartQcWrongFalsely : Prop := fnExactPartQcRow.holds Tryd.pinned (OpenSpec.ofChange fnExactPartQcWrong)

/-- 'laws.FnExactBlockOk': WHATEVER THE INPUT: true; the input reads as it did. -/
def fnExactBlockOkSpec : ChangeSpec := { name := "fnExactBlockOk", fn := fun _ => fun
  | [d1, d2] => { results := [.lit (.bool true)], args := [d1, d2] }
  | _ => none }
def fnExactBlockOkRow : OpenClaim := { program := "ytcmldmlmhpfjhaadoor", sum := "962533179a792346536c85391113d6f79b8353d59a053e768a1ce722f633ba7f", func := "loop.example/g00448/laws.FnExactBlockOk", spec := "fnExactBlockOk", inPlace := ["internal/bytealg.CountString", "internal/bytealg.IndexByteString", "internal/bytealg.IndexString"], named := ["unicode/utf8.first", "unicode/utf8.acceptRanges", "internal/bytealg.MaxLen", "internal/strconv.uint64pow10", "math/bits.deBruijn32tab", "math/bits.deBruijn64tab"], apart := false, laid := [("math/bits.deBruijn32tab", laid_math_bits_deBruijn32tab), ("math/bits.deBruijn64tab", laid_math_bits_deBruijn64tab), ("internal/strconv.uint64pow10", laid_internal_strconv_uint64pow10), ("unicode/utf8.acceptRanges", laid_unicode_utf8_acceptRanges), ("unicode/utf8.first", laid_unicode_utf8_first)] }
def FnExactBlockOkSaid : Prop := fnExactBlockOkRow.holds Tryd.pinned (OpenSpec.ofChange fnExactBlockOkSpec)

/-- ITS FALSE NEIGHBOUR: 'it returns false'. Refute it at one input. -/
def fnExactBlockOkWrong : ChangeSpec := { name := "fnExactBlockOk", fn := fun _ => fun
  | [d1, d2] => { results := [.lit (.bool false)], args := [d1, d2] }
  | _ => none }
def FnExactBlockOkWrongFalsely : Prop := fnExactBlockOkRow.holds Tryd.pinned (OpenSpec.ofChange fnExactBlockOkWrong)

/-- 'laws.FnExactQcBytes': WHATEVER THE INPUT: true; the input reads as it did. -/
def fnExactQcBytesSpec : ChangeSpec := { name := "fnExactQcBytes", fn := fun _ => fun
  | [d1, d2] => { results := [.lit (.bool true)], args := [d1, d2] }
  | _ => none }
def fnExactQcBytesRow : OpenClaim := { program := "ytcmldmlmhpfjhaadoor", sum := "962533179a792346536c85391113d6f79b8353d59a053e768a1ce722f633ba7f", func := "loop.example/g00448/laws.FnExactQcBytes", spec := "fnExactQcBytes", inPlace := ["internal/bytealg.CountString", "internal/bytealg.IndexByteString", "internal/bytealg.IndexString"], named := ["unicode/utf8.first", "unicode/utf8.acceptRanges", "internal/bytealg.MaxLen", "internal/strconv.uint64pow10", "math/bits.deBruijn32tab", "math/bits.deBruijn64tab"], apart := false, laid := [("math/bits.deBruijn32tab", laid_math_bits_deBruijn32tab), ("math/bits.deBruijn64tab", laid_math_bits_deBruijn64tab), ("internal/strconv.uint64pow10", laid_internal_strconv_uint64pow10), ("unicode/utf8.acceptRanges", laid_unicode_utf8_acceptRanges), ("unicode/utf8.first", laid_unicode_utf8_first)] }
def FnExactQcBytesSaid : Prop := fnExactQcBytesRow.holds Tryd.pinned (OpenSpec.ofChange fnExactQcBytesSpec)

/-- ITS FALSE NEIGHBOUR: 'it returns false'. Refute it at one input. -/
def fnExactQcBytesWrong : ChangeSpec := { name := "fnExactQcBytes", fn := fun _ => fun
  | [d1, d2] => { results := [.lit (.bool false)], args := [d1, d2] }
  | _ => none }
def FnExactQcBytesWrongFalsely : Prop := fnExactQcBytesRow.holds Tryd.pinned (OpenSpec.ofChange fnExactQcBytesWrong)

/-- 'laws.FnExactMayVote': WHATEVER THE INPUT: true; the input reads as it did. -/
def fnExactMayVoteSpec : ChangeSpec := { name := "fnExactMayVote", fn := fun _ => fun
  | [d1, d2, d3] => { results := [.lit (.bool true)], args := [d1, d2, d3] }
  | _ => none }
def fnExactMayVoteRow : OpenClaim := { program := "ytcmldmlmhpfjhaadoor", sum := "962533179a792346536c85391113d6f79b8353d59a053e768a1ce722f633ba7f", func := "loop.example/g00448/laws.FnExactMayVote", spec := "fnExactMayVote", inPlace := ["internal/bytealg.CountString", "internal/bytealg.IndexByteString", "internal/bytealg.IndexString"], named := ["unicode/utf8.first", "unicode/utf8.acceptRanges", "internal/bytealg.MaxLen", "internal/strconv.uint64pow10", "math/bits.deBruijn32tab", "math/bits.deBruijn64tab"], apart := false, laid := [("math/bits.deBruijn32tab", laid_math_bits_deBruijn32tab), ("math/bits.deBruijn64tab", laid_math_bits_deBruijn64tab), ("internal/strconv.uint64pow10", laid_internal_strconv_uint64pow10), ("unicode/utf8.acceptRanges", laid_unicode_utf8_acceptRanges), ("unicode/utf8.first", laid_unicode_utf8_first)] }
def FnExactMayVoteSaid : Prop := fnExactMayVoteRow.holds Tryd.pinned (OpenSpec.ofChange fnExactMayVoteSpec)

/-- ITS FALSE NEIGHBOUR: 'it returns false'. Refute it at one input. -/
def fnExactMayVoteWrong : ChangeSpec := { name := "fnExactMayVote", fn := fun _ => fun
  | [d1, d2, d3] => { results := [.lit (.bool false)], args := [d1, d2, d3] }
  | _ => none }
def FnExactMayVoteWrongFalsely : Prop := fnExactMayVoteRow.holds Tryd.pinned (OpenSpec.ofChange fnExactMayVoteWrong)

/-- 'laws.FnTooFew': WHATEVER THE INPUT: true; the input reads as it did. -/
def fnTooFewSpec : ChangeSpec := { name := "fnTooFew", fn := fun _ => fun
  | [d] => { results := [.lit (.bool true)], args := [d] }
  | _ => none }
def fnTooFewRow : OpenClaim := { program := "ytcmldmlmhpfjhaadoor", sum := "962533179a792346536c85391113d6f79b8353d59a053e768a1ce722f633ba7f", func := "loop.example/g00448/laws.FnTooFew", spec := "fnTooFew", inPlace := ["internal/bytealg.CountString", "internal/bytealg.IndexByteString", "internal/bytealg.IndexString"], named := ["unicode/utf8.first", "unicode/utf8.acceptRanges", "internal/bytealg.MaxLen", "internal/strconv.uint64pow10", "math/bits.deBruijn32tab", "math/bits.deBruijn64tab"], apart := false, laid := [("math/bits.deBruijn32tab", laid_math_bits_deBruijn32tab), ("math/bits.deBruijn64tab", laid_math_bits_deBruijn64tab), ("internal/strconv.uint64pow10", laid_internal_strconv_uint64pow10), ("unicode/utf8.acceptRanges", laid_unicode_utf8_acceptRanges), ("unicode/utf8.first", laid_unicode_utf8_first)] }
def FnTooFewSaid : Prop := fnTooFewRow.holds Tryd.pinned (OpenSpec.ofChange fnTooFewSpec)

/-- ITS FALSE NEIGHBOUR: 'it returns false'. Refute it at one input. -/
def fnTooFewWrong : ChangeSpec := { name := "fnTooFew", fn := fun _ => fun
  | [d] => { results := [.lit (.bool false)], args := [d] }
  | _ => none }
def FnTooFewWrongFalsely : Prop := fnTooFewRow.holds Tryd.pinned (OpenSpec.ofChange fnTooFewWrong)

/-- 'laws.FnExactSafeBytes': WHATEVER THE INPUT: true; the input reads as it did. -/
def fnExactSafeBytesSpec : ChangeSpec := { name := "fnExactSafeBytes", fn := fun _ => fun
  | [d1, d2] => { results := [.lit (.bool true)], args := [d1, d2] }
  | _ => none }
def fnExactSafeBytesRow : OpenClaim := { program := "ytcmldmlmhpfjhaadoor", sum := "962533179a792346536c85391113d6f79b8353d59a053e768a1ce722f633ba7f", func := "loop.example/g00448/laws.FnExactSafeBytes", spec := "fnExactSafeBytes", inPlace := ["internal/bytealg.CountString", "internal/bytealg.IndexByteString", "internal/bytealg.IndexString"], named := ["unicode/utf8.first", "unicode/utf8.acceptRanges", "internal/bytealg.MaxLen", "internal/strconv.uint64pow10", "math/bits.deBruijn32tab", "math/bits.deBruijn64tab"], apart := false, laid := [("math/bits.deBruijn32tab", laid_math_bits_deBruijn32tab), ("math/bits.deBruijn64tab", laid_math_bits_deBruijn64tab), ("internal/strconv.uint64pow10", laid_internal_strconv_uint64pow10), ("unicode/utf8.acceptRanges", laid_unicode_utf8_acceptRanges), ("unicode/utf8.first", laid_unicode_utf8_first)] }
def FnExactSafeBytesSaid : Prop := fnExactSafeBytesRow.holds Tryd.pinned (OpenSpec.ofChange fnExactSafeBytesSpec)

/-- ITS FALSE NEIGHBOUR: 'it returns false'. Refute it at one input. -/
def fnExactSafeBytesWrong : ChangeSpec := { name := "fnExactSafeBytes", fn := fun _ => fun
  | [d1, d2] => { results := [.lit (.bool false)], args := [d1, d2] }
  | _ => none }
def FnExactSafeBytesWrongFalsely : Prop := fnExactSafeBytesRow.holds Tryd.pinned (OpenSpec.ofChange fnExactSafeBytesWrong)

/-- 'laws.FnExactQcOf': WHATEVER THE INPUT: true; the input reads as it did. -/
def fnExactQcOfSpec : ChangeSpec := { name := "fnExactQcOf", fn := fun _ => fun
  | [d1, d2, d3] => { results := [.lit (.bool true)], args := [d1, d2, d3] }
  | _ => none }
def fnExactQcOfRow : OpenClaim := { program := "ytcmldmlmhpfjhaadoor", sum := "962533179a792346536c85391113d6f79b8353d59a053e768a1ce722f633ba7f", func := "loop.example/g00448/laws.FnExactQcOf", spec := "fnExactQcOf", inPlace := ["internal/bytealg.CountString", "internal/bytealg.IndexByteString", "internal/bytealg.IndexString"], named := ["unicode/utf8.first", "unicode/utf8.acceptRanges", "internal/bytealg.MaxLen", "internal/strconv.uint64pow10", "math/bits.deBruijn32tab", "math/bits.deBruijn64tab"], apart := false, laid := [("math/bits.deBruijn32tab", laid_math_bits_deBruijn32tab), ("math/bits.deBruijn64tab", laid_math_bits_deBruijn64tab), ("internal/strconv.uint64pow10", laid_internal_strconv_uint64pow10), ("unicode/utf8.acceptRanges", laid_unicode_utf8_acceptRanges), ("unicode/utf8.first", laid_unicode_utf8_first)] }
def FnExactQcOfSaid : Prop := fnExactQcOfRow.holds Tryd.pinned (OpenSpec.ofChange fnExactQcOfSpec)

/-- ITS FALSE NEIGHBOUR: 'it returns false'. Refute it at one input. -/
def fnExactQcOfWrong : ChangeSpec := { name := "fnExactQcOf", fn := fun _ => fun
  | [d1, d2, d3] => { results := [.lit (.bool false)], args := [d1, d2, d3] }
  | _ => none }
def FnExactQcOfWrongFalsely : Prop := fnExactQcOfRow.holds Tryd.pinned (OpenSpec.ofChange fnExactQcOfWrong)

/- THE SECOND FORM. 'bulk': how many values and letters a reading holds, each counted each time it is reached (what is shared counts as often as it is met; a slice's spare places count too). A statement '..UptoSaid' is the law's where the arguments, and the package variables that the reading takes, are together of bulk at most 1048576: NARROWER than '..Said'. Prove '..Said' where nothing that the law and all that it calls make is longer than what came in: it says more and counts as full. Else prove '..UptoSaid'. A law counts once. -/
mutual
def uptoBulk {H : Type} : DataW H → Nat
  | .lit (.string bytes) => bytes.length + 1
  | .lit _ => 1
  | .nil => 1
  | .ptr d => uptoBulk d + 1
  | .slice elems spare => uptoBulkAll elems + uptoBulkAll spare + 1
  | .agg parts => uptoBulkAll parts + 1
  | .iface _ d => uptoBulk d + 1
  | .map entries => uptoBulkEntries entries + 1
  | .held _ => 1
def uptoBulkAll {H : Type} : List (DataW H) → Nat
  | [] => 0
  | d :: r => uptoBulk d + uptoBulkAll r
def uptoBulkEntries {H : Type} : List (Lit × DataW H) → Nat
  | [] => 0
  | x :: r => uptoBulkEntry x + uptoBulkEntries r
def uptoBulkEntry {H : Type} : Lit × DataW H → Nat
  | (.string bytes, d) => bytes.length + uptoBulk d + 1
  | (_, d) => uptoBulk d + 1
 end
def uptoSmall : (H : Type) → List (DataW H) → Bool := fun _ ds => decide (uptoBulkAll ds ≤ 1048576)
def OpenSpec.upto (s : _root_.Go.ChangeSpec) : _root_.Go.OpenSpec := { _root_.Go.OpenSpec.ofChange s with cond := some uptoSmall }

/-- 'laws.FnExactSettles', WHERE WHAT IT READS IS OF BULK AT MOST 1048576: true; the input reads as it did. -/
def fnExactSettlesUptoRow : OpenClaim := { program := "ytcmldmlmhpfjhaadoor", sum := "962533179a792346536c85391113d6f79b8353d59a053e768a1ce722f633ba7f", func := "loop.example/g00448/laws.FnExactSettles", spec := "fnExactSettles", inPlace := ["internal/bytealg.CountString", "internal/bytealg.IndexByteString", "internal/bytealg.IndexString"], named := ["unicode/utf8.first", "unicode/utf8.acceptRanges", "internal/bytealg.MaxLen", "internal/strconv.uint64pow10", "math/bits.deBruijn32tab", "math/bits.deBruijn64tab"], apart := false, laid := [("math/bits.deBruijn32tab", laid_math_bits_deBruijn32tab), ("math/bits.deBruijn64tab", laid_math_bits_deBruijn64tab), ("internal/strconv.uint64pow10", laid_internal_strconv_uint64pow10), ("unicode/utf8.acceptRanges", laid_unicode_utf8_acceptRanges), ("unicode/utf8.first", laid_unicode_utf8_first)], narrowed := true }
def FnExactSettlesUptoSaid : Prop := fnExactSettlesUptoRow.holds Tryd.pinned (OpenSpec.upto fnExactSettlesSpec)

/-- 'laws.FnExactPartOk', WHERE WHAT IT READS IS OF BULK AT MOST 1048576: true; the input reads as it did. -/
def fnExactPartOkUptoRow : OpenClaim := { program := "ytcmldmlmhpfjhaadoor", sum := "962533179a792346536c85391113d6f79b8353d59a053e768a1ce722f633ba7f", func := "loop.example/g00448/laws.FnExactPartOk", spec := "fnExactPartOk", inPlace := ["internal/bytealg.CountString", "internal/bytealg.IndexByteString", "internal/bytealg.IndexString"], named := ["unicode/utf8.first", "unicode/utf8.acceptRanges", "internal/bytealg.MaxLen", "internal/strconv.uint64pow10", "math/bits.deBruijn32tab", "math/bits.deBruijn64tab"], apart := false, laid := [("math/bits.deBruijn32tab", laid_math_bits_deBruijn32tab), ("math/bits.deBruijn64tab", laid_math_bits_deBruijn64tab), ("internal/strconv.uint64pow10", laid_internal_strconv_uint64pow10), ("unicode/utf8.acceptRanges", laid_unicode_utf8_acceptRanges), ("unicode/utf8.first", laid_unicode_utf8_first)], narrowed := true }
def FnExactPartOkUptoSaid : Prop := fnExactPartOkUptoRow.holds Tryd.pinned (OpenSpec.upto fnExactPartOkSpec)

/-- 'laws.FnExactQcOk', WHERE WHAT IT READS IS OF BULK AT MOST 1048576: true; the input reads as it did. -/
def fnExactQcOkUptoRow : OpenClaim := { program := "ytcmldmlmhpfjhaadoor", sum := "962533179a792346536c85391113d6f79b8353d59a053e768a1ce722f633ba7f", func := "loop.example/g00448/laws.FnExactQcOk", spec := "fnExactQcOk", inPlace := ["internal/bytealg.CountString", "internal/bytealg.IndexByteString", "internal/bytealg.IndexString"], named := ["unicode/utf8.first", "unicode/utf8.acceptRanges", "internal/bytealg.MaxLen", "internal/strconv.uint64pow10", "math/bits.deBruijn32tab", "math/bits.deBruijn64tab"], apart := false, laid := [("math/bits.deBruijn32tab", laid_math_bits_deBruijn32tab), ("math/bits.deBruijn64tab", laid_math_bits_deBruijn64tab), ("internal/strconv.uint64pow10", laid_internal_strconv_uint64pow10), ("unicode/utf8.acceptRanges", laid_unicode_utf8_acceptRanges), ("unicode/utf8.first", laid_unicode_utf8_first)], narrowed := true }
def FnExactQcOkUptoSaid : Prop := fnExactQcOkUptoRow.holds Tryd.pinned (OpenSpec.upto fnExactQcOkSpec)

/-- 'laws.FnExactTableOk', WHERE WHAT IT READS IS OF BULK AT MOST 1048576: true; the input reads as it did. -/
def fnExactTableOkUptoRow : OpenClaim := { program := "ytcmldmlmhpfjhaadoor", sum := "962533179a792346536c85391113d6f79b8353d59a053e768a1ce722f633ba7f", func := "loop.example/g00448/laws.FnExactTableOk", spec := "fnExactTableOk", inPlace := ["internal/bytealg.CountString", "internal/bytealg.IndexByteString", "internal/bytealg.IndexString"], named := ["unicode/utf8.first", "unicode/utf8.acceptRanges", "internal/bytealg.MaxLen", "internal/strconv.uint64pow10", "math/bits.deBruijn32tab", "math/bits.deBruijn64tab"], apart := false, laid := [("math/bits.deBruijn32tab", laid_math_bits_deBruijn32tab), ("math/bits.deBruijn64tab", laid_math_bits_deBruijn64tab), ("internal/strconv.uint64pow10", laid_internal_strconv_uint64pow10), ("unicode/utf8.acceptRanges", laid_unicode_utf8_acceptRanges), ("unicode/utf8.first", laid_unicode_utf8_first)], narrowed := true }
def FnExactTableOkUptoSaid : Prop := fnExactTableOkUptoRow.holds Tryd.pinned (OpenSpec.upto fnExactTableOkSpec)

/-- 'laws.FnExactSafeOk', WHERE WHAT IT READS IS OF BULK AT MOST 1048576: true; the input reads as it did. -/
def fnExactSafeOkUptoRow : OpenClaim := { program := "ytcmldmlmhpfjhaadoor", sum := "962533179a792346536c85391113d6f79b8353d59a053e768a1ce722f633ba7f", func := "loop.example/g00448/laws.FnExactSafeOk", spec := "fnExactSafeOk", inPlace := ["internal/bytealg.CountString", "internal/bytealg.IndexByteString", "internal/bytealg.IndexString"], named := ["unicode/utf8.first", "unicode/utf8.acceptRanges", "internal/bytealg.MaxLen", "internal/strconv.uint64pow10", "math/bits.deBruijn32tab", "math/bits.deBruijn64tab"], apart := false, laid := [("math/bits.deBruijn32tab", laid_math_bits_deBruijn32tab), ("math/bits.deBruijn64tab", laid_math_bits_deBruijn64tab), ("internal/strconv.uint64pow10", laid_internal_strconv_uint64pow10), ("unicode/utf8.acceptRanges", laid_unicode_utf8_acceptRanges), ("unicode/utf8.first", laid_unicode_utf8_first)], narrowed := true }
def FnExactSafeOkUptoSaid : Prop := fnExactSafeOkUptoRow.holds Tryd.pinned (OpenSpec.upto fnExactSafeOkSpec)

/-- 'laws.FnExactPartQc', WHERE WHAT IT READS IS OF BULK AT MOST 1048576: true; the input reads as it did. -/
def fnExactPartQcUptoRow : OpenClaim := { program := "ytcmldmlmhpfjhaadoor", sum := "962533179a792346536c85391113d6f79b8353d59a053e768a1ce722f633ba7f", func := "loop.example/g00448/laws.FnExactPartQc", spec := "fnExactPartQc", inPlace := ["internal/bytealg.CountString", "internal/bytealg.IndexByteString", "internal/bytealg.IndexString"], named := ["unicode/utf8.first", "unicode/utf8.acceptRanges", "internal/bytealg.MaxLen", "internal/strconv.uint64pow10", "math/bits.deBruijn32tab", "math/bits.deBruijn64tab"], apart := false, laid := [("math/bits.deBruijn32tab", laid_math_bits_deBruijn32tab), ("math/bits.deBruijn64tab", laid_math_bits_deBruijn64tab), ("internal/strconv.uint64pow10", laid_internal_strconv_uint64pow10), ("unicode/utf8.acceptRanges", laid_unicode_utf8_acceptRanges), ("unicode/utf8.first", laid_unicode_utf8_first)], narrowed := true }
def FnExactPartQcUptoSaid : Prop := fnExactPartQcUptoRow.holds Tryd.pinned (OpenSpec.upto fnExactPartQcSpec)

/-- 'laws.FnExactBlockOk', WHERE WHAT IT READS IS OF BULK AT MOST 1048576: true; the input reads as it did. -/
def fnExactBlockOkUptoRow : OpenClaim := { program := "ytcmldmlmhpfjhaadoor", sum := "962533179a792346536c85391113d6f79b8353d59a053e768a1ce722f633ba7f", func := "loop.example/g00448/laws.FnExactBlockOk", spec := "fnExactBlockOk", inPlace := ["internal/bytealg.CountString", "internal/bytealg.IndexByteString", "internal/bytealg.IndexString"], named := ["unicode/utf8.first", "unicode/utf8.acceptRanges", "internal/bytealg.MaxLen", "internal/strconv.uint64pow10", "math/bits.deBruijn32tab", "math/bits.deBruijn64tab"], apart := false, laid := [("math/bits.deBruijn32tab", laid_math_bits_deBruijn32tab), ("math/bits.deBruijn64tab", laid_math_bits_deBruijn64tab), ("internal/strconv.uint64pow10", laid_internal_strconv_uint64pow10), ("unicode/utf8.acceptRanges", laid_unicode_utf8_acceptRanges), ("unicode/utf8.first", laid_unicode_utf8_first)], narrowed := true }
def FnExactBlockOkUptoSaid : Prop := fnExactBlockOkUptoRow.holds Tryd.pinned (OpenSpec.upto fnExactBlockOkSpec)

/-- 'laws.FnExactQcBytes', WHERE WHAT IT READS IS OF BULK AT MOST 1048576: true; the input reads as it did. -/
def fnExactQcBytesUptoRow : OpenClaim := { program := "ytcmldmlmhpfjhaadoor", sum := "962533179a792346536c85391113d6f79b8353d59a053e768a1ce722f633ba7f", func := "loop.example/g00448/laws.FnExactQcBytes", spec := "fnExactQcBytes", inPlace := ["internal/bytealg.CountString", "internal/bytealg.IndexByteString", "internal/bytealg.IndexString"], named := ["unicode/utf8.first", "unicode/utf8.acceptRanges", "internal/bytealg.MaxLen", "internal/strconv.uint64pow10", "math/bits.deBruijn32tab", "math/bits.deBruijn64tab"], apart := false, laid := [("math/bits.deBruijn32tab", laid_math_bits_deBruijn32tab), ("math/bits.deBruijn64tab", laid_math_bits_deBruijn64tab), ("internal/strconv.uint64pow10", laid_internal_strconv_uint64pow10), ("unicode/utf8.acceptRanges", laid_unicode_utf8_acceptRanges), ("unicode/utf8.first", laid_unicode_utf8_first)], narrowed := true }
def FnExactQcBytesUptoSaid : Prop := fnExactQcBytesUptoRow.holds Tryd.pinned (OpenSpec.upto fnExactQcBytesSpec)

/-- 'laws.FnExactMayVote', WHERE WHAT IT READS IS OF BULK AT MOST 1048576: true; the input reads as it did. -/
def fnExactMayVoteUptoRow : OpenClaim := { program := "ytcmldmlmhpfjhaadoor", sum := "962533179a792346536c85391113d6f79b8353d59a053e768a1ce722f633ba7f", func := "loop.example/g00448/laws.FnExactMayVote", spec := "fnExactMayVote", inPlace := ["internal/bytealg.CountString", "internal/bytealg.IndexByteString", "internal/bytealg.IndexString"], named := ["unicode/utf8.first", "unicode/utf8.acceptRanges", "internal/bytealg.MaxLen", "internal/strconv.uint64pow10", "math/bits.deBruijn32tab", "math/bits.deBruijn64tab"], apart := false, laid := [("math/bits.deBruijn32tab", laid_math_bits_deBruijn32tab), ("math/bits.deBruijn64tab", laid_math_bits_deBruijn64tab), ("internal/strconv.uint64pow10", laid_internal_strconv_uint64pow10), ("unicode/utf8.acceptRanges", laid_unicode_utf8_acceptRanges), ("unicode/utf8.first", laid_unicode_utf8_first)], narrowed := true }
def FnExactMayVoteUptoSaid : Prop := fnExactMayVoteUptoRow.holds Tryd.pinned (OpenSpec.upto fnExactMayVoteSpec)

/-- 'laws.FnTooFew', WHERE WHAT IT READS IS OF BULK AT MOST 1048576: true; the input reads as it did. -/
def fnTooFewUptoRow : OpenClaim := { program := "ytcmldmlmhpfjhaadoor", sum := "962533179a792346536c85391113d6f79b8353d59a053e768a1ce722f633ba7f", func := "loop.example/g00448/laws.FnTooFew", spec := "fnTooFew", inPlace := ["internal/bytealg.CountString", "internal/bytealg.IndexByteString", "internal/bytealg.IndexString"], named := ["unicode/utf8.first", "unicode/utf8.acceptRanges", "internal/bytealg.MaxLen", "internal/strconv.uint64pow10", "math/bits.deBruijn32tab", "math/bits.deBruijn64tab"], apart := false, laid := [("math/bits.deBruijn32tab", laid_math_bits_deBruijn32tab), ("math/bits.deBruijn64tab", laid_math_bits_deBruijn64tab), ("internal/strconv.uint64pow10", laid_internal_strconv_uint64pow10), ("unicode/utf8.acceptRanges", laid_unicode_utf8_acceptRanges), ("unicode/utf8.first", laid_unicode_utf8_first)], narrowed := true }
def FnTooFewUptoSaid : Prop := fnTooFewUptoRow.holds Tryd.pinned (OpenSpec.upto fnTooFewSpec)

/-- 'laws.FnExactSafeBytes', WHERE WHAT IT READS IS OF BULK AT MOST 1048576: true; the input reads as it did. -/
def fnExactSafeBytesUptoRow : OpenClaim := { program := "ytcmldmlmhpfjhaadoor", sum := "962533179a792346536c85391113d6f79b8353d59a053e768a1ce722f633ba7f", func := "loop.example/g00448/laws.FnExactSafeBytes", spec := "fnExactSafeBytes", inPlace := ["internal/bytealg.CountString", "internal/bytealg.IndexByteString", "internal/bytealg.IndexString"], named := ["unicode/utf8.first", "unicode/utf8.acceptRanges", "internal/bytealg.MaxLen", "internal/strconv.uint64pow10", "math/bits.deBruijn32tab", "math/bits.deBruijn64tab"], apart := false, laid := [("math/bits.deBruijn32tab", laid_math_bits_deBruijn32tab), ("math/bits.deBruijn64tab", laid_math_bits_deBruijn64tab), ("internal/strconv.uint64pow10", laid_internal_strconv_uint64pow10), ("unicode/utf8.acceptRanges", laid_unicode_utf8_acceptRanges), ("unicode/utf8.first", laid_unicode_utf8_first)], narrowed := true }
def FnExactSafeBytesUptoSaid : Prop := fnExactSafeBytesUptoRow.holds Tryd.pinned (OpenSpec.upto fnExactSafeBytesSpec)

/-- 'laws.FnExactQcOf', WHERE WHAT IT READS IS OF BULK AT MOST 1048576: true; the input reads as it did. -/
def fnExactQcOfUptoRow : OpenClaim := { program := "ytcmldmlmhpfjhaadoor", sum := "962533179a792346536c85391113d6f79b8353d59a053e768a1ce722f633ba7f", func := "loop.example/g00448/laws.FnExactQcOf", spec := "fnExactQcOf", inPlace := ["internal/bytealg.CountString", "internal/bytealg.IndexByteString", "internal/bytealg.IndexString"], named := ["unicode/utf8.first", "unicode/utf8.acceptRanges", "internal/bytealg.MaxLen", "internal/strconv.uint64pow10", "math/bits.deBruijn32tab", "math/bits.deBruijn64tab"], apart := false, laid := [("math/bits.deBruijn32tab", laid_math_bits_deBruijn32tab), ("math/bits.deBruijn64tab", laid_math_bits_deBruijn64tab), ("internal/strconv.uint64pow10", laid_internal_strconv_uint64pow10), ("unicode/utf8.acceptRanges", laid_unicode_utf8_acceptRanges), ("unicode/utf8.first", laid_unicode_utf8_first)], narrowed := true }
def FnExactQcOfUptoSaid : Prop := fnExactQcOfUptoRow.holds Tryd.pinned (OpenSpec.upto fnExactQcOfSpec)

end Rows
end Go.Proofs.YtcmldmlmhpfjhaaDoor
