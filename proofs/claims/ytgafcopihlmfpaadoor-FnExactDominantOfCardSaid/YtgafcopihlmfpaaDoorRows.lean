/-
  NARROWER THAN 'FOR EVERY INPUT', by the rows' own cells (each row's printed sentence says how): FnExactSameElement: laid · FnExactCharacterOk: laid · FnExactLongestWord: laid · FnExactDimensionOf: laid · FnExactNormalWord: laid · FnExactDualWeight: laid · FnExactInverseWord: laid · FnExactDominantOf: laid · FnExactWeylOrder: laid.
  DERIVED. THE GIVEN ROWS OF THIS SEAT. 9 by the template 'for every input the law returns true; each argument reads behind the call as it read before'; 0 by the template 'total and deterministic' (their statements: YtgafcopihlmfpaaDoorTotals.lean).
  GIVEN WITH THE SEED: the statements are not yours to turn. If you find one false, say at which input.
  Laid BY PROGRAM, IN A SANDBOX (cutbox-rows.mjs): the forced cells as the released guide's own fill.sh prints them over the translation c3aa9414445bfcee… (all of the seat's roots in one cut). By AI agents, Wed Nov 11 2026. No macro, syntax, notation, axiom, sorry.
-/
import Derived.Test.YtgafcopihlmfpaaDoorChecked
import GoSem.PinnedTables
import GoSem.Claim
import GoSem.ClaimJoined
import GoSem.ClaimMapViews
import Derived.JoinedTies
import Derived.KernelRfl
namespace Go.Proofs.YtgafcopihlmfpaaDoor
/- THE CELL 'sum', in the pinned program and in every row, IS THE sha256 OF THE DUMP (.gsa) THAT YtgafcopihlmfpaaDoorProg.lean LOADS. Nothing in Lean hashes anything: it is a label: what it is worth is what the hold of that sum in a sandbox is worth. -/
noncomputable def Tryd.pinned : Pinned := { name := "ytgafcopihlmfpaadoor", sum := "c3aa9414445bfcee6e8aa91ba81e30b62112a19dce652a35e77b3ed6e435c77b", checked := Tryd.checked }
namespace Rows
def none {H : Type} : Left H := { results := [], args := [] }

/- WHAT THE LISTED PACKAGE-LEVEL VARIABLES READ AS WHEN THE CALL BEGINS. Each datum BY PROGRAM (the guide's laid-datum.mjs) off the statement by which the dump's own 'gosem.cut.vars' lays the variable. In a bare row this is a premise. The card (YtgafcopihlmfpaaDoorCards.lean) ties it to the program's text. -/
def laid_unicode_utf8_acceptRanges {H : Type} : DataW H := .agg [.agg [.lit (.int .u8 128), .lit (.int .u8 191)], .agg [.lit (.int .u8 160), .lit (.int .u8 191)], .agg [.lit (.int .u8 128), .lit (.int .u8 159)], .agg [.lit (.int .u8 144), .lit (.int .u8 191)], .agg [.lit (.int .u8 128), .lit (.int .u8 143)], .agg [.lit (.int .u8 0), .lit (.int .u8 0)], .agg [.lit (.int .u8 0), .lit (.int .u8 0)], .agg [.lit (.int .u8 0), .lit (.int .u8 0)], .agg [.lit (.int .u8 0), .lit (.int .u8 0)], .agg [.lit (.int .u8 0), .lit (.int .u8 0)], .agg [.lit (.int .u8 0), .lit (.int .u8 0)], .agg [.lit (.int .u8 0), .lit (.int .u8 0)], .agg [.lit (.int .u8 0), .lit (.int .u8 0)], .agg [.lit (.int .u8 0), .lit (.int .u8 0)], .agg [.lit (.int .u8 0), .lit (.int .u8 0)], .agg [.lit (.int .u8 0), .lit (.int .u8 0)]]
/-- One of Go's own tables, pinned by name: the form's constant. -/
def laid_unicode_utf8_first : DataW Unit := Go.Pinned.utf8First
def laid_math_bits_deBruijn32tab {H : Type} : DataW H := .agg [.lit (.int .u8 0), .lit (.int .u8 1), .lit (.int .u8 28), .lit (.int .u8 2), .lit (.int .u8 29), .lit (.int .u8 14), .lit (.int .u8 24), .lit (.int .u8 3), .lit (.int .u8 30), .lit (.int .u8 22), .lit (.int .u8 20), .lit (.int .u8 15), .lit (.int .u8 25), .lit (.int .u8 17), .lit (.int .u8 4), .lit (.int .u8 8), .lit (.int .u8 31), .lit (.int .u8 27), .lit (.int .u8 13), .lit (.int .u8 23), .lit (.int .u8 21), .lit (.int .u8 19), .lit (.int .u8 16), .lit (.int .u8 7), .lit (.int .u8 26), .lit (.int .u8 12), .lit (.int .u8 18), .lit (.int .u8 6), .lit (.int .u8 11), .lit (.int .u8 5), .lit (.int .u8 10), .lit (.int .u8 9)]
def laid_math_bits_deBruijn64tab {H : Type} : DataW H := .agg [.lit (.int .u8 0), .lit (.int .u8 1), .lit (.int .u8 56), .lit (.int .u8 2), .lit (.int .u8 57), .lit (.int .u8 49), .lit (.int .u8 28), .lit (.int .u8 3), .lit (.int .u8 61), .lit (.int .u8 58), .lit (.int .u8 42), .lit (.int .u8 50), .lit (.int .u8 38), .lit (.int .u8 29), .lit (.int .u8 17), .lit (.int .u8 4), .lit (.int .u8 62), .lit (.int .u8 47), .lit (.int .u8 59), .lit (.int .u8 36), .lit (.int .u8 45), .lit (.int .u8 43), .lit (.int .u8 51), .lit (.int .u8 22), .lit (.int .u8 53), .lit (.int .u8 39), .lit (.int .u8 33), .lit (.int .u8 30), .lit (.int .u8 24), .lit (.int .u8 18), .lit (.int .u8 12), .lit (.int .u8 5), .lit (.int .u8 63), .lit (.int .u8 55), .lit (.int .u8 48), .lit (.int .u8 27), .lit (.int .u8 60), .lit (.int .u8 41), .lit (.int .u8 37), .lit (.int .u8 16), .lit (.int .u8 46), .lit (.int .u8 35), .lit (.int .u8 44), .lit (.int .u8 21), .lit (.int .u8 52), .lit (.int .u8 32), .lit (.int .u8 23), .lit (.int .u8 11), .lit (.int .u8 54), .lit (.int .u8 26), .lit (.int .u8 40), .lit (.int .u8 15), .lit (.int .u8 34), .lit (.int .u8 20), .lit (.int .u8 31), .lit (.int .u8 10), .lit (.int .u8 25), .lit (.int .u8 14), .lit (.int .u8 19), .lit (.int .u8 9), .lit (.int .u8 13), .lit (.int .u8 8), .lit (.int .u8 7), .lit (.int .u8 6)]
def laid_internal_strconv_uint64pow10 {H : Type} : DataW H := .agg [.lit (.int .u64 1), .lit (.int .u64 10), .lit (.int .u64 100), .lit (.int .u64 1000), .lit (.int .u64 10000), .lit (.int .u64 100000), .lit (.int .u64 1000000), .lit (.int .u64 10000000), .lit (.int .u64 100000000), .lit (.int .u64 1000000000), .lit (.int .u64 10000000000), .lit (.int .u64 100000000000), .lit (.int .u64 1000000000000), .lit (.int .u64 10000000000000), .lit (.int .u64 100000000000000), .lit (.int .u64 1000000000000000), .lit (.int .u64 10000000000000000), .lit (.int .u64 100000000000000000), .lit (.int .u64 1000000000000000000), .lit (.int .u64 10000000000000000000)]

/-- 'laws.FnExactSameElement': WHATEVER THE INPUT: true; the input reads as it did. -/
def fnExactSameElementSpec : ChangeSpec := { name := "fnExactSameElement", fn := fun _ => fun
  | [d1, d2, d3] => { results := [.lit (.bool true)], args := [d1, d2, d3] }
  | _ => none }
def fnExactSameElementRow : OpenClaim := { program := "ytgafcopihlmfpaadoor", sum := "c3aa9414445bfcee6e8aa91ba81e30b62112a19dce652a35e77b3ed6e435c77b", func := "loop.example/g03109/laws.FnExactSameElement", spec := "fnExactSameElement", inPlace := ["internal/abi.NoEscape", "internal/bytealg.MakeNoZero", "internal/bytealg.CountString", "internal/bytealg.IndexByteString", "internal/bytealg.IndexString"], unfollowed := true, recurses := true, named := ["unicode/utf8.first", "unicode/utf8.acceptRanges", "internal/bytealg.MaxLen"], apart := false, laid := [("unicode/utf8.acceptRanges", laid_unicode_utf8_acceptRanges), ("unicode/utf8.first", laid_unicode_utf8_first)] }
def FnExactSameElementSaid : Prop := fnExactSameElementRow.holds Tryd.pinned (OpenSpec.ofChange fnExactSameElementSpec)

/-- ITS FALSE NEIGHBOUR: 'it returns false'. Refute it at one input. -/
def fnExactSameElementWrong : ChangeSpec := { name := "fnExactSameElement", fn := fun _ => fun
  | [d1, d2, d3] => { results := [.lit (.bool false)], args := [d1, d2, d3] }
  | _ => none }
def FnExactSameElementWrongFalsely : Prop := fnExactSameElementRow.holds Tryd.pinned (OpenSpec.ofChange fnExactSameElementWrong)

/-- 'laws.FnExactCharacterOk': WHATEVER THE INPUT: true; the input reads as it did. -/
def fnExactCharacterOkSpec : ChangeSpec := { name := "fnExactCharacterOk", fn := fun _ => fun
  | [d1, d2] => { results := [.lit (.bool true)], args := [d1, d2] }
  | _ => none }
def fnExactCharacterOkRow : OpenClaim := { program := "ytgafcopihlmfpaadoor", sum := "c3aa9414445bfcee6e8aa91ba81e30b62112a19dce652a35e77b3ed6e435c77b", func := "loop.example/g03109/laws.FnExactCharacterOk", spec := "fnExactCharacterOk", inPlace := ["internal/abi.NoEscape", "internal/bytealg.MakeNoZero", "internal/bytealg.CountString", "internal/bytealg.IndexByteString", "internal/bytealg.IndexString"], unfollowed := true, recurses := true, named := ["unicode/utf8.first", "unicode/utf8.acceptRanges", "internal/bytealg.MaxLen"], apart := false, laid := [("unicode/utf8.acceptRanges", laid_unicode_utf8_acceptRanges), ("unicode/utf8.first", laid_unicode_utf8_first)] }
def FnExactCharacterOkSaid : Prop := fnExactCharacterOkRow.holds Tryd.pinned (OpenSpec.ofChange fnExactCharacterOkSpec)

/-- ITS FALSE NEIGHBOUR: 'it returns false'. Refute it at one input. -/
def fnExactCharacterOkWrong : ChangeSpec := { name := "fnExactCharacterOk", fn := fun _ => fun
  | [d1, d2] => { results := [.lit (.bool false)], args := [d1, d2] }
  | _ => none }
def FnExactCharacterOkWrongFalsely : Prop := fnExactCharacterOkRow.holds Tryd.pinned (OpenSpec.ofChange fnExactCharacterOkWrong)

/-- 'laws.FnExactLongestWord': WHATEVER THE INPUT: true; the input reads as it did. -/
def fnExactLongestWordSpec : ChangeSpec := { name := "fnExactLongestWord", fn := fun _ => fun
  | [d] => { results := [.lit (.bool true)], args := [d] }
  | _ => none }
def fnExactLongestWordRow : OpenClaim := { program := "ytgafcopihlmfpaadoor", sum := "c3aa9414445bfcee6e8aa91ba81e30b62112a19dce652a35e77b3ed6e435c77b", func := "loop.example/g03109/laws.FnExactLongestWord", spec := "fnExactLongestWord", inPlace := ["internal/abi.NoEscape", "internal/bytealg.MakeNoZero", "internal/bytealg.CountString", "internal/bytealg.IndexByteString", "internal/bytealg.IndexString"], unfollowed := true, recurses := true, named := ["unicode/utf8.first", "unicode/utf8.acceptRanges", "internal/bytealg.MaxLen"], apart := false, laid := [("unicode/utf8.acceptRanges", laid_unicode_utf8_acceptRanges), ("unicode/utf8.first", laid_unicode_utf8_first)] }
def FnExactLongestWordSaid : Prop := fnExactLongestWordRow.holds Tryd.pinned (OpenSpec.ofChange fnExactLongestWordSpec)

/-- ITS FALSE NEIGHBOUR: 'it returns false'. Refute it at one input. -/
def fnExactLongestWordWrong : ChangeSpec := { name := "fnExactLongestWord", fn := fun _ => fun
  | [d] => { results := [.lit (.bool false)], args := [d] }
  | _ => none }
def FnExactLongestWordWrongFalsely : Prop := fnExactLongestWordRow.holds Tryd.pinned (OpenSpec.ofChange fnExactLongestWordWrong)

/-- 'laws.FnExactDimensionOf': WHATEVER THE INPUT: true; the input reads as it did. -/
def fnExactDimensionOfSpec : ChangeSpec := { name := "fnExactDimensionOf", fn := fun _ => fun
  | [d1, d2] => { results := [.lit (.bool true)], args := [d1, d2] }
  | _ => none }
def fnExactDimensionOfRow : OpenClaim := { program := "ytgafcopihlmfpaadoor", sum := "c3aa9414445bfcee6e8aa91ba81e30b62112a19dce652a35e77b3ed6e435c77b", func := "loop.example/g03109/laws.FnExactDimensionOf", spec := "fnExactDimensionOf", inPlace := ["internal/abi.NoEscape", "internal/bytealg.MakeNoZero", "internal/bytealg.CountString", "internal/bytealg.IndexByteString", "internal/bytealg.IndexString"], unfollowed := true, recurses := true, named := ["unicode/utf8.first", "unicode/utf8.acceptRanges", "internal/bytealg.MaxLen"], apart := false, laid := [("unicode/utf8.acceptRanges", laid_unicode_utf8_acceptRanges), ("unicode/utf8.first", laid_unicode_utf8_first)] }
def FnExactDimensionOfSaid : Prop := fnExactDimensionOfRow.holds Tryd.pinned (OpenSpec.ofChange fnExactDimensionOfSpec)

/-- ITS FALSE NEIGHBOUR: 'it returns false'. Refute it at one input. -/
def fnExactDimensionOfWrong : ChangeSpec := { name := "fnExactDimensionOf", fn := fun _ => fun
  | [d1, d2] => { results := [.lit (.bool false)], args := [d1, d2] }
  | _ => none }
def FnExactDimensionOfWrongFalsely : Prop := fnExactDimensionOfRow.holds Tryd.pinned (OpenSpec.ofChange fnExactDimensionOfWrong)

/-- 'laws.FnExactNormalWord': WHATEVER THE INPUT: true; the input reads as it did. -/
def fnExactNormalWordSpec : ChangeSpec := { name := "fnExactNormalWord", fn := fun _ => fun
  | [d1, d2] => { results := [.lit (.bool true)], args := [d1, d2] }
  | _ => none }
def fnExactNormalWordRow : OpenClaim := { program := "ytgafcopihlmfpaadoor", sum := "c3aa9414445bfcee6e8aa91ba81e30b62112a19dce652a35e77b3ed6e435c77b", func := "loop.example/g03109/laws.FnExactNormalWord", spec := "fnExactNormalWord", inPlace := ["internal/abi.NoEscape", "internal/bytealg.MakeNoZero", "internal/bytealg.CountString", "internal/bytealg.IndexByteString", "internal/bytealg.IndexString"], unfollowed := true, recurses := true, named := ["unicode/utf8.first", "unicode/utf8.acceptRanges", "internal/bytealg.MaxLen"], apart := false, laid := [("unicode/utf8.acceptRanges", laid_unicode_utf8_acceptRanges), ("unicode/utf8.first", laid_unicode_utf8_first)] }
def FnExactNormalWordSaid : Prop := fnExactNormalWordRow.holds Tryd.pinned (OpenSpec.ofChange fnExactNormalWordSpec)

/-- ITS FALSE NEIGHBOUR: 'it returns false'. Refute it at one input. -/
def fnExactNormalWordWrong : ChangeSpec := { name := "fnExactNormalWord", fn := fun _ => fun
  | [d1, d2] => { results := [.lit (.bool false)], args := [d1, d2] }
  | _ => none }
def FnExactNormalWordWrongFalsely : Prop := fnExactNormalWordRow.holds Tryd.pinned (OpenSpec.ofChange fnExactNormalWordWrong)

/-- 'laws.FnExactDualWeight': WHATEVER THE INPUT: true; the input reads as it did. -/
def fnExactDualWeightSpec : ChangeSpec := { name := "fnExactDualWeight", fn := fun _ => fun
  | [d1, d2] => { results := [.lit (.bool true)], args := [d1, d2] }
  | _ => none }
def fnExactDualWeightRow : OpenClaim := { program := "ytgafcopihlmfpaadoor", sum := "c3aa9414445bfcee6e8aa91ba81e30b62112a19dce652a35e77b3ed6e435c77b", func := "loop.example/g03109/laws.FnExactDualWeight", spec := "fnExactDualWeight", inPlace := ["internal/abi.NoEscape", "internal/bytealg.MakeNoZero", "internal/bytealg.CountString", "internal/bytealg.IndexByteString", "internal/bytealg.IndexString"], unfollowed := true, recurses := true, named := ["unicode/utf8.first", "unicode/utf8.acceptRanges", "internal/bytealg.MaxLen"], apart := false, laid := [("unicode/utf8.acceptRanges", laid_unicode_utf8_acceptRanges), ("unicode/utf8.first", laid_unicode_utf8_first)] }
def FnExactDualWeightSaid : Prop := fnExactDualWeightRow.holds Tryd.pinned (OpenSpec.ofChange fnExactDualWeightSpec)

/-- ITS FALSE NEIGHBOUR: 'it returns false'. Refute it at one input. -/
def fnExactDualWeightWrong : ChangeSpec := { name := "fnExactDualWeight", fn := fun _ => fun
  | [d1, d2] => { results := [.lit (.bool false)], args := [d1, d2] }
  | _ => none }
def FnExactDualWeightWrongFalsely : Prop := fnExactDualWeightRow.holds Tryd.pinned (OpenSpec.ofChange fnExactDualWeightWrong)

/-- 'laws.FnExactInverseWord': WHATEVER THE INPUT: true; the input reads as it did. -/
def fnExactInverseWordSpec : ChangeSpec := { name := "fnExactInverseWord", fn := fun _ => fun
  | [d1, d2] => { results := [.lit (.bool true)], args := [d1, d2] }
  | _ => none }
def fnExactInverseWordRow : OpenClaim := { program := "ytgafcopihlmfpaadoor", sum := "c3aa9414445bfcee6e8aa91ba81e30b62112a19dce652a35e77b3ed6e435c77b", func := "loop.example/g03109/laws.FnExactInverseWord", spec := "fnExactInverseWord", inPlace := ["internal/abi.NoEscape", "internal/bytealg.MakeNoZero", "internal/bytealg.CountString", "internal/bytealg.IndexByteString", "internal/bytealg.IndexString"], unfollowed := true, recurses := true, named := ["unicode/utf8.first", "unicode/utf8.acceptRanges", "internal/bytealg.MaxLen"], apart := false, laid := [("unicode/utf8.acceptRanges", laid_unicode_utf8_acceptRanges), ("unicode/utf8.first", laid_unicode_utf8_first)] }
def FnExactInverseWordSaid : Prop := fnExactInverseWordRow.holds Tryd.pinned (OpenSpec.ofChange fnExactInverseWordSpec)

/-- ITS FALSE NEIGHBOUR: 'it returns false'. Refute it at one input. -/
def fnExactInverseWordWrong : ChangeSpec := { name := "fnExactInverseWord", fn := fun _ => fun
  | [d1, d2] => { results := [.lit (.bool false)], args := [d1, d2] }
  | _ => none }
def FnExactInverseWordWrongFalsely : Prop := fnExactInverseWordRow.holds Tryd.pinned (OpenSpec.ofChange fnExactInverseWordWrong)

/-- 'laws.FnExactDominantOf': WHATEVER THE INPUT: true; the input reads as it did. -/
def fnExactDominantOfSpec : ChangeSpec := { name := "fnExactDominantOf", fn := fun _ => fun
  | [d1, d2] => { results := [.lit (.bool true)], args := [d1, d2] }
  | _ => none }
def fnExactDominantOfRow : OpenClaim := { program := "ytgafcopihlmfpaadoor", sum := "c3aa9414445bfcee6e8aa91ba81e30b62112a19dce652a35e77b3ed6e435c77b", func := "loop.example/g03109/laws.FnExactDominantOf", spec := "fnExactDominantOf", inPlace := ["internal/abi.NoEscape", "internal/bytealg.MakeNoZero", "internal/bytealg.CountString", "internal/bytealg.IndexByteString", "internal/bytealg.IndexString", "slices.overlaps[int]"], unfollowed := true, recurses := true, named := ["unicode/utf8.first", "unicode/utf8.acceptRanges", "internal/bytealg.MaxLen"], apart := false, laid := [("unicode/utf8.acceptRanges", laid_unicode_utf8_acceptRanges), ("unicode/utf8.first", laid_unicode_utf8_first)] }
def FnExactDominantOfSaid : Prop := fnExactDominantOfRow.holds Tryd.pinned (OpenSpec.ofChange fnExactDominantOfSpec)

/-- ITS FALSE NEIGHBOUR: 'it returns false'. Refute it at one input. -/
def fnExactDominantOfWrong : ChangeSpec := { name := "fnExactDominantOf", fn := fun _ => fun
  | [d1, d2] => { results := [.lit (.bool false)], args := [d1, d2] }
  | _ => none }
def FnExactDominantOfWrongFalsely : Prop := fnExactDominantOfRow.holds Tryd.pinned (OpenSpec.ofChange fnExactDominantOfWrong)

/-- 'laws.FnExactWeylOrder': WHATEVER THE INPUT: true; the input reads as it did. -/
def fnExactWeylOrderSpec : ChangeSpec := { name := "fnExactWeylOrder", fn := fun _ => fun
  | [d] => { results := [.lit (.bool true)], args := [d] }
  | _ => none }
def fnExactWeylOrderRow : OpenClaim := { program := "ytgafcopihlmfpaadoor", sum := "c3aa9414445bfcee6e8aa91ba81e30b62112a19dce652a35e77b3ed6e435c77b", func := "loop.example/g03109/laws.FnExactWeylOrder", spec := "fnExactWeylOrder", inPlace := ["internal/abi.NoEscape", "internal/bytealg.MakeNoZero", "internal/bytealg.CountString", "internal/bytealg.IndexByteString", "internal/bytealg.IndexString"], unfollowed := true, recurses := true, named := ["unicode/utf8.first", "unicode/utf8.acceptRanges", "internal/bytealg.MaxLen", "internal/strconv.uint64pow10", "math/bits.deBruijn32tab", "math/bits.deBruijn64tab"], apart := false, laid := [("math/bits.deBruijn32tab", laid_math_bits_deBruijn32tab), ("math/bits.deBruijn64tab", laid_math_bits_deBruijn64tab), ("internal/strconv.uint64pow10", laid_internal_strconv_uint64pow10), ("unicode/utf8.acceptRanges", laid_unicode_utf8_acceptRanges), ("unicode/utf8.first", laid_unicode_utf8_first)] }
def FnExactWeylOrderSaid : Prop := fnExactWeylOrderRow.holds Tryd.pinned (OpenSpec.ofChange fnExactWeylOrderSpec)

/-- ITS FALSE NEIGHBOUR: 'it returns false'. Refute it at one input. -/
def fnExactWeylOrderWrong : ChangeSpec := { name := "fnExactWeylOrder", fn := fun _ => fun
  | [d] => { results := [.lit (.bool false)], args := [d] }
  | _ => none }
def FnExactWeylOrderWrongFalsely : Prop := fnExactWeylOrderRow.holds Tryd.pinned (OpenSpec.ofChange fnExactWeylOrderWrong)

/- THE SECOND FORM. 'bulk': how many values and letters a reading holds, each counted each time it is reached (what is shared counts as often as it is met; a slice's spare places count too). A statement '..UptoSaid' is the law's where the arguments, and the package variables that the reading takes, are together of bulk at most 1048576: NARROWER than '..Said'. Prove '..Said' where nothing that the law and all that it calls make is longer than what came in: it says more and counts as full. Else prove '..UptoSaid'. A law counts once. -/
mutual
def uptoBulk {H : Type} : DataW H → Nat
  | .lit (.string bytes) => bytes.length + 1
  | .lit _ => 1
  | .nil => 1
  | .ptr d => uptoBulk d + 1
  | .slice elems spare => uptoBulkAll elems + uptoBulkAll spare + 1
  | .agg parts => uptoBulkAll parts + 1
  | .iface _ d => uptoBulk d + 1
  | .map entries => uptoBulkEntries entries + 1
  | .held _ => 1
def uptoBulkAll {H : Type} : List (DataW H) → Nat
  | [] => 0
  | d :: r => uptoBulk d + uptoBulkAll r
def uptoBulkEntries {H : Type} : List (Lit × DataW H) → Nat
  | [] => 0
  | x :: r => uptoBulkEntry x + uptoBulkEntries r
def uptoBulkEntry {H : Type} : Lit × DataW H → Nat
  | (.string bytes, d) => bytes.length + uptoBulk d + 1
  | (_, d) => uptoBulk d + 1
 end
def uptoSmall : (H : Type) → List (DataW H) → Bool := fun _ ds => decide (uptoBulkAll ds ≤ 1048576)
def OpenSpec.upto (s : _root_.Go.ChangeSpec) : _root_.Go.OpenSpec := { _root_.Go.OpenSpec.ofChange s with cond := some uptoSmall }

/-- 'laws.FnExactSameElement', WHERE WHAT IT READS IS OF BULK AT MOST 1048576: true; the input reads as it did. -/
def fnExactSameElementUptoRow : OpenClaim := { program := "ytgafcopihlmfpaadoor", sum := "c3aa9414445bfcee6e8aa91ba81e30b62112a19dce652a35e77b3ed6e435c77b", func := "loop.example/g03109/laws.FnExactSameElement", spec := "fnExactSameElement", inPlace := ["internal/abi.NoEscape", "internal/bytealg.MakeNoZero", "internal/bytealg.CountString", "internal/bytealg.IndexByteString", "internal/bytealg.IndexString"], unfollowed := true, recurses := true, named := ["unicode/utf8.first", "unicode/utf8.acceptRanges", "internal/bytealg.MaxLen"], apart := false, laid := [("unicode/utf8.acceptRanges", laid_unicode_utf8_acceptRanges), ("unicode/utf8.first", laid_unicode_utf8_first)], narrowed := true }
def FnExactSameElementUptoSaid : Prop := fnExactSameElementUptoRow.holds Tryd.pinned (OpenSpec.upto fnExactSameElementSpec)

/-- 'laws.FnExactCharacterOk', WHERE WHAT IT READS IS OF BULK AT MOST 1048576: true; the input reads as it did. -/
def fnExactCharacterOkUptoRow : OpenClaim := { program := "ytgafcopihlmfpaadoor", sum := "c3aa9414445bfcee6e8aa91ba81e30b62112a19dce652a35e77b3ed6e435c77b", func := "loop.example/g03109/laws.FnExactCharacterOk", spec := "fnExactCharacterOk", inPlace := ["internal/abi.NoEscape", "internal/bytealg.MakeNoZero", "internal/bytealg.CountString", "internal/bytealg.IndexByteString", "internal/bytealg.IndexString"], unfollowed := true, recurses := true, named := ["unicode/utf8.first", "unicode/utf8.acceptRanges", "internal/bytealg.MaxLen"], apart := false, laid := [("unicode/utf8.acceptRanges", laid_unicode_utf8_acceptRanges), ("unicode/utf8.first", laid_unicode_utf8_first)], narrowed := true }
def FnExactCharacterOkUptoSaid : Prop := fnExactCharacterOkUptoRow.holds Tryd.pinned (OpenSpec.upto fnExactCharacterOkSpec)

/-- 'laws.FnExactLongestWord', WHERE WHAT IT READS IS OF BULK AT MOST 1048576: true; the input reads as it did. -/
def fnExactLongestWordUptoRow : OpenClaim := { program := "ytgafcopihlmfpaadoor", sum := "c3aa9414445bfcee6e8aa91ba81e30b62112a19dce652a35e77b3ed6e435c77b", func := "loop.example/g03109/laws.FnExactLongestWord", spec := "fnExactLongestWord", inPlace := ["internal/abi.NoEscape", "internal/bytealg.MakeNoZero", "internal/bytealg.CountString", "internal/bytealg.IndexByteString", "internal/bytealg.IndexString"], unfollowed := true, recurses := true, named := ["unicode/utf8.first", "unicode/utf8.acceptRanges", "internal/bytealg.MaxLen"], apart := false, laid := [("unicode/utf8.acceptRanges", laid_unicode_utf8_acceptRanges), ("unicode/utf8.first", laid_unicode_utf8_first)], narrowed := true }
def FnExactLongestWordUptoSaid : Prop := fnExactLongestWordUptoRow.holds Tryd.pinned (OpenSpec.upto fnExactLongestWordSpec)

/-- 'laws.FnExactDimensionOf', WHERE WHAT IT READS IS OF BULK AT MOST 1048576: true; the input reads as it did. -/
def fnExactDimensionOfUptoRow : OpenClaim := { program := "ytgafcopihlmfpaadoor", sum := "c3aa9414445bfcee6e8aa91ba81e30b62112a19dce652a35e77b3ed6e435c77b", func := "loop.example/g03109/laws.FnExactDimensionOf", spec := "fnExactDimensionOf", inPlace := ["internal/abi.NoEscape", "internal/bytealg.MakeNoZero", "internal/bytealg.CountString", "internal/bytealg.IndexByteString", "internal/bytealg.IndexString"], unfollowed := true, recurses := true, named := ["unicode/utf8.first", "unicode/utf8.acceptRanges", "internal/bytealg.MaxLen"], apart := false, laid := [("unicode/utf8.acceptRanges", laid_unicode_utf8_acceptRanges), ("unicode/utf8.first", laid_unicode_utf8_first)], narrowed := true }
def FnExactDimensionOfUptoSaid : Prop := fnExactDimensionOfUptoRow.holds Tryd.pinned (OpenSpec.upto fnExactDimensionOfSpec)

/-- 'laws.FnExactNormalWord', WHERE WHAT IT READS IS OF BULK AT MOST 1048576: true; the input reads as it did. -/
def fnExactNormalWordUptoRow : OpenClaim := { program := "ytgafcopihlmfpaadoor", sum := "c3aa9414445bfcee6e8aa91ba81e30b62112a19dce652a35e77b3ed6e435c77b", func := "loop.example/g03109/laws.FnExactNormalWord", spec := "fnExactNormalWord", inPlace := ["internal/abi.NoEscape", "internal/bytealg.MakeNoZero", "internal/bytealg.CountString", "internal/bytealg.IndexByteString", "internal/bytealg.IndexString"], unfollowed := true, recurses := true, named := ["unicode/utf8.first", "unicode/utf8.acceptRanges", "internal/bytealg.MaxLen"], apart := false, laid := [("unicode/utf8.acceptRanges", laid_unicode_utf8_acceptRanges), ("unicode/utf8.first", laid_unicode_utf8_first)], narrowed := true }
def FnExactNormalWordUptoSaid : Prop := fnExactNormalWordUptoRow.holds Tryd.pinned (OpenSpec.upto fnExactNormalWordSpec)

/-- 'laws.FnExactDualWeight', WHERE WHAT IT READS IS OF BULK AT MOST 1048576: true; the input reads as it did. -/
def fnExactDualWeightUptoRow : OpenClaim := { program := "ytgafcopihlmfpaadoor", sum := "c3aa9414445bfcee6e8aa91ba81e30b62112a19dce652a35e77b3ed6e435c77b", func := "loop.example/g03109/laws.FnExactDualWeight", spec := "fnExactDualWeight", inPlace := ["internal/abi.NoEscape", "internal/bytealg.MakeNoZero", "internal/bytealg.CountString", "internal/bytealg.IndexByteString", "internal/bytealg.IndexString"], unfollowed := true, recurses := true, named := ["unicode/utf8.first", "unicode/utf8.acceptRanges", "internal/bytealg.MaxLen"], apart := false, laid := [("unicode/utf8.acceptRanges", laid_unicode_utf8_acceptRanges), ("unicode/utf8.first", laid_unicode_utf8_first)], narrowed := true }
def FnExactDualWeightUptoSaid : Prop := fnExactDualWeightUptoRow.holds Tryd.pinned (OpenSpec.upto fnExactDualWeightSpec)

/-- 'laws.FnExactInverseWord', WHERE WHAT IT READS IS OF BULK AT MOST 1048576: true; the input reads as it did. -/
def fnExactInverseWordUptoRow : OpenClaim := { program := "ytgafcopihlmfpaadoor", sum := "c3aa9414445bfcee6e8aa91ba81e30b62112a19dce652a35e77b3ed6e435c77b", func := "loop.example/g03109/laws.FnExactInverseWord", spec := "fnExactInverseWord", inPlace := ["internal/abi.NoEscape", "internal/bytealg.MakeNoZero", "internal/bytealg.CountString", "internal/bytealg.IndexByteString", "internal/bytealg.IndexString"], unfollowed := true, recurses := true, named := ["unicode/utf8.first", "unicode/utf8.acceptRanges", "internal/bytealg.MaxLen"], apart := false, laid := [("unicode/utf8.acceptRanges", laid_unicode_utf8_acceptRanges), ("unicode/utf8.first", laid_unicode_utf8_first)], narrowed := true }
def FnExactInverseWordUptoSaid : Prop := fnExactInverseWordUptoRow.holds Tryd.pinned (OpenSpec.upto fnExactInverseWordSpec)

/-- 'laws.FnExactDominantOf', WHERE WHAT IT READS IS OF BULK AT MOST 1048576: true; the input reads as it did. -/
def fnExactDominantOfUptoRow : OpenClaim := { program := "ytgafcopihlmfpaadoor", sum := "c3aa9414445bfcee6e8aa91ba81e30b62112a19dce652a35e77b3ed6e435c77b", func := "loop.example/g03109/laws.FnExactDominantOf", spec := "fnExactDominantOf", inPlace := ["internal/abi.NoEscape", "internal/bytealg.MakeNoZero", "internal/bytealg.CountString", "internal/bytealg.IndexByteString", "internal/bytealg.IndexString", "slices.overlaps[int]"], unfollowed := true, recurses := true, named := ["unicode/utf8.first", "unicode/utf8.acceptRanges", "internal/bytealg.MaxLen"], apart := false, laid := [("unicode/utf8.acceptRanges", laid_unicode_utf8_acceptRanges), ("unicode/utf8.first", laid_unicode_utf8_first)], narrowed := true }
def FnExactDominantOfUptoSaid : Prop := fnExactDominantOfUptoRow.holds Tryd.pinned (OpenSpec.upto fnExactDominantOfSpec)

/-- 'laws.FnExactWeylOrder', WHERE WHAT IT READS IS OF BULK AT MOST 1048576: true; the input reads as it did. -/
def fnExactWeylOrderUptoRow : OpenClaim := { program := "ytgafcopihlmfpaadoor", sum := "c3aa9414445bfcee6e8aa91ba81e30b62112a19dce652a35e77b3ed6e435c77b", func := "loop.example/g03109/laws.FnExactWeylOrder", spec := "fnExactWeylOrder", inPlace := ["internal/abi.NoEscape", "internal/bytealg.MakeNoZero", "internal/bytealg.CountString", "internal/bytealg.IndexByteString", "internal/bytealg.IndexString"], unfollowed := true, recurses := true, named := ["unicode/utf8.first", "unicode/utf8.acceptRanges", "internal/bytealg.MaxLen", "internal/strconv.uint64pow10", "math/bits.deBruijn32tab", "math/bits.deBruijn64tab"], apart := false, laid := [("math/bits.deBruijn32tab", laid_math_bits_deBruijn32tab), ("math/bits.deBruijn64tab", laid_math_bits_deBruijn64tab), ("internal/strconv.uint64pow10", laid_internal_strconv_uint64pow10), ("unicode/utf8.acceptRanges", laid_unicode_utf8_acceptRanges), ("unicode/utf8.first", laid_unicode_utf8_first)], narrowed := true }
def FnExactWeylOrderUptoSaid : Prop := fnExactWeylOrderUptoRow.holds Tryd.pinned (OpenSpec.upto fnExactWeylOrderSpec)

end Rows
end Go.Proofs.YtgafcopihlmfpaaDoor
