/-
  NARROWER THAN 'FOR EVERY INPUT', by the rows' own cells (each row's printed sentence says how): FnExactCartanOf: laid · FnExactIsCartan: laid · FnExactTypeOf: laid · FnExactWordOk: laid · FnExactSubCartan: laid · FnExactWeightOf: laid · FnExactLengthsOf: laid · FnExactStraightPath: laid · FnExactActWeight: laid · FnExactActRoot: laid · FnExactInnerOf: laid · FnExactPathOk: laid.
  DERIVED. THE GIVEN ROWS OF THIS SEAT. 12 by the template 'for every input the law returns true; each argument reads behind the call as it read before'; 0 by the template 'total and deterministic' (their statements: YtnebapjkmgebmaaDoorTotals.lean).
  GIVEN WITH THE SEED: the statements are not yours to turn. If you find one false, say at which input.
  Laid BY PROGRAM, IN A SANDBOX (cutbox-rows.mjs): the forced cells as the released guide's own fill.sh prints them over the translation 5001986a8e7fa5a0… (all of the seat's roots in one cut). By AI agents, Wed Nov 11 2026. No macro, syntax, notation, axiom, sorry.
-/
import Derived.Test.YtnebapjkmgebmaaDoorChecked
import GoSem.PinnedTables
import GoSem.Claim
import GoSem.ClaimJoined
import GoSem.ClaimMapViews
import Derived.JoinedTies
import Derived.KernelRfl
namespace Go.Proofs.YtnebapjkmgebmaaDoor
/- THE CELL 'sum', in the pinned program and in every row, IS THE sha256 OF THE DUMP (.gsa) THAT YtnebapjkmgebmaaDoorProg.lean LOADS. Nothing in Lean hashes anything: it is a label: what it is worth is what the hold of that sum in a sandbox is worth. -/
noncomputable def Tryd.pinned : Pinned := { name := "ytnebapjkmgebmaadoor", sum := "5001986a8e7fa5a05713f5442ce6c797eae2eb554bb24c1a7cfeaa14883e456e", checked := Tryd.checked }
namespace Rows
def none {H : Type} : Left H := { results := [], args := [] }

/- WHAT THE LISTED PACKAGE-LEVEL VARIABLES READ AS WHEN THE CALL BEGINS. Each datum BY PROGRAM (the guide's laid-datum.mjs) off the statement by which the dump's own 'gosem.cut.vars' lays the variable. In a bare row this is a premise. The card (YtnebapjkmgebmaaDoorCards.lean) ties it to the program's text. -/
def laid_unicode_utf8_acceptRanges {H : Type} : DataW H := .agg [.agg [.lit (.int .u8 128), .lit (.int .u8 191)], .agg [.lit (.int .u8 160), .lit (.int .u8 191)], .agg [.lit (.int .u8 128), .lit (.int .u8 159)], .agg [.lit (.int .u8 144), .lit (.int .u8 191)], .agg [.lit (.int .u8 128), .lit (.int .u8 143)], .agg [.lit (.int .u8 0), .lit (.int .u8 0)], .agg [.lit (.int .u8 0), .lit (.int .u8 0)], .agg [.lit (.int .u8 0), .lit (.int .u8 0)], .agg [.lit (.int .u8 0), .lit (.int .u8 0)], .agg [.lit (.int .u8 0), .lit (.int .u8 0)], .agg [.lit (.int .u8 0), .lit (.int .u8 0)], .agg [.lit (.int .u8 0), .lit (.int .u8 0)], .agg [.lit (.int .u8 0), .lit (.int .u8 0)], .agg [.lit (.int .u8 0), .lit (.int .u8 0)], .agg [.lit (.int .u8 0), .lit (.int .u8 0)], .agg [.lit (.int .u8 0), .lit (.int .u8 0)]]
/-- One of Go's own tables, pinned by name: the form's constant. -/
def laid_unicode_utf8_first : DataW Unit := Go.Pinned.utf8First

/-- 'laws.FnExactCartanOf': WHATEVER THE INPUT: true; the input reads as it did. -/
def fnExactCartanOfSpec : ChangeSpec := { name := "fnExactCartanOf", fn := fun _ => fun
  | [d] => { results := [.lit (.bool true)], args := [d] }
  | _ => none }
def fnExactCartanOfRow : OpenClaim := { program := "ytnebapjkmgebmaadoor", sum := "5001986a8e7fa5a05713f5442ce6c797eae2eb554bb24c1a7cfeaa14883e456e", func := "loop.example/g03109/laws.FnExactCartanOf", spec := "fnExactCartanOf", inPlace := ["internal/bytealg.CountString", "internal/bytealg.IndexByteString", "internal/bytealg.IndexString"], unfollowed := true, recurses := true, named := ["unicode/utf8.first", "unicode/utf8.acceptRanges", "internal/bytealg.MaxLen"], apart := false, laid := [("unicode/utf8.acceptRanges", laid_unicode_utf8_acceptRanges), ("unicode/utf8.first", laid_unicode_utf8_first)] }
def FnExactCartanOfSaid : Prop := fnExactCartanOfRow.holds Tryd.pinned (OpenSpec.ofChange fnExactCartanOfSpec)

/-- ITS FALSE NEIGHBOUR: 'it returns false'. Refute it at one input. -/
def fnExactCartanOfWrong : ChangeSpec := { name := "fnExactCartanOf", fn := fun _ => fun
  | [d] => { results := [.lit (.bool false)], args := [d] }
  | _ => none }
def FnExactCartanOfWrongFalsely : Prop := fnExactCartanOfRow.holds Tryd.pinned (OpenSpec.ofChange fnExactCartanOfWrong)

/-- 'laws.FnExactIsCartan': WHATEVER THE INPUT: true; the input reads as it did. -/
def fnExactIsCartanSpec : ChangeSpec := { name := "fnExactIsCartan", fn := fun _ => fun
  | [d] => { results := [.lit (.bool true)], args := [d] }
  | _ => none }
def fnExactIsCartanRow : OpenClaim := { program := "ytnebapjkmgebmaadoor", sum := "5001986a8e7fa5a05713f5442ce6c797eae2eb554bb24c1a7cfeaa14883e456e", func := "loop.example/g03109/laws.FnExactIsCartan", spec := "fnExactIsCartan", inPlace := ["internal/abi.NoEscape", "internal/bytealg.MakeNoZero", "internal/bytealg.CountString", "internal/bytealg.IndexByteString", "internal/bytealg.IndexString"], unfollowed := true, recurses := true, named := ["unicode/utf8.first", "unicode/utf8.acceptRanges", "internal/bytealg.MaxLen"], apart := false, laid := [("unicode/utf8.acceptRanges", laid_unicode_utf8_acceptRanges), ("unicode/utf8.first", laid_unicode_utf8_first)] }
def FnExactIsCartanSaid : Prop := fnExactIsCartanRow.holds Tryd.pinned (OpenSpec.ofChange fnExactIsCartanSpec)

/-- ITS FALSE NEIGHBOUR: 'it returns false'. Refute it at one input. -/
def fnExactIsCartanWrong : ChangeSpec := { name := "fnExactIsCartan", fn := fun _ => fun
  | [d] => { results := [.lit (.bool false)], args := [d] }
  | _ => none }
def FnExactIsCartanWrongFalsely : Prop := fnExactIsCartanRow.holds Tryd.pinned (OpenSpec.ofChange fnExactIsCartanWrong)

/-- 'laws.FnExactTypeOf': WHATEVER THE INPUT: true; the input reads as it did. -/
def fnExactTypeOfSpec : ChangeSpec := { name := "fnExactTypeOf", fn := fun _ => fun
  | [d] => { results := [.lit (.bool true)], args := [d] }
  | _ => none }
def fnExactTypeOfRow : OpenClaim := { program := "ytnebapjkmgebmaadoor", sum := "5001986a8e7fa5a05713f5442ce6c797eae2eb554bb24c1a7cfeaa14883e456e", func := "loop.example/g03109/laws.FnExactTypeOf", spec := "fnExactTypeOf", inPlace := ["internal/abi.NoEscape", "internal/bytealg.MakeNoZero", "internal/bytealg.CountString", "internal/bytealg.IndexByteString", "internal/bytealg.IndexString"], unfollowed := true, recurses := true, named := ["unicode/utf8.first", "unicode/utf8.acceptRanges", "internal/bytealg.MaxLen"], apart := false, laid := [("unicode/utf8.acceptRanges", laid_unicode_utf8_acceptRanges), ("unicode/utf8.first", laid_unicode_utf8_first)] }
def FnExactTypeOfSaid : Prop := fnExactTypeOfRow.holds Tryd.pinned (OpenSpec.ofChange fnExactTypeOfSpec)

/-- ITS FALSE NEIGHBOUR: 'it returns false'. Refute it at one input. -/
def fnExactTypeOfWrong : ChangeSpec := { name := "fnExactTypeOf", fn := fun _ => fun
  | [d] => { results := [.lit (.bool false)], args := [d] }
  | _ => none }
def FnExactTypeOfWrongFalsely : Prop := fnExactTypeOfRow.holds Tryd.pinned (OpenSpec.ofChange fnExactTypeOfWrong)

/-- 'laws.FnExactWordOk': WHATEVER THE INPUT: true; the input reads as it did. -/
def fnExactWordOkSpec : ChangeSpec := { name := "fnExactWordOk", fn := fun _ => fun
  | [d1, d2] => { results := [.lit (.bool true)], args := [d1, d2] }
  | _ => none }
def fnExactWordOkRow : OpenClaim := { program := "ytnebapjkmgebmaadoor", sum := "5001986a8e7fa5a05713f5442ce6c797eae2eb554bb24c1a7cfeaa14883e456e", func := "loop.example/g03109/laws.FnExactWordOk", spec := "fnExactWordOk", inPlace := ["internal/abi.NoEscape", "internal/bytealg.MakeNoZero", "internal/bytealg.CountString", "internal/bytealg.IndexByteString", "internal/bytealg.IndexString"], unfollowed := true, recurses := true, named := ["unicode/utf8.first", "unicode/utf8.acceptRanges", "internal/bytealg.MaxLen"], apart := false, laid := [("unicode/utf8.acceptRanges", laid_unicode_utf8_acceptRanges), ("unicode/utf8.first", laid_unicode_utf8_first)] }
def FnExactWordOkSaid : Prop := fnExactWordOkRow.holds Tryd.pinned (OpenSpec.ofChange fnExactWordOkSpec)

/-- ITS FALSE NEIGHBOUR: 'it returns false'. Refute it at one input. -/
def fnExactWordOkWrong : ChangeSpec := { name := "fnExactWordOk", fn := fun _ => fun
  | [d1, d2] => { results := [.lit (.bool false)], args := [d1, d2] }
  | _ => none }
def FnExactWordOkWrongFalsely : Prop := fnExactWordOkRow.holds Tryd.pinned (OpenSpec.ofChange fnExactWordOkWrong)

/-- 'laws.FnExactSubCartan': WHATEVER THE INPUT: true; the input reads as it did. -/
def fnExactSubCartanSpec : ChangeSpec := { name := "fnExactSubCartan", fn := fun _ => fun
  | [d1, d2] => { results := [.lit (.bool true)], args := [d1, d2] }
  | _ => none }
def fnExactSubCartanRow : OpenClaim := { program := "ytnebapjkmgebmaadoor", sum := "5001986a8e7fa5a05713f5442ce6c797eae2eb554bb24c1a7cfeaa14883e456e", func := "loop.example/g03109/laws.FnExactSubCartan", spec := "fnExactSubCartan", inPlace := ["internal/abi.NoEscape", "internal/bytealg.MakeNoZero", "internal/bytealg.CountString", "internal/bytealg.IndexByteString", "internal/bytealg.IndexString"], unfollowed := true, recurses := true, named := ["unicode/utf8.first", "unicode/utf8.acceptRanges", "internal/bytealg.MaxLen"], apart := false, laid := [("unicode/utf8.acceptRanges", laid_unicode_utf8_acceptRanges), ("unicode/utf8.first", laid_unicode_utf8_first)] }
def FnExactSubCartanSaid : Prop := fnExactSubCartanRow.holds Tryd.pinned (OpenSpec.ofChange fnExactSubCartanSpec)

/-- ITS FALSE NEIGHBOUR: 'it returns false'. Refute it at one input. -/
def fnExactSubCartanWrong : ChangeSpec := { name := "fnExactSubCartan", fn := fun _ => fun
  | [d1, d2] => { results := [.lit (.bool false)], args := [d1, d2] }
  | _ => none }
def FnExactSubCartanWrongFalsely : Prop := fnExactSubCartanRow.holds Tryd.pinned (OpenSpec.ofChange fnExactSubCartanWrong)

/-- 'laws.FnExactWeightOf': WHATEVER THE INPUT: true; the input reads as it did. -/
def fnExactWeightOfSpec : ChangeSpec := { name := "fnExactWeightOf", fn := fun _ => fun
  | [d1, d2] => { results := [.lit (.bool true)], args := [d1, d2] }
  | _ => none }
def fnExactWeightOfRow : OpenClaim := { program := "ytnebapjkmgebmaadoor", sum := "5001986a8e7fa5a05713f5442ce6c797eae2eb554bb24c1a7cfeaa14883e456e", func := "loop.example/g03109/laws.FnExactWeightOf", spec := "fnExactWeightOf", inPlace := ["internal/abi.NoEscape", "internal/bytealg.MakeNoZero", "internal/bytealg.CountString", "internal/bytealg.IndexByteString", "internal/bytealg.IndexString"], unfollowed := true, recurses := true, named := ["unicode/utf8.first", "unicode/utf8.acceptRanges", "internal/bytealg.MaxLen"], apart := false, laid := [("unicode/utf8.acceptRanges", laid_unicode_utf8_acceptRanges), ("unicode/utf8.first", laid_unicode_utf8_first)] }
def FnExactWeightOfSaid : Prop := fnExactWeightOfRow.holds Tryd.pinned (OpenSpec.ofChange fnExactWeightOfSpec)

/-- ITS FALSE NEIGHBOUR: 'it returns false'. Refute it at one input. -/
def fnExactWeightOfWrong : ChangeSpec := { name := "fnExactWeightOf", fn := fun _ => fun
  | [d1, d2] => { results := [.lit (.bool false)], args := [d1, d2] }
  | _ => none }
def FnExactWeightOfWrongFalsely : Prop := fnExactWeightOfRow.holds Tryd.pinned (OpenSpec.ofChange fnExactWeightOfWrong)

/-- 'laws.FnExactLengthsOf': WHATEVER THE INPUT: true; the input reads as it did. -/
def fnExactLengthsOfSpec : ChangeSpec := { name := "fnExactLengthsOf", fn := fun _ => fun
  | [d] => { results := [.lit (.bool true)], args := [d] }
  | _ => none }
def fnExactLengthsOfRow : OpenClaim := { program := "ytnebapjkmgebmaadoor", sum := "5001986a8e7fa5a05713f5442ce6c797eae2eb554bb24c1a7cfeaa14883e456e", func := "loop.example/g03109/laws.FnExactLengthsOf", spec := "fnExactLengthsOf", inPlace := ["internal/abi.NoEscape", "internal/bytealg.MakeNoZero", "internal/bytealg.CountString", "internal/bytealg.IndexByteString", "internal/bytealg.IndexString"], unfollowed := true, recurses := true, named := ["unicode/utf8.first", "unicode/utf8.acceptRanges", "internal/bytealg.MaxLen"], apart := false, laid := [("unicode/utf8.acceptRanges", laid_unicode_utf8_acceptRanges), ("unicode/utf8.first", laid_unicode_utf8_first)] }
def FnExactLengthsOfSaid : Prop := fnExactLengthsOfRow.holds Tryd.pinned (OpenSpec.ofChange fnExactLengthsOfSpec)

/-- ITS FALSE NEIGHBOUR: 'it returns false'. Refute it at one input. -/
def fnExactLengthsOfWrong : ChangeSpec := { name := "fnExactLengthsOf", fn := fun _ => fun
  | [d] => { results := [.lit (.bool false)], args := [d] }
  | _ => none }
def FnExactLengthsOfWrongFalsely : Prop := fnExactLengthsOfRow.holds Tryd.pinned (OpenSpec.ofChange fnExactLengthsOfWrong)

/-- 'laws.FnExactStraightPath': WHATEVER THE INPUT: true; the input reads as it did. -/
def fnExactStraightPathSpec : ChangeSpec := { name := "fnExactStraightPath", fn := fun _ => fun
  | [d1, d2] => { results := [.lit (.bool true)], args := [d1, d2] }
  | _ => none }
def fnExactStraightPathRow : OpenClaim := { program := "ytnebapjkmgebmaadoor", sum := "5001986a8e7fa5a05713f5442ce6c797eae2eb554bb24c1a7cfeaa14883e456e", func := "loop.example/g03109/laws.FnExactStraightPath", spec := "fnExactStraightPath", inPlace := ["internal/abi.NoEscape", "internal/bytealg.MakeNoZero", "internal/bytealg.CountString", "internal/bytealg.IndexByteString", "internal/bytealg.IndexString"], unfollowed := true, recurses := true, named := ["unicode/utf8.first", "unicode/utf8.acceptRanges", "internal/bytealg.MaxLen"], apart := false, laid := [("unicode/utf8.acceptRanges", laid_unicode_utf8_acceptRanges), ("unicode/utf8.first", laid_unicode_utf8_first)] }
def FnExactStraightPathSaid : Prop := fnExactStraightPathRow.holds Tryd.pinned (OpenSpec.ofChange fnExactStraightPathSpec)

/-- ITS FALSE NEIGHBOUR: 'it returns false'. Refute it at one input. -/
def fnExactStraightPathWrong : ChangeSpec := { name := "fnExactStraightPath", fn := fun _ => fun
  | [d1, d2] => { results := [.lit (.bool false)], args := [d1, d2] }
  | _ => none }
def FnExactStraightPathWrongFalsely : Prop := fnExactStraightPathRow.holds Tryd.pinned (OpenSpec.ofChange fnExactStraightPathWrong)

/-- 'laws.FnExactActWeight': WHATEVER THE INPUT: true; the input reads as it did. -/
def fnExactActWeightSpec : ChangeSpec := { name := "fnExactActWeight", fn := fun _ => fun
  | [d1, d2, d3] => { results := [.lit (.bool true)], args := [d1, d2, d3] }
  | _ => none }
def fnExactActWeightRow : OpenClaim := { program := "ytnebapjkmgebmaadoor", sum := "5001986a8e7fa5a05713f5442ce6c797eae2eb554bb24c1a7cfeaa14883e456e", func := "loop.example/g03109/laws.FnExactActWeight", spec := "fnExactActWeight", inPlace := ["internal/abi.NoEscape", "internal/bytealg.MakeNoZero", "internal/bytealg.CountString", "internal/bytealg.IndexByteString", "internal/bytealg.IndexString"], unfollowed := true, recurses := true, named := ["unicode/utf8.first", "unicode/utf8.acceptRanges", "internal/bytealg.MaxLen"], apart := false, laid := [("unicode/utf8.acceptRanges", laid_unicode_utf8_acceptRanges), ("unicode/utf8.first", laid_unicode_utf8_first)] }
def FnExactActWeightSaid : Prop := fnExactActWeightRow.holds Tryd.pinned (OpenSpec.ofChange fnExactActWeightSpec)

/-- ITS FALSE NEIGHBOUR: 'it returns false'. Refute it at one input. -/
def fnExactActWeightWrong : ChangeSpec := { name := "fnExactActWeight", fn := fun _ => fun
  | [d1, d2, d3] => { results := [.lit (.bool false)], args := [d1, d2, d3] }
  | _ => none }
def FnExactActWeightWrongFalsely : Prop := fnExactActWeightRow.holds Tryd.pinned (OpenSpec.ofChange fnExactActWeightWrong)

/-- 'laws.FnExactActRoot': WHATEVER THE INPUT: true; the input reads as it did. -/
def fnExactActRootSpec : ChangeSpec := { name := "fnExactActRoot", fn := fun _ => fun
  | [d1, d2, d3] => { results := [.lit (.bool true)], args := [d1, d2, d3] }
  | _ => none }
def fnExactActRootRow : OpenClaim := { program := "ytnebapjkmgebmaadoor", sum := "5001986a8e7fa5a05713f5442ce6c797eae2eb554bb24c1a7cfeaa14883e456e", func := "loop.example/g03109/laws.FnExactActRoot", spec := "fnExactActRoot", inPlace := ["internal/abi.NoEscape", "internal/bytealg.MakeNoZero", "internal/bytealg.CountString", "internal/bytealg.IndexByteString", "internal/bytealg.IndexString"], unfollowed := true, recurses := true, named := ["unicode/utf8.first", "unicode/utf8.acceptRanges", "internal/bytealg.MaxLen"], apart := false, laid := [("unicode/utf8.acceptRanges", laid_unicode_utf8_acceptRanges), ("unicode/utf8.first", laid_unicode_utf8_first)] }
def FnExactActRootSaid : Prop := fnExactActRootRow.holds Tryd.pinned (OpenSpec.ofChange fnExactActRootSpec)

/-- ITS FALSE NEIGHBOUR: 'it returns false'. Refute it at one input. -/
def fnExactActRootWrong : ChangeSpec := { name := "fnExactActRoot", fn := fun _ => fun
  | [d1, d2, d3] => { results := [.lit (.bool false)], args := [d1, d2, d3] }
  | _ => none }
def FnExactActRootWrongFalsely : Prop := fnExactActRootRow.holds Tryd.pinned (OpenSpec.ofChange fnExactActRootWrong)

/-- 'laws.FnExactInnerOf': WHATEVER THE INPUT: true; the input reads as it did. -/
def fnExactInnerOfSpec : ChangeSpec := { name := "fnExactInnerOf", fn := fun _ => fun
  | [d1, d2, d3] => { results := [.lit (.bool true)], args := [d1, d2, d3] }
  | _ => none }
def fnExactInnerOfRow : OpenClaim := { program := "ytnebapjkmgebmaadoor", sum := "5001986a8e7fa5a05713f5442ce6c797eae2eb554bb24c1a7cfeaa14883e456e", func := "loop.example/g03109/laws.FnExactInnerOf", spec := "fnExactInnerOf", inPlace := ["internal/abi.NoEscape", "internal/bytealg.MakeNoZero", "internal/bytealg.CountString", "internal/bytealg.IndexByteString", "internal/bytealg.IndexString"], unfollowed := true, recurses := true, named := ["unicode/utf8.first", "unicode/utf8.acceptRanges", "internal/bytealg.MaxLen"], apart := false, laid := [("unicode/utf8.acceptRanges", laid_unicode_utf8_acceptRanges), ("unicode/utf8.first", laid_unicode_utf8_first)] }
def FnExactInnerOfSaid : Prop := fnExactInnerOfRow.holds Tryd.pinned (OpenSpec.ofChange fnExactInnerOfSpec)

/-- ITS FALSE NEIGHBOUR: 'it returns false'. Refute it at one input. -/
def fnExactInnerOfWrong : ChangeSpec := { name := "fnExactInnerOf", fn := fun _ => fun
  | [d1, d2, d3] => { results := [.lit (.bool false)], args := [d1, d2, d3] }
  | _ => none }
def FnExactInnerOfWrongFalsely : Prop := fnExactInnerOfRow.holds Tryd.pinned (OpenSpec.ofChange fnExactInnerOfWrong)

/-- 'laws.FnExactPathOk': WHATEVER THE INPUT: true; the input reads as it did. -/
def fnExactPathOkSpec : ChangeSpec := { name := "fnExactPathOk", fn := fun _ => fun
  | [d1, d2] => { results := [.lit (.bool true)], args := [d1, d2] }
  | _ => none }
def fnExactPathOkRow : OpenClaim := { program := "ytnebapjkmgebmaadoor", sum := "5001986a8e7fa5a05713f5442ce6c797eae2eb554bb24c1a7cfeaa14883e456e", func := "loop.example/g03109/laws.FnExactPathOk", spec := "fnExactPathOk", inPlace := ["internal/abi.NoEscape", "internal/bytealg.MakeNoZero", "internal/bytealg.CountString", "internal/bytealg.IndexByteString", "internal/bytealg.IndexString"], unfollowed := true, recurses := true, named := ["unicode/utf8.first", "unicode/utf8.acceptRanges", "internal/bytealg.MaxLen"], apart := false, laid := [("unicode/utf8.acceptRanges", laid_unicode_utf8_acceptRanges), ("unicode/utf8.first", laid_unicode_utf8_first)] }
def FnExactPathOkSaid : Prop := fnExactPathOkRow.holds Tryd.pinned (OpenSpec.ofChange fnExactPathOkSpec)

/-- ITS FALSE NEIGHBOUR: 'it returns false'. Refute it at one input. -/
def fnExactPathOkWrong : ChangeSpec := { name := "fnExactPathOk", fn := fun _ => fun
  | [d1, d2] => { results := [.lit (.bool false)], args := [d1, d2] }
  | _ => none }
def FnExactPathOkWrongFalsely : Prop := fnExactPathOkRow.holds Tryd.pinned (OpenSpec.ofChange fnExactPathOkWrong)

/- THE SECOND FORM. 'bulk': how many values and letters a reading holds, each counted each time it is reached (what is shared counts as often as it is met; a slice's spare places count too). A statement '..UptoSaid' is the law's where the arguments, and the package variables that the reading takes, are together of bulk at most 1048576: NARROWER than '..Said'. Prove '..Said' where nothing that the law and all that it calls make is longer than what came in: it says more and counts as full. Else prove '..UptoSaid'. A law counts once. -/
mutual
def uptoBulk {H : Type} : DataW H → Nat
  | .lit (.string bytes) => bytes.length + 1
  | .lit _ => 1
  | .nil => 1
  | .ptr d => uptoBulk d + 1
  | .slice elems spare => uptoBulkAll elems + uptoBulkAll spare + 1
  | .agg parts => uptoBulkAll parts + 1
  | .iface _ d => uptoBulk d + 1
  | .map entries => uptoBulkEntries entries + 1
  | .held _ => 1
def uptoBulkAll {H : Type} : List (DataW H) → Nat
  | [] => 0
  | d :: r => uptoBulk d + uptoBulkAll r
def uptoBulkEntries {H : Type} : List (Lit × DataW H) → Nat
  | [] => 0
  | x :: r => uptoBulkEntry x + uptoBulkEntries r
def uptoBulkEntry {H : Type} : Lit × DataW H → Nat
  | (.string bytes, d) => bytes.length + uptoBulk d + 1
  | (_, d) => uptoBulk d + 1
 end
def uptoSmall : (H : Type) → List (DataW H) → Bool := fun _ ds => decide (uptoBulkAll ds ≤ 1048576)
def OpenSpec.upto (s : _root_.Go.ChangeSpec) : _root_.Go.OpenSpec := { _root_.Go.OpenSpec.ofChange s with cond := some uptoSmall }

/-- 'laws.FnExactCartanOf', WHERE WHAT IT READS IS OF BULK AT MOST 1048576: true; the input reads as it did. -/
def fnExactCartanOfUptoRow : OpenClaim := { program := "ytnebapjkmgebmaadoor", sum := "5001986a8e7fa5a05713f5442ce6c797eae2eb554bb24c1a7cfeaa14883e456e", func := "loop.example/g03109/laws.FnExactCartanOf", spec := "fnExactCartanOf", inPlace := ["internal/bytealg.CountString", "internal/bytealg.IndexByteString", "internal/bytealg.IndexString"], unfollowed := true, recurses := true, named := ["unicode/utf8.first", "unicode/utf8.acceptRanges", "internal/bytealg.MaxLen"], apart := false, laid := [("unicode/utf8.acceptRanges", laid_unicode_utf8_acceptRanges), ("unicode/utf8.first", laid_unicode_utf8_first)], narrowed := true }
def FnExactCartanOfUptoSaid : Prop := fnExactCartanOfUptoRow.holds Tryd.pinned (OpenSpec.upto fnExactCartanOfSpec)

/-- 'laws.FnExactIsCartan', WHERE WHAT IT READS IS OF BULK AT MOST 1048576: true; the input reads as it did. -/
def fnExactIsCartanUptoRow : OpenClaim := { program := "ytnebapjkmgebmaadoor", sum := "5001986a8e7fa5a05713f5442ce6c797eae2eb554bb24c1a7cfeaa14883e456e", func := "loop.example/g03109/laws.FnExactIsCartan", spec := "fnExactIsCartan", inPlace := ["internal/abi.NoEscape", "internal/bytealg.MakeNoZero", "internal/bytealg.CountString", "internal/bytealg.IndexByteString", "internal/bytealg.IndexString"], unfollowed := true, recurses := true, named := ["unicode/utf8.first", "unicode/utf8.acceptRanges", "internal/bytealg.MaxLen"], apart := false, laid := [("unicode/utf8.acceptRanges", laid_unicode_utf8_acceptRanges), ("unicode/utf8.first", laid_unicode_utf8_first)], narrowed := true }
def FnExactIsCartanUptoSaid : Prop := fnExactIsCartanUptoRow.holds Tryd.pinned (OpenSpec.upto fnExactIsCartanSpec)

/-- 'laws.FnExactTypeOf', WHERE WHAT IT READS IS OF BULK AT MOST 1048576: true; the input reads as it did. -/
def fnExactTypeOfUptoRow : OpenClaim := { program := "ytnebapjkmgebmaadoor", sum := "5001986a8e7fa5a05713f5442ce6c797eae2eb554bb24c1a7cfeaa14883e456e", func := "loop.example/g03109/laws.FnExactTypeOf", spec := "fnExactTypeOf", inPlace := ["internal/abi.NoEscape", "internal/bytealg.MakeNoZero", "internal/bytealg.CountString", "internal/bytealg.IndexByteString", "internal/bytealg.IndexString"], unfollowed := true, recurses := true, named := ["unicode/utf8.first", "unicode/utf8.acceptRanges", "internal/bytealg.MaxLen"], apart := false, laid := [("unicode/utf8.acceptRanges", laid_unicode_utf8_acceptRanges), ("unicode/utf8.first", laid_unicode_utf8_first)], narrowed := true }
def FnExactTypeOfUptoSaid : Prop := fnExactTypeOfUptoRow.holds Tryd.pinned (OpenSpec.upto fnExactTypeOfSpec)

/-- 'laws.FnExactWordOk', WHERE WHAT IT READS IS OF BULK AT MOST 1048576: true; the input reads as it did. -/
def fnExactWordOkUptoRow : OpenClaim := { program := "ytnebapjkmgebmaadoor", sum := "5001986a8e7fa5a05713f5442ce6c797eae2eb554bb24c1a7cfeaa14883e456e", func := "loop.example/g03109/laws.FnExactWordOk", spec := "fnExactWordOk", inPlace := ["internal/abi.NoEscape", "internal/bytealg.MakeNoZero", "internal/bytealg.CountString", "internal/bytealg.IndexByteString", "internal/bytealg.IndexString"], unfollowed := true, recurses := true, named := ["unicode/utf8.first", "unicode/utf8.acceptRanges", "internal/bytealg.MaxLen"], apart := false, laid := [("unicode/utf8.acceptRanges", laid_unicode_utf8_acceptRanges), ("unicode/utf8.first", laid_unicode_utf8_first)], narrowed := true }
def FnExactWordOkUptoSaid : Prop := fnExactWordOkUptoRow.holds Tryd.pinned (OpenSpec.upto fnExactWordOkSpec)

/-- 'laws.FnExactSubCartan', WHERE WHAT IT READS IS OF BULK AT MOST 1048576: true; the input reads as it did. -/
def fnExactSubCartanUptoRow : OpenClaim := { program := "ytnebapjkmgebmaadoor", sum := "5001986a8e7fa5a05713f5442ce6c797eae2eb554bb24c1a7cfeaa14883e456e", func := "loop.example/g03109/laws.FnExactSubCartan", spec := "fnExactSubCartan", inPlace := ["internal/abi.NoEscape", "internal/bytealg.MakeNoZero", "internal/bytealg.CountString", "internal/bytealg.IndexByteString", "internal/bytealg.IndexString"], unfollowed := true, recurses := true, named := ["unicode/utf8.first", "unicode/utf8.acceptRanges", "internal/bytealg.MaxLen"], apart := false, laid := [("unicode/utf8.acceptRanges", laid_unicode_utf8_acceptRanges), ("unicode/utf8.first", laid_unicode_utf8_first)], narrowed := true }
def FnExactSubCartanUptoSaid : Prop := fnExactSubCartanUptoRow.holds Tryd.pinned (OpenSpec.upto fnExactSubCartanSpec)

/-- 'laws.FnExactWeightOf', WHERE WHAT IT READS IS OF BULK AT MOST 1048576: true; the input reads as it did. -/
def fnExactWeightOfUptoRow : OpenClaim := { program := "ytnebapjkmgebmaadoor", sum := "5001986a8e7fa5a05713f5442ce6c797eae2eb554bb24c1a7cfeaa14883e456e", func := "loop.example/g03109/laws.FnExactWeightOf", spec := "fnExactWeightOf", inPlace := ["internal/abi.NoEscape", "internal/bytealg.MakeNoZero", "internal/bytealg.CountString", "internal/bytealg.IndexByteString", "internal/bytealg.IndexString"], unfollowed := true, recurses := true, named := ["unicode/utf8.first", "unicode/utf8.acceptRanges", "internal/bytealg.MaxLen"], apart := false, laid := [("unicode/utf8.acceptRanges", laid_unicode_utf8_acceptRanges), ("unicode/utf8.first", laid_unicode_utf8_first)], narrowed := true }
def FnExactWeightOfUptoSaid : Prop := fnExactWeightOfUptoRow.holds Tryd.pinned (OpenSpec.upto fnExactWeightOfSpec)

/-- 'laws.FnExactLengthsOf', WHERE WHAT IT READS IS OF BULK AT MOST 1048576: true; the input reads as it did. -/
def fnExactLengthsOfUptoRow : OpenClaim := { program := "ytnebapjkmgebmaadoor", sum := "5001986a8e7fa5a05713f5442ce6c797eae2eb554bb24c1a7cfeaa14883e456e", func := "loop.example/g03109/laws.FnExactLengthsOf", spec := "fnExactLengthsOf", inPlace := ["internal/abi.NoEscape", "internal/bytealg.MakeNoZero", "internal/bytealg.CountString", "internal/bytealg.IndexByteString", "internal/bytealg.IndexString"], unfollowed := true, recurses := true, named := ["unicode/utf8.first", "unicode/utf8.acceptRanges", "internal/bytealg.MaxLen"], apart := false, laid := [("unicode/utf8.acceptRanges", laid_unicode_utf8_acceptRanges), ("unicode/utf8.first", laid_unicode_utf8_first)], narrowed := true }
def FnExactLengthsOfUptoSaid : Prop := fnExactLengthsOfUptoRow.holds Tryd.pinned (OpenSpec.upto fnExactLengthsOfSpec)

/-- 'laws.FnExactStraightPath', WHERE WHAT IT READS IS OF BULK AT MOST 1048576: true; the input reads as it did. -/
def fnExactStraightPathUptoRow : OpenClaim := { program := "ytnebapjkmgebmaadoor", sum := "5001986a8e7fa5a05713f5442ce6c797eae2eb554bb24c1a7cfeaa14883e456e", func := "loop.example/g03109/laws.FnExactStraightPath", spec := "fnExactStraightPath", inPlace := ["internal/abi.NoEscape", "internal/bytealg.MakeNoZero", "internal/bytealg.CountString", "internal/bytealg.IndexByteString", "internal/bytealg.IndexString"], unfollowed := true, recurses := true, named := ["unicode/utf8.first", "unicode/utf8.acceptRanges", "internal/bytealg.MaxLen"], apart := false, laid := [("unicode/utf8.acceptRanges", laid_unicode_utf8_acceptRanges), ("unicode/utf8.first", laid_unicode_utf8_first)], narrowed := true }
def FnExactStraightPathUptoSaid : Prop := fnExactStraightPathUptoRow.holds Tryd.pinned (OpenSpec.upto fnExactStraightPathSpec)

/-- 'laws.FnExactActWeight', WHERE WHAT IT READS IS OF BULK AT MOST 1048576: true; the input reads as it did. -/
def fnExactActWeightUptoRow : OpenClaim := { program := "ytnebapjkmgebmaadoor", sum := "5001986a8e7fa5a05713f5442ce6c797eae2eb554bb24c1a7cfeaa14883e456e", func := "loop.example/g03109/laws.FnExactActWeight", spec := "fnExactActWeight", inPlace := ["internal/abi.NoEscape", "internal/bytealg.MakeNoZero", "internal/bytealg.CountString", "internal/bytealg.IndexByteString", "internal/bytealg.IndexString"], unfollowed := true, recurses := true, named := ["unicode/utf8.first", "unicode/utf8.acceptRanges", "internal/bytealg.MaxLen"], apart := false, laid := [("unicode/utf8.acceptRanges", laid_unicode_utf8_acceptRanges), ("unicode/utf8.first", laid_unicode_utf8_first)], narrowed := true }
def FnExactActWeightUptoSaid : Prop := fnExactActWeightUptoRow.holds Tryd.pinned (OpenSpec.upto fnExactActWeightSpec)

/-- 'laws.FnExactActRoot', WHERE WHAT IT READS IS OF BULK AT MOST 1048576: true; the input reads as it did. -/
def fnExactActRootUptoRow : OpenClaim := { program := "ytnebapjkmgebmaadoor", sum := "5001986a8e7fa5a05713f5442ce6c797eae2eb554bb24c1a7cfeaa14883e456e", func := "loop.example/g03109/laws.FnExactActRoot", spec := "fnExactActRoot", inPlace := ["internal/abi.NoEscape", "internal/bytealg.MakeNoZero", "internal/bytealg.CountString", "internal/bytealg.IndexByteString", "internal/bytealg.IndexString"], unfollowed := true, recurses := true, named := ["unicode/utf8.first", "unicode/utf8.acceptRanges", "internal/bytealg.MaxLen"], apart := false, laid := [("unicode/utf8.acceptRanges", laid_unicode_utf8_acceptRanges), ("unicode/utf8.first", laid_unicode_utf8_first)], narrowed := true }
def FnExactActRootUptoSaid : Prop := fnExactActRootUptoRow.holds Tryd.pinned (OpenSpec.upto fnExactActRootSpec)

/-- 'laws.FnExactInnerOf', WHERE WHAT IT READS IS OF BULK AT MOST 1048576: true; the input reads as it did. -/
def fnExactInnerOfUptoRow : OpenClaim := { program := "ytnebapjkmgebmaadoor", sum := "5001986a8e7fa5a05713f5442ce6c797eae2eb554bb24c1a7cfeaa14883e456e", func := "loop.example/g03109/laws.FnExactInnerOf", spec := "fnExactInnerOf", inPlace := ["internal/abi.NoEscape", "internal/bytealg.MakeNoZero", "internal/bytealg.CountString", "internal/bytealg.IndexByteString", "internal/bytealg.IndexString"], unfollowed := true, recurses := true, named := ["unicode/utf8.first", "unicode/utf8.acceptRanges", "internal/bytealg.MaxLen"], apart := false, laid := [("unicode/utf8.acceptRanges", laid_unicode_utf8_acceptRanges), ("unicode/utf8.first", laid_unicode_utf8_first)], narrowed := true }
def FnExactInnerOfUptoSaid : Prop := fnExactInnerOfUptoRow.holds Tryd.pinned (OpenSpec.upto fnExactInnerOfSpec)

/-- 'laws.FnExactPathOk', WHERE WHAT IT READS IS OF BULK AT MOST 1048576: true; the input reads as it did. -/
def fnExactPathOkUptoRow : OpenClaim := { program := "ytnebapjkmgebmaadoor", sum := "5001986a8e7fa5a05713f5442ce6c797eae2eb554bb24c1a7cfeaa14883e456e", func := "loop.example/g03109/laws.FnExactPathOk", spec := "fnExactPathOk", inPlace := ["internal/abi.NoEscape", "internal/bytealg.MakeNoZero", "internal/bytealg.CountString", "internal/bytealg.IndexByteString", "internal/bytealg.IndexString"], unfollowed := true, recurses := true, named := ["unicode/utf8.first", "unicode/utf8.acceptRanges", "internal/bytealg.MaxLen"], apart := false, laid := [("unicode/utf8.acceptRanges", laid_unicode_utf8_acceptRanges), ("unicode/utf8.first", laid_unicode_utf8_first)], narrowed := true }
def FnExactPathOkUptoSaid : Prop := fnExactPathOkUptoRow.holds Tryd.pinned (OpenSpec.upto fnExactPathOkSpec)

end Rows
end Go.Proofs.YtnebapjkmgebmaaDoor
