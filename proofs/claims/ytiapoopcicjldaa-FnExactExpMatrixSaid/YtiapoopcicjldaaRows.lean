/-
  No cell of these rows narrows 'for every input' (looked for: loops, veiled, ifaces, maps, wideKeys, modest, calm, conditions, laid).
  DERIVED. THE GIVEN ROWS OF THIS SEAT. 7 by the template 'for every input the law returns true; each argument reads behind the call as it read before'; 0 by the template 'total and deterministic' (their statements: YtiapoopcicjldaaTotals.lean).
  GIVEN WITH THE SEED: the statements are not yours to turn. If you find one false, say at which input.
  Laid BY PROGRAM, IN A SANDBOX (cutbox-rows.mjs): the forced cells as the released guide's own fill.sh prints them over the translation 51e40eabcfca23e0… (all of the seat's roots in one cut). By AI agents, Wed Nov 11 2026. No macro, syntax, notation, axiom, sorry.
-/
import Derived.Test.YtiapoopcicjldaaChecked
import GoSem.Claim
import GoSem.ClaimJoined
import GoSem.ClaimMapViews
import Derived.JoinedTies
import Derived.KernelRfl
namespace Go.Proofs.Ytiapoopcicjldaa
/- THE CELL 'sum', in the pinned program and in every row, IS THE sha256 OF THE DUMP (.gsa) THAT YtiapoopcicjldaaProg.lean LOADS. Nothing in Lean hashes anything: it is a label: what it is worth is what the hold of that sum in a sandbox is worth. -/
noncomputable def Try.pinned : Pinned := { name := "ytiapoopcicjldaa", sum := "51e40eabcfca23e0a80f1930329be492c0b6a45716341942f76ea61c4f01b1aa", checked := Try.checked }
namespace Rows
def none {H : Type} : Left H := { results := [], args := [] }

/-- 'laws.FnExactCountIn': WHATEVER THE INPUT: true; the input reads as it did. -/
def fnExactCountInSpec : ChangeSpec := { name := "fnExactCountIn", fn := fun _ => fun
  | [d1, d2] => { results := [.lit (.bool true)], args := [d1, d2] }
  | _ => none }
def fnExactCountInRow : OpenClaim := { program := "ytiapoopcicjldaa", sum := "51e40eabcfca23e0a80f1930329be492c0b6a45716341942f76ea61c4f01b1aa", func := "loop.example/g03109/laws.FnExactCountIn", spec := "fnExactCountIn", apart := false }
def FnExactCountInSaid : Prop := fnExactCountInRow.holds Try.pinned (OpenSpec.ofChange fnExactCountInSpec)

/-- ITS FALSE NEIGHBOUR: 'it returns false'. Refute it at one input. -/
def fnExactCountInWrong : ChangeSpec := { name := "fnExactCountIn", fn := fun _ => fun
  | [d1, d2] => { results := [.lit (.bool false)], args := [d1, d2] }
  | _ => none }
def FnExactCountInWrongFalsely : Prop := fnExactCountInRow.holds Try.pinned (OpenSpec.ofChange fnExactCountInWrong)

/-- 'laws.FnMatrixRing': WHATEVER THE INPUT: true; the input reads as it did. -/
def fnMatrixRingSpec : ChangeSpec := { name := "fnMatrixRing", fn := fun _ => fun
  | [d] => { results := [.lit (.bool true)], args := [d] }
  | _ => none }
def fnMatrixRingRow : OpenClaim := { program := "ytiapoopcicjldaa", sum := "51e40eabcfca23e0a80f1930329be492c0b6a45716341942f76ea61c4f01b1aa", func := "loop.example/g03109/laws.FnMatrixRing", spec := "fnMatrixRing", unfollowed := true, recurses := true, apart := false }
def FnMatrixRingSaid : Prop := fnMatrixRingRow.holds Try.pinned (OpenSpec.ofChange fnMatrixRingSpec)

/-- ITS FALSE NEIGHBOUR: 'it returns false'. Refute it at one input. -/
def fnMatrixRingWrong : ChangeSpec := { name := "fnMatrixRing", fn := fun _ => fun
  | [d] => { results := [.lit (.bool false)], args := [d] }
  | _ => none }
def FnMatrixRingWrongFalsely : Prop := fnMatrixRingRow.holds Try.pinned (OpenSpec.ofChange fnMatrixRingWrong)

/-- 'laws.FnExactAddMatrices': WHATEVER THE INPUT: true; the input reads as it did. -/
def fnExactAddMatricesSpec : ChangeSpec := { name := "fnExactAddMatrices", fn := fun _ => fun
  | [d1, d2] => { results := [.lit (.bool true)], args := [d1, d2] }
  | _ => none }
def fnExactAddMatricesRow : OpenClaim := { program := "ytiapoopcicjldaa", sum := "51e40eabcfca23e0a80f1930329be492c0b6a45716341942f76ea61c4f01b1aa", func := "loop.example/g03109/laws.FnExactAddMatrices", spec := "fnExactAddMatrices", unfollowed := true, recurses := true, apart := false }
def FnExactAddMatricesSaid : Prop := fnExactAddMatricesRow.holds Try.pinned (OpenSpec.ofChange fnExactAddMatricesSpec)

/-- ITS FALSE NEIGHBOUR: 'it returns false'. Refute it at one input. -/
def fnExactAddMatricesWrong : ChangeSpec := { name := "fnExactAddMatrices", fn := fun _ => fun
  | [d1, d2] => { results := [.lit (.bool false)], args := [d1, d2] }
  | _ => none }
def FnExactAddMatricesWrongFalsely : Prop := fnExactAddMatricesRow.holds Try.pinned (OpenSpec.ofChange fnExactAddMatricesWrong)

/-- 'laws.FnExactScaleMatrix': WHATEVER THE INPUT: true; the input reads as it did. -/
def fnExactScaleMatrixSpec : ChangeSpec := { name := "fnExactScaleMatrix", fn := fun _ => fun
  | [d1, d2] => { results := [.lit (.bool true)], args := [d1, d2] }
  | _ => none }
def fnExactScaleMatrixRow : OpenClaim := { program := "ytiapoopcicjldaa", sum := "51e40eabcfca23e0a80f1930329be492c0b6a45716341942f76ea61c4f01b1aa", func := "loop.example/g03109/laws.FnExactScaleMatrix", spec := "fnExactScaleMatrix", unfollowed := true, recurses := true, apart := false }
def FnExactScaleMatrixSaid : Prop := fnExactScaleMatrixRow.holds Try.pinned (OpenSpec.ofChange fnExactScaleMatrixSpec)

/-- ITS FALSE NEIGHBOUR: 'it returns false'. Refute it at one input. -/
def fnExactScaleMatrixWrong : ChangeSpec := { name := "fnExactScaleMatrix", fn := fun _ => fun
  | [d1, d2] => { results := [.lit (.bool false)], args := [d1, d2] }
  | _ => none }
def FnExactScaleMatrixWrongFalsely : Prop := fnExactScaleMatrixRow.holds Try.pinned (OpenSpec.ofChange fnExactScaleMatrixWrong)

/-- 'laws.FnExactCommutatorOf': WHATEVER THE INPUT: true; the input reads as it did. -/
def fnExactCommutatorOfSpec : ChangeSpec := { name := "fnExactCommutatorOf", fn := fun _ => fun
  | [d1, d2] => { results := [.lit (.bool true)], args := [d1, d2] }
  | _ => none }
def fnExactCommutatorOfRow : OpenClaim := { program := "ytiapoopcicjldaa", sum := "51e40eabcfca23e0a80f1930329be492c0b6a45716341942f76ea61c4f01b1aa", func := "loop.example/g03109/laws.FnExactCommutatorOf", spec := "fnExactCommutatorOf", unfollowed := true, recurses := true, apart := false }
def FnExactCommutatorOfSaid : Prop := fnExactCommutatorOfRow.holds Try.pinned (OpenSpec.ofChange fnExactCommutatorOfSpec)

/-- ITS FALSE NEIGHBOUR: 'it returns false'. Refute it at one input. -/
def fnExactCommutatorOfWrong : ChangeSpec := { name := "fnExactCommutatorOf", fn := fun _ => fun
  | [d1, d2] => { results := [.lit (.bool false)], args := [d1, d2] }
  | _ => none }
def FnExactCommutatorOfWrongFalsely : Prop := fnExactCommutatorOfRow.holds Try.pinned (OpenSpec.ofChange fnExactCommutatorOfWrong)

/-- 'laws.FnExactExpMatrix': WHATEVER THE INPUT: true; the input reads as it did. -/
def fnExactExpMatrixSpec : ChangeSpec := { name := "fnExactExpMatrix", fn := fun _ => fun
  | [d] => { results := [.lit (.bool true)], args := [d] }
  | _ => none }
def fnExactExpMatrixRow : OpenClaim := { program := "ytiapoopcicjldaa", sum := "51e40eabcfca23e0a80f1930329be492c0b6a45716341942f76ea61c4f01b1aa", func := "loop.example/g03109/laws.FnExactExpMatrix", spec := "fnExactExpMatrix", unfollowed := true, recurses := true, apart := false }
def FnExactExpMatrixSaid : Prop := fnExactExpMatrixRow.holds Try.pinned (OpenSpec.ofChange fnExactExpMatrixSpec)

/-- ITS FALSE NEIGHBOUR: 'it returns false'. Refute it at one input. -/
def fnExactExpMatrixWrong : ChangeSpec := { name := "fnExactExpMatrix", fn := fun _ => fun
  | [d] => { results := [.lit (.bool false)], args := [d] }
  | _ => none }
def FnExactExpMatrixWrongFalsely : Prop := fnExactExpMatrixRow.holds Try.pinned (OpenSpec.ofChange fnExactExpMatrixWrong)

/-- 'laws.FnExactAlgebraOfMatrices': WHATEVER THE INPUT: true; the input reads as it did. -/
def fnExactAlgebraOfMatricesSpec : ChangeSpec := { name := "fnExactAlgebraOfMatrices", fn := fun _ => fun
  | [d] => { results := [.lit (.bool true)], args := [d] }
  | _ => none }
def fnExactAlgebraOfMatricesRow : OpenClaim := { program := "ytiapoopcicjldaa", sum := "51e40eabcfca23e0a80f1930329be492c0b6a45716341942f76ea61c4f01b1aa", func := "loop.example/g03109/laws.FnExactAlgebraOfMatrices", spec := "fnExactAlgebraOfMatrices", unfollowed := true, recurses := true, apart := false }
def FnExactAlgebraOfMatricesSaid : Prop := fnExactAlgebraOfMatricesRow.holds Try.pinned (OpenSpec.ofChange fnExactAlgebraOfMatricesSpec)

/-- ITS FALSE NEIGHBOUR: 'it returns false'. Refute it at one input. -/
def fnExactAlgebraOfMatricesWrong : ChangeSpec := { name := "fnExactAlgebraOfMatrices", fn := fun _ => fun
  | [d] => { results := [.lit (.bool false)], args := [d] }
  | _ => none }
def FnExactAlgebraOfMatricesWrongFalsely : Prop := fnExactAlgebraOfMatricesRow.holds Try.pinned (OpenSpec.ofChange fnExactAlgebraOfMatricesWrong)

/- THE SECOND FORM. 'bulk': how many values and letters a reading holds, each counted each time it is reached (what is shared counts as often as it is met; a slice's spare places count too). A statement '..UptoSaid' is the law's where the arguments, and the package variables that the reading takes, are together of bulk at most 1048576: NARROWER than '..Said'. Prove '..Said' where nothing that the law and all that it calls make is longer than what came in: it says more and counts as full. Else prove '..UptoSaid'. A law counts once. -/
mutual
def uptoBulk {H : Type} : DataW H → Nat
  | .lit (.string bytes) => bytes.length + 1
  | .lit _ => 1
  | .nil => 1
  | .ptr d => uptoBulk d + 1
  | .slice elems spare => uptoBulkAll elems + uptoBulkAll spare + 1
  | .agg parts => uptoBulkAll parts + 1
  | .iface _ d => uptoBulk d + 1
  | .map entries => uptoBulkEntries entries + 1
  | .held _ => 1
def uptoBulkAll {H : Type} : List (DataW H) → Nat
  | [] => 0
  | d :: r => uptoBulk d + uptoBulkAll r
def uptoBulkEntries {H : Type} : List (Lit × DataW H) → Nat
  | [] => 0
  | x :: r => uptoBulkEntry x + uptoBulkEntries r
def uptoBulkEntry {H : Type} : Lit × DataW H → Nat
  | (.string bytes, d) => bytes.length + uptoBulk d + 1
  | (_, d) => uptoBulk d + 1
 end
def uptoSmall : (H : Type) → List (DataW H) → Bool := fun _ ds => decide (uptoBulkAll ds ≤ 1048576)
def OpenSpec.upto (s : _root_.Go.ChangeSpec) : _root_.Go.OpenSpec := { _root_.Go.OpenSpec.ofChange s with cond := some uptoSmall }

/-- 'laws.FnExactCountIn', WHERE WHAT IT READS IS OF BULK AT MOST 1048576: true; the input reads as it did. -/
def fnExactCountInUptoRow : OpenClaim := { program := "ytiapoopcicjldaa", sum := "51e40eabcfca23e0a80f1930329be492c0b6a45716341942f76ea61c4f01b1aa", func := "loop.example/g03109/laws.FnExactCountIn", spec := "fnExactCountIn", apart := false, narrowed := true }
def FnExactCountInUptoSaid : Prop := fnExactCountInUptoRow.holds Try.pinned (OpenSpec.upto fnExactCountInSpec)

/-- 'laws.FnMatrixRing', WHERE WHAT IT READS IS OF BULK AT MOST 1048576: true; the input reads as it did. -/
def fnMatrixRingUptoRow : OpenClaim := { program := "ytiapoopcicjldaa", sum := "51e40eabcfca23e0a80f1930329be492c0b6a45716341942f76ea61c4f01b1aa", func := "loop.example/g03109/laws.FnMatrixRing", spec := "fnMatrixRing", unfollowed := true, recurses := true, apart := false, narrowed := true }
def FnMatrixRingUptoSaid : Prop := fnMatrixRingUptoRow.holds Try.pinned (OpenSpec.upto fnMatrixRingSpec)

/-- 'laws.FnExactAddMatrices', WHERE WHAT IT READS IS OF BULK AT MOST 1048576: true; the input reads as it did. -/
def fnExactAddMatricesUptoRow : OpenClaim := { program := "ytiapoopcicjldaa", sum := "51e40eabcfca23e0a80f1930329be492c0b6a45716341942f76ea61c4f01b1aa", func := "loop.example/g03109/laws.FnExactAddMatrices", spec := "fnExactAddMatrices", unfollowed := true, recurses := true, apart := false, narrowed := true }
def FnExactAddMatricesUptoSaid : Prop := fnExactAddMatricesUptoRow.holds Try.pinned (OpenSpec.upto fnExactAddMatricesSpec)

/-- 'laws.FnExactScaleMatrix', WHERE WHAT IT READS IS OF BULK AT MOST 1048576: true; the input reads as it did. -/
def fnExactScaleMatrixUptoRow : OpenClaim := { program := "ytiapoopcicjldaa", sum := "51e40eabcfca23e0a80f1930329be492c0b6a45716341942f76ea61c4f01b1aa", func := "loop.example/g03109/laws.FnExactScaleMatrix", spec := "fnExactScaleMatrix", unfollowed := true, recurses := true, apart := false, narrowed := true }
def FnExactScaleMatrixUptoSaid : Prop := fnExactScaleMatrixUptoRow.holds Try.pinned (OpenSpec.upto fnExactScaleMatrixSpec)

/-- 'laws.FnExactCommutatorOf', WHERE WHAT IT READS IS OF BULK AT MOST 1048576: true; the input reads as it did. -/
def fnExactCommutatorOfUptoRow : OpenClaim := { program := "ytiapoopcicjldaa", sum := "51e40eabcfca23e0a80f1930329be492c0b6a45716341942f76ea61c4f01b1aa", func := "loop.example/g03109/laws.FnExactCommutatorOf", spec := "fnExactCommutatorOf", unfollowed := true, recurses := true, apart := false, narrowed := true }
def FnExactCommutatorOfUptoSaid : Prop := fnExactCommutatorOfUptoRow.holds Try.pinned (OpenSpec.upto fnExactCommutatorOfSpec)

/-- 'laws.FnExactExpMatrix', WHERE WHAT IT READS IS OF BULK AT MOST 1048576: true; the input reads as it did. -/
def fnExactExpMatrixUptoRow : OpenClaim := { program := "ytiapoopcicjldaa", sum := "51e40eabcfca23e0a80f1930329be492c0b6a45716341942f76ea61c4f01b1aa", func := "loop.example/g03109/laws.FnExactExpMatrix", spec := "fnExactExpMatrix", unfollowed := true, recurses := true, apart := false, narrowed := true }
def FnExactExpMatrixUptoSaid : Prop := fnExactExpMatrixUptoRow.holds Try.pinned (OpenSpec.upto fnExactExpMatrixSpec)

/-- 'laws.FnExactAlgebraOfMatrices', WHERE WHAT IT READS IS OF BULK AT MOST 1048576: true; the input reads as it did. -/
def fnExactAlgebraOfMatricesUptoRow : OpenClaim := { program := "ytiapoopcicjldaa", sum := "51e40eabcfca23e0a80f1930329be492c0b6a45716341942f76ea61c4f01b1aa", func := "loop.example/g03109/laws.FnExactAlgebraOfMatrices", spec := "fnExactAlgebraOfMatrices", unfollowed := true, recurses := true, apart := false, narrowed := true }
def FnExactAlgebraOfMatricesUptoSaid : Prop := fnExactAlgebraOfMatricesUptoRow.holds Try.pinned (OpenSpec.upto fnExactAlgebraOfMatricesSpec)

end Rows
end Go.Proofs.Ytiapoopcicjldaa
