/-
  No cell of these rows narrows 'for every input' (looked for: loops, veiled, ifaces, maps, wideKeys, modest, calm, conditions, laid).
  DERIVED. THE GIVEN ROWS OF THIS SEAT. 5 by the template 'for every input the law returns true; each argument reads behind the call as it read before'; 0 by the template 'total and deterministic' (their statements: YtobnpabndpmabaaGreatTotals.lean).
  GIVEN WITH THE SEED: the statements are not yours to turn. If you find one false, say at which input.
  Laid BY PROGRAM, IN A SANDBOX (cutbox-rows.mjs): the forced cells as the released guide's own fill.sh prints them over the translation 9b9ea046833724a2… (all of the seat's roots in one cut). By AI agents, Wed Nov 11 2026. No macro, syntax, notation, axiom, sorry.
-/
import Derived.Test.YtobnpabndpmabaaGreatChecked
import GoSem.Claim
import GoSem.ClaimJoined
import GoSem.ClaimMapViews
import Derived.JoinedTies
import Derived.KernelRfl
namespace Go.Proofs.YtobnpabndpmabaaGreat
/- THE CELL 'sum', in the pinned program and in every row, IS THE sha256 OF THE DUMP (.gsa) THAT YtobnpabndpmabaaGreatProg.lean LOADS. Nothing in Lean hashes anything: it is a label: what it is worth is what the hold of that sum in a sandbox is worth. -/
noncomputable def Tryz.pinned : Pinned := { name := "ytobnpabndpmabaagreat", sum := "9b9ea046833724a27d64d62d43f8744d18852c73c03348110861f0fc2ad58bb1", checked := Tryz.checked }
namespace Rows
def none {H : Type} : Left H := { results := [], args := [] }

/-- 'quadformlaw09.VectorSorts': WHATEVER THE INPUT: true; the input reads as it did. -/
def vectorSortsSpec : ChangeSpec := { name := "vectorSorts", fn := fun _ => fun
  | [d1, d2, d3, d4, d5] => { results := [.lit (.bool true)], args := [d1, d2, d3, d4, d5] }
  | _ => none }
def vectorSortsRow : OpenClaim := { program := "ytobnpabndpmabaagreat", sum := "9b9ea046833724a27d64d62d43f8744d18852c73c03348110861f0fc2ad58bb1", func := "quadform/quadformlaw09.VectorSorts", spec := "vectorSorts", inPlace := ["math/bits.Add64", "math/bits.Sub64"], unfollowed := true, recurses := true, apart := false }
def VectorSortsSaid : Prop := vectorSortsRow.holds Tryz.pinned (OpenSpec.ofChange vectorSortsSpec)

/-- ITS FALSE NEIGHBOUR: 'it returns false'. Refute it at one input. -/
def vectorSortsWrong : ChangeSpec := { name := "vectorSorts", fn := fun _ => fun
  | [d1, d2, d3, d4, d5] => { results := [.lit (.bool false)], args := [d1, d2, d3, d4, d5] }
  | _ => none }
def VectorSortsWrongFalsely : Prop := vectorSortsRow.holds Tryz.pinned (OpenSpec.ofChange vectorSortsWrong)

/-- 'quadformlaw09.VectorSortedOnce': WHATEVER THE INPUT: true; the input reads as it did. -/
def vectorSortedOnceSpec : ChangeSpec := { name := "vectorSortedOnce", fn := fun _ => fun
  | [d1, d2, d3] => { results := [.lit (.bool true)], args := [d1, d2, d3] }
  | _ => none }
def vectorSortedOnceRow : OpenClaim := { program := "ytobnpabndpmabaagreat", sum := "9b9ea046833724a27d64d62d43f8744d18852c73c03348110861f0fc2ad58bb1", func := "quadform/quadformlaw09.VectorSortedOnce", spec := "vectorSortedOnce", inPlace := ["math/bits.Add64", "math/bits.Sub64"], unfollowed := true, recurses := true, apart := false }
def VectorSortedOnceSaid : Prop := vectorSortedOnceRow.holds Tryz.pinned (OpenSpec.ofChange vectorSortedOnceSpec)

/-- ITS FALSE NEIGHBOUR: 'it returns false'. Refute it at one input. -/
def vectorSortedOnceWrong : ChangeSpec := { name := "vectorSortedOnce", fn := fun _ => fun
  | [d1, d2, d3] => { results := [.lit (.bool false)], args := [d1, d2, d3] }
  | _ => none }
def VectorSortedOnceWrongFalsely : Prop := vectorSortedOnceRow.holds Tryz.pinned (OpenSpec.ofChange vectorSortedOnceWrong)

/-- 'quadformlaw09.VectorGrams': WHATEVER THE INPUT: true; the input reads as it did. -/
def vectorGramsSpec : ChangeSpec := { name := "vectorGrams", fn := fun _ => fun
  | [d1, d2, d3, d4] => { results := [.lit (.bool true)], args := [d1, d2, d3, d4] }
  | _ => none }
def vectorGramsRow : OpenClaim := { program := "ytobnpabndpmabaagreat", sum := "9b9ea046833724a27d64d62d43f8744d18852c73c03348110861f0fc2ad58bb1", func := "quadform/quadformlaw09.VectorGrams", spec := "vectorGrams", inPlace := ["math/bits.Add64", "math/bits.Sub64"], unfollowed := true, recurses := true, apart := false }
def VectorGramsSaid : Prop := vectorGramsRow.holds Tryz.pinned (OpenSpec.ofChange vectorGramsSpec)

/-- ITS FALSE NEIGHBOUR: 'it returns false'. Refute it at one input. -/
def vectorGramsWrong : ChangeSpec := { name := "vectorGrams", fn := fun _ => fun
  | [d1, d2, d3, d4] => { results := [.lit (.bool false)], args := [d1, d2, d3, d4] }
  | _ => none }
def VectorGramsWrongFalsely : Prop := vectorGramsRow.holds Tryz.pinned (OpenSpec.ofChange vectorGramsWrong)

/-- 'quadformlaw09.VectorUnimodular': WHATEVER THE INPUT: true; the input reads as it did. -/
def vectorUnimodularSpec : ChangeSpec := { name := "vectorUnimodular", fn := fun _ => fun
  | [d1, d2, d3, d4] => { results := [.lit (.bool true)], args := [d1, d2, d3, d4] }
  | _ => none }
def vectorUnimodularRow : OpenClaim := { program := "ytobnpabndpmabaagreat", sum := "9b9ea046833724a27d64d62d43f8744d18852c73c03348110861f0fc2ad58bb1", func := "quadform/quadformlaw09.VectorUnimodular", spec := "vectorUnimodular", inPlace := ["math/bits.Add64", "math/bits.Sub64"], unfollowed := true, recurses := true, apart := false }
def VectorUnimodularSaid : Prop := vectorUnimodularRow.holds Tryz.pinned (OpenSpec.ofChange vectorUnimodularSpec)

/-- ITS FALSE NEIGHBOUR: 'it returns false'. Refute it at one input. -/
def vectorUnimodularWrong : ChangeSpec := { name := "vectorUnimodular", fn := fun _ => fun
  | [d1, d2, d3, d4] => { results := [.lit (.bool false)], args := [d1, d2, d3, d4] }
  | _ => none }
def VectorUnimodularWrongFalsely : Prop := vectorUnimodularRow.holds Tryz.pinned (OpenSpec.ofChange vectorUnimodularWrong)

/-- 'quadformlaw09.VectorTransforms': WHATEVER THE INPUT: true; the input reads as it did. -/
def vectorTransformsSpec : ChangeSpec := { name := "vectorTransforms", fn := fun _ => fun
  | [d1, d2, d3, d4, d5] => { results := [.lit (.bool true)], args := [d1, d2, d3, d4, d5] }
  | _ => none }
def vectorTransformsRow : OpenClaim := { program := "ytobnpabndpmabaagreat", sum := "9b9ea046833724a27d64d62d43f8744d18852c73c03348110861f0fc2ad58bb1", func := "quadform/quadformlaw09.VectorTransforms", spec := "vectorTransforms", inPlace := ["math/bits.Add64", "math/bits.Sub64"], unfollowed := true, recurses := true, apart := false }
def VectorTransformsSaid : Prop := vectorTransformsRow.holds Tryz.pinned (OpenSpec.ofChange vectorTransformsSpec)

/-- ITS FALSE NEIGHBOUR: 'it returns false'. Refute it at one input. -/
def vectorTransformsWrong : ChangeSpec := { name := "vectorTransforms", fn := fun _ => fun
  | [d1, d2, d3, d4, d5] => { results := [.lit (.bool false)], args := [d1, d2, d3, d4, d5] }
  | _ => none }
def VectorTransformsWrongFalsely : Prop := vectorTransformsRow.holds Tryz.pinned (OpenSpec.ofChange vectorTransformsWrong)

/- THE SECOND FORM. 'bulk': how many values and letters a reading holds, each counted each time it is reached (what is shared counts as often as it is met; a slice's spare places count too). A statement '..UptoSaid' is the law's where the arguments, and the package variables that the reading takes, are together of bulk at most 1048576: NARROWER than '..Said'. Prove '..Said' where nothing that the law and all that it calls make is longer than what came in: it says more and counts as full. Else prove '..UptoSaid'. A law counts once. -/
mutual
def uptoBulk {H : Type} : DataW H → Nat
  | .lit (.string bytes) => bytes.length + 1
  | .lit _ => 1
  | .nil => 1
  | .ptr d => uptoBulk d + 1
  | .slice elems spare => uptoBulkAll elems + uptoBulkAll spare + 1
  | .agg parts => uptoBulkAll parts + 1
  | .iface _ d => uptoBulk d + 1
  | .map entries => uptoBulkEntries entries + 1
  | .held _ => 1
def uptoBulkAll {H : Type} : List (DataW H) → Nat
  | [] => 0
  | d :: r => uptoBulk d + uptoBulkAll r
def uptoBulkEntries {H : Type} : List (Lit × DataW H) → Nat
  | [] => 0
  | x :: r => uptoBulkEntry x + uptoBulkEntries r
def uptoBulkEntry {H : Type} : Lit × DataW H → Nat
  | (.string bytes, d) => bytes.length + uptoBulk d + 1
  | (_, d) => uptoBulk d + 1
 end
def uptoSmall : (H : Type) → List (DataW H) → Bool := fun _ ds => decide (uptoBulkAll ds ≤ 1048576)
def OpenSpec.upto (s : _root_.Go.ChangeSpec) : _root_.Go.OpenSpec := { _root_.Go.OpenSpec.ofChange s with cond := some uptoSmall }

/-- 'quadformlaw09.VectorSorts', WHERE WHAT IT READS IS OF BULK AT MOST 1048576: true; the input reads as it did. -/
def vectorSortsUptoRow : OpenClaim := { program := "ytobnpabndpmabaagreat", sum := "9b9ea046833724a27d64d62d43f8744d18852c73c03348110861f0fc2ad58bb1", func := "quadform/quadformlaw09.VectorSorts", spec := "vectorSorts", inPlace := ["math/bits.Add64", "math/bits.Sub64"], unfollowed := true, recurses := true, apart := false, narrowed := true }
def VectorSortsUptoSaid : Prop := vectorSortsUptoRow.holds Tryz.pinned (OpenSpec.upto vectorSortsSpec)

/-- 'quadformlaw09.VectorSortedOnce', WHERE WHAT IT READS IS OF BULK AT MOST 1048576: true; the input reads as it did. -/
def vectorSortedOnceUptoRow : OpenClaim := { program := "ytobnpabndpmabaagreat", sum := "9b9ea046833724a27d64d62d43f8744d18852c73c03348110861f0fc2ad58bb1", func := "quadform/quadformlaw09.VectorSortedOnce", spec := "vectorSortedOnce", inPlace := ["math/bits.Add64", "math/bits.Sub64"], unfollowed := true, recurses := true, apart := false, narrowed := true }
def VectorSortedOnceUptoSaid : Prop := vectorSortedOnceUptoRow.holds Tryz.pinned (OpenSpec.upto vectorSortedOnceSpec)

/-- 'quadformlaw09.VectorGrams', WHERE WHAT IT READS IS OF BULK AT MOST 1048576: true; the input reads as it did. -/
def vectorGramsUptoRow : OpenClaim := { program := "ytobnpabndpmabaagreat", sum := "9b9ea046833724a27d64d62d43f8744d18852c73c03348110861f0fc2ad58bb1", func := "quadform/quadformlaw09.VectorGrams", spec := "vectorGrams", inPlace := ["math/bits.Add64", "math/bits.Sub64"], unfollowed := true, recurses := true, apart := false, narrowed := true }
def VectorGramsUptoSaid : Prop := vectorGramsUptoRow.holds Tryz.pinned (OpenSpec.upto vectorGramsSpec)

/-- 'quadformlaw09.VectorUnimodular', WHERE WHAT IT READS IS OF BULK AT MOST 1048576: true; the input reads as it did. -/
def vectorUnimodularUptoRow : OpenClaim := { program := "ytobnpabndpmabaagreat", sum := "9b9ea046833724a27d64d62d43f8744d18852c73c03348110861f0fc2ad58bb1", func := "quadform/quadformlaw09.VectorUnimodular", spec := "vectorUnimodular", inPlace := ["math/bits.Add64", "math/bits.Sub64"], unfollowed := true, recurses := true, apart := false, narrowed := true }
def VectorUnimodularUptoSaid : Prop := vectorUnimodularUptoRow.holds Tryz.pinned (OpenSpec.upto vectorUnimodularSpec)

/-- 'quadformlaw09.VectorTransforms', WHERE WHAT IT READS IS OF BULK AT MOST 1048576: true; the input reads as it did. -/
def vectorTransformsUptoRow : OpenClaim := { program := "ytobnpabndpmabaagreat", sum := "9b9ea046833724a27d64d62d43f8744d18852c73c03348110861f0fc2ad58bb1", func := "quadform/quadformlaw09.VectorTransforms", spec := "vectorTransforms", inPlace := ["math/bits.Add64", "math/bits.Sub64"], unfollowed := true, recurses := true, apart := false, narrowed := true }
def VectorTransformsUptoSaid : Prop := vectorTransformsUptoRow.holds Tryz.pinned (OpenSpec.upto vectorTransformsSpec)

end Rows
end Go.Proofs.YtobnpabndpmabaaGreat
