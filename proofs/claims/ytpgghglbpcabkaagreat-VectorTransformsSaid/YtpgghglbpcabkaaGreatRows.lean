/-
  No cell of these rows narrows 'for every input' (looked for: loops, veiled, ifaces, maps, wideKeys, modest, calm, conditions, laid).
  DERIVED. THE GIVEN ROWS OF THIS SEAT. 2 by the template 'for every input the law returns true; each argument reads behind the call as it read before'; 0 by the template 'total and deterministic' (their statements: YtpgghglbpcabkaaGreatTotals.lean).
  GIVEN WITH THE SEED: the statements are not yours to turn. If you find one false, say at which input.
  Laid BY PROGRAM, IN A SANDBOX (cutbox-rows.mjs): the forced cells as the released guide's own fill.sh prints them over the translation 782b12d4241d1ad6… (all of the seat's roots in one cut). By AI agents, Wed Nov 11 2026. No macro, syntax, notation, axiom, sorry.
-/
import Derived.Test.YtpgghglbpcabkaaGreatChecked
import GoSem.Claim
import GoSem.ClaimJoined
import GoSem.ClaimMapViews
import Derived.JoinedTies
import Derived.KernelRfl
namespace Go.Proofs.YtpgghglbpcabkaaGreat
/- THE CELL 'sum', in the pinned program and in every row, IS THE sha256 OF THE DUMP (.gsa) THAT YtpgghglbpcabkaaGreatProg.lean LOADS. Nothing in Lean hashes anything: it is a label: what it is worth is what the hold of that sum in a sandbox is worth. -/
noncomputable def Tryz.pinned : Pinned := { name := "ytpgghglbpcabkaagreat", sum := "782b12d4241d1ad6730cd17762453eb0c0fd890f2c4f817aeec4189710545e81", checked := Tryz.checked }
namespace Rows
def none {H : Type} : Left H := { results := [], args := [] }

/-- 'quadformlaw09.VectorUnimodular': WHATEVER THE INPUT: true; the input reads as it did. -/
def vectorUnimodularSpec : ChangeSpec := { name := "vectorUnimodular", fn := fun _ => fun
  | [d1, d2, d3, d4] => { results := [.lit (.bool true)], args := [d1, d2, d3, d4] }
  | _ => none }
def vectorUnimodularRow : OpenClaim := { program := "ytpgghglbpcabkaagreat", sum := "782b12d4241d1ad6730cd17762453eb0c0fd890f2c4f817aeec4189710545e81", func := "quadform/quadformlaw09.VectorUnimodular", spec := "vectorUnimodular", inPlace := ["math/bits.Add64", "math/bits.Sub64"], unfollowed := true, recurses := true, apart := false }
def VectorUnimodularSaid : Prop := vectorUnimodularRow.holds Tryz.pinned (OpenSpec.ofChange vectorUnimodularSpec)

/-- ITS FALSE NEIGHBOUR: 'it returns false'. Refute it at one input. -/
def vectorUnimodularWrong : ChangeSpec := { name := "vectorUnimodular", fn := fun _ => fun
  | [d1, d2, d3, d4] => { results := [.lit (.bool false)], args := [d1, d2, d3, d4] }
  | _ => none }
def VectorUnimodularWrongFalsely : Prop := vectorUnimodularRow.holds Tryz.pinned (OpenSpec.ofChange vectorUnimodularWrong)

/-- 'quadformlaw09.VectorTransforms': WHATEVER THE INPUT: true; the input reads as it did. -/
def vectorTransformsSpec : ChangeSpec := { name := "vectorTransforms", fn := fun _ => fun
  | [d1, d2, d3, d4, d5] => { results := [.lit (.bool true)], args := [d1, d2, d3, d4, d5] }
  | _ => none }
def vectorTransformsRow : OpenClaim := { program := "ytpgghglbpcabkaagreat", sum := "782b12d4241d1ad6730cd17762453eb0c0fd890f2c4f817aeec4189710545e81", func := "quadform/quadformlaw09.VectorTransforms", spec := "vectorTransforms", inPlace := ["math/bits.Add64", "math/bits.Sub64"], unfollowed := true, recurses := true, apart := false }
def VectorTransformsSaid : Prop := vectorTransformsRow.holds Tryz.pinned (OpenSpec.ofChange vectorTransformsSpec)

/-- ITS FALSE NEIGHBOUR: 'it returns false'. Refute it at one input. -/
def vectorTransformsWrong : ChangeSpec := { name := "vectorTransforms", fn := fun _ => fun
  | [d1, d2, d3, d4, d5] => { results := [.lit (.bool false)], args := [d1, d2, d3, d4, d5] }
  | _ => none }
def VectorTransformsWrongFalsely : Prop := vectorTransformsRow.holds Tryz.pinned (OpenSpec.ofChange vectorTransformsWrong)

/- THE SECOND FORM. 'bulk': how many values and letters a reading holds, each counted each time it is reached (what is shared counts as often as it is met; a slice's spare places count too). A statement '..UptoSaid' is the law's where the arguments, and the package variables that the reading takes, are together of bulk at most 1048576: NARROWER than '..Said'. Prove '..Said' where nothing that the law and all that it calls make is longer than what came in: it says more and counts as full. Else prove '..UptoSaid'. A law counts once. -/
mutual
def uptoBulk {H : Type} : DataW H → Nat
  | .lit (.string bytes) => bytes.length + 1
  | .lit _ => 1
  | .nil => 1
  | .ptr d => uptoBulk d + 1
  | .slice elems spare => uptoBulkAll elems + uptoBulkAll spare + 1
  | .agg parts => uptoBulkAll parts + 1
  | .iface _ d => uptoBulk d + 1
  | .map entries => uptoBulkEntries entries + 1
  | .held _ => 1
def uptoBulkAll {H : Type} : List (DataW H) → Nat
  | [] => 0
  | d :: r => uptoBulk d + uptoBulkAll r
def uptoBulkEntries {H : Type} : List (Lit × DataW H) → Nat
  | [] => 0
  | x :: r => uptoBulkEntry x + uptoBulkEntries r
def uptoBulkEntry {H : Type} : Lit × DataW H → Nat
  | (.string bytes, d) => bytes.length + uptoBulk d + 1
  | (_, d) => uptoBulk d + 1
 end
def uptoSmall : (H : Type) → List (DataW H) → Bool := fun _ ds => decide (uptoBulkAll ds ≤ 1048576)
def OpenSpec.upto (s : _root_.Go.ChangeSpec) : _root_.Go.OpenSpec := { _root_.Go.OpenSpec.ofChange s with cond := some uptoSmall }

/-- 'quadformlaw09.VectorUnimodular', WHERE WHAT IT READS IS OF BULK AT MOST 1048576: true; the input reads as it did. -/
def vectorUnimodularUptoRow : OpenClaim := { program := "ytpgghglbpcabkaagreat", sum := "782b12d4241d1ad6730cd17762453eb0c0fd890f2c4f817aeec4189710545e81", func := "quadform/quadformlaw09.VectorUnimodular", spec := "vectorUnimodular", inPlace := ["math/bits.Add64", "math/bits.Sub64"], unfollowed := true, recurses := true, apart := false, narrowed := true }
def VectorUnimodularUptoSaid : Prop := vectorUnimodularUptoRow.holds Tryz.pinned (OpenSpec.upto vectorUnimodularSpec)

/-- 'quadformlaw09.VectorTransforms', WHERE WHAT IT READS IS OF BULK AT MOST 1048576: true; the input reads as it did. -/
def vectorTransformsUptoRow : OpenClaim := { program := "ytpgghglbpcabkaagreat", sum := "782b12d4241d1ad6730cd17762453eb0c0fd890f2c4f817aeec4189710545e81", func := "quadform/quadformlaw09.VectorTransforms", spec := "vectorTransforms", inPlace := ["math/bits.Add64", "math/bits.Sub64"], unfollowed := true, recurses := true, apart := false, narrowed := true }
def VectorTransformsUptoSaid : Prop := vectorTransformsUptoRow.holds Tryz.pinned (OpenSpec.upto vectorTransformsSpec)

end Rows
end Go.Proofs.YtpgghglbpcabkaaGreat
