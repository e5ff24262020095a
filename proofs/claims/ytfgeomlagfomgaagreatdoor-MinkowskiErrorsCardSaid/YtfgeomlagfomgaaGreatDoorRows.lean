/-
  NARROWER THAN 'FOR EVERY INPUT', by the rows' own cells (each row's printed sentence says how): MinkowskiIsReduced: laid · MinkowskiNear: laid · MinkowskiReduces: laid · MinkowskiProducts: laid · MinkowskiBinary: laid · MinkowskiDiagonal: laid · MinkowskiBases: laid · MinkowskiVerifies: laid · MinkowskiAccepts: laid · MinkowskiErrors: laid.
  DERIVED. THE GIVEN ROWS OF THIS SEAT. 10 by the template 'for every input the law returns true; each argument reads behind the call as it read before'; 0 by the template 'total and deterministic' (their statements: YtfgeomlagfomgaaGreatDoorTotals.lean).
  GIVEN WITH THE SEED: the statements are not yours to turn. If you find one false, say at which input.
  Laid BY PROGRAM, IN A SANDBOX (cutbox-rows.mjs): the forced cells as the released guide's own fill.sh prints them over the translation a005ffd42a168b93… (all of the seat's roots in one cut). By AI agents, Wed Nov 11 2026. No macro, syntax, notation, axiom, sorry.
-/
import Derived.Test.YtfgeomlagfomgaaGreatDoorChecked
import GoSem.Claim
import GoSem.ClaimJoined
import GoSem.ClaimMapViews
import Derived.JoinedTies
import Derived.KernelRfl
namespace Go.Proofs.YtfgeomlagfomgaaGreatDoor
/- THE CELL 'sum', in the pinned program and in every row, IS THE sha256 OF THE DUMP (.gsa) THAT YtfgeomlagfomgaaGreatDoorProg.lean LOADS. Nothing in Lean hashes anything: it is a label: what it is worth is what the hold of that sum in a sandbox is worth. -/
noncomputable def Tryz.pinned : Pinned := { name := "ytfgeomlagfomgaagreatdoor", sum := "a005ffd42a168b93e799751ce3029f627d4f43e3c1a5ad6dbf03a8e7a345db53", checked := Tryz.checked }
namespace Rows
def none {H : Type} : Left H := { results := [], args := [] }

/- WHAT THE LISTED PACKAGE-LEVEL VARIABLES READ AS WHEN THE CALL BEGINS. Each datum BY PROGRAM (the guide's laid-datum.mjs) off the statement by which the dump's own 'gosem.cut.vars' lays the variable. In a bare row this is a premise. The card (YtfgeomlagfomgaaGreatDoorCards.lean) ties it to the program's text. -/
def laid_quadform_minkowski_conditions {H : Type} : DataW H := .agg [.lit (.int .i64 1), .lit (.int .i64 3), .lit (.int .i64 9), .lit (.int .i64 27)]

/-- 'quadformlaw14.MinkowskiIsReduced': WHATEVER THE INPUT: true; the input reads as it did. -/
def minkowskiIsReducedSpec : ChangeSpec := { name := "minkowskiIsReduced", fn := fun _ => fun
  | [d1, d2, d3] => { results := [.lit (.bool true)], args := [d1, d2, d3] }
  | _ => none }
def minkowskiIsReducedRow : OpenClaim := { program := "ytfgeomlagfomgaagreatdoor", sum := "a005ffd42a168b93e799751ce3029f627d4f43e3c1a5ad6dbf03a8e7a345db53", func := "quadform/quadformlaw14.MinkowskiIsReduced", spec := "minkowskiIsReduced", inPlace := ["math/bits.Add64", "math/bits.Sub64"], unfollowed := true, recurses := true, named := ["quadform/minkowski.conditions"], apart := false, laid := [("quadform/minkowski.conditions", laid_quadform_minkowski_conditions)] }
def MinkowskiIsReducedSaid : Prop := minkowskiIsReducedRow.holds Tryz.pinned (OpenSpec.ofChange minkowskiIsReducedSpec)

/-- ITS FALSE NEIGHBOUR: 'it returns false'. Refute it at one input. -/
def minkowskiIsReducedWrong : ChangeSpec := { name := "minkowskiIsReduced", fn := fun _ => fun
  | [d1, d2, d3] => { results := [.lit (.bool false)], args := [d1, d2, d3] }
  | _ => none }
def MinkowskiIsReducedWrongFalsely : Prop := minkowskiIsReducedRow.holds Tryz.pinned (OpenSpec.ofChange minkowskiIsReducedWrong)

/-- 'quadformlaw14.MinkowskiNear': WHATEVER THE INPUT: true; the input reads as it did. -/
def minkowskiNearSpec : ChangeSpec := { name := "minkowskiNear", fn := fun _ => fun
  | [d1, d2, d3] => { results := [.lit (.bool true)], args := [d1, d2, d3] }
  | _ => none }
def minkowskiNearRow : OpenClaim := { program := "ytfgeomlagfomgaagreatdoor", sum := "a005ffd42a168b93e799751ce3029f627d4f43e3c1a5ad6dbf03a8e7a345db53", func := "quadform/quadformlaw14.MinkowskiNear", spec := "minkowskiNear", inPlace := ["math/bits.Add64", "math/bits.Sub64"], unfollowed := true, recurses := true, named := ["quadform/minkowski.conditions"], apart := false, laid := [("quadform/minkowski.conditions", laid_quadform_minkowski_conditions)] }
def MinkowskiNearSaid : Prop := minkowskiNearRow.holds Tryz.pinned (OpenSpec.ofChange minkowskiNearSpec)

/-- ITS FALSE NEIGHBOUR: 'it returns false'. Refute it at one input. -/
def minkowskiNearWrong : ChangeSpec := { name := "minkowskiNear", fn := fun _ => fun
  | [d1, d2, d3] => { results := [.lit (.bool false)], args := [d1, d2, d3] }
  | _ => none }
def MinkowskiNearWrongFalsely : Prop := minkowskiNearRow.holds Tryz.pinned (OpenSpec.ofChange minkowskiNearWrong)

/-- 'quadformlaw14.MinkowskiReduces': WHATEVER THE INPUT: true; the input reads as it did. -/
def minkowskiReducesSpec : ChangeSpec := { name := "minkowskiReduces", fn := fun _ => fun
  | [d] => { results := [.lit (.bool true)], args := [d] }
  | _ => none }
def minkowskiReducesRow : OpenClaim := { program := "ytfgeomlagfomgaagreatdoor", sum := "a005ffd42a168b93e799751ce3029f627d4f43e3c1a5ad6dbf03a8e7a345db53", func := "quadform/quadformlaw14.MinkowskiReduces", spec := "minkowskiReduces", inPlace := ["math/bits.Add64", "math/bits.Sub64"], unfollowed := true, recurses := true, named := ["quadform/minkowski.conditions"], apart := false, laid := [("quadform/minkowski.conditions", laid_quadform_minkowski_conditions)] }
def MinkowskiReducesSaid : Prop := minkowskiReducesRow.holds Tryz.pinned (OpenSpec.ofChange minkowskiReducesSpec)

/-- ITS FALSE NEIGHBOUR: 'it returns false'. Refute it at one input. -/
def minkowskiReducesWrong : ChangeSpec := { name := "minkowskiReduces", fn := fun _ => fun
  | [d] => { results := [.lit (.bool false)], args := [d] }
  | _ => none }
def MinkowskiReducesWrongFalsely : Prop := minkowskiReducesRow.holds Tryz.pinned (OpenSpec.ofChange minkowskiReducesWrong)

/-- 'quadformlaw14.MinkowskiProducts': WHATEVER THE INPUT: true; the input reads as it did. -/
def minkowskiProductsSpec : ChangeSpec := { name := "minkowskiProducts", fn := fun _ => fun
  | [d] => { results := [.lit (.bool true)], args := [d] }
  | _ => none }
def minkowskiProductsRow : OpenClaim := { program := "ytfgeomlagfomgaagreatdoor", sum := "a005ffd42a168b93e799751ce3029f627d4f43e3c1a5ad6dbf03a8e7a345db53", func := "quadform/quadformlaw14.MinkowskiProducts", spec := "minkowskiProducts", inPlace := ["math/bits.Add64", "math/bits.Sub64"], unfollowed := true, recurses := true, named := ["quadform/minkowski.conditions"], apart := false, laid := [("quadform/minkowski.conditions", laid_quadform_minkowski_conditions)] }
def MinkowskiProductsSaid : Prop := minkowskiProductsRow.holds Tryz.pinned (OpenSpec.ofChange minkowskiProductsSpec)

/-- ITS FALSE NEIGHBOUR: 'it returns false'. Refute it at one input. -/
def minkowskiProductsWrong : ChangeSpec := { name := "minkowskiProducts", fn := fun _ => fun
  | [d] => { results := [.lit (.bool false)], args := [d] }
  | _ => none }
def MinkowskiProductsWrongFalsely : Prop := minkowskiProductsRow.holds Tryz.pinned (OpenSpec.ofChange minkowskiProductsWrong)

/-- 'quadformlaw14.MinkowskiBinary': WHATEVER THE INPUT: true; the input reads as it did. -/
def minkowskiBinarySpec : ChangeSpec := { name := "minkowskiBinary", fn := fun _ => fun
  | [d1, d2, d3, d4] => { results := [.lit (.bool true)], args := [d1, d2, d3, d4] }
  | _ => none }
def minkowskiBinaryRow : OpenClaim := { program := "ytfgeomlagfomgaagreatdoor", sum := "a005ffd42a168b93e799751ce3029f627d4f43e3c1a5ad6dbf03a8e7a345db53", func := "quadform/quadformlaw14.MinkowskiBinary", spec := "minkowskiBinary", inPlace := ["math/bits.Add64", "math/bits.Sub64"], unfollowed := true, recurses := true, named := ["quadform/minkowski.conditions"], apart := false, laid := [("quadform/minkowski.conditions", laid_quadform_minkowski_conditions)] }
def MinkowskiBinarySaid : Prop := minkowskiBinaryRow.holds Tryz.pinned (OpenSpec.ofChange minkowskiBinarySpec)

/-- ITS FALSE NEIGHBOUR: 'it returns false'. Refute it at one input. -/
def minkowskiBinaryWrong : ChangeSpec := { name := "minkowskiBinary", fn := fun _ => fun
  | [d1, d2, d3, d4] => { results := [.lit (.bool false)], args := [d1, d2, d3, d4] }
  | _ => none }
def MinkowskiBinaryWrongFalsely : Prop := minkowskiBinaryRow.holds Tryz.pinned (OpenSpec.ofChange minkowskiBinaryWrong)

/-- 'quadformlaw14.MinkowskiDiagonal': WHATEVER THE INPUT: true; the input reads as it did. -/
def minkowskiDiagonalSpec : ChangeSpec := { name := "minkowskiDiagonal", fn := fun _ => fun
  | [d] => { results := [.lit (.bool true)], args := [d] }
  | _ => none }
def minkowskiDiagonalRow : OpenClaim := { program := "ytfgeomlagfomgaagreatdoor", sum := "a005ffd42a168b93e799751ce3029f627d4f43e3c1a5ad6dbf03a8e7a345db53", func := "quadform/quadformlaw14.MinkowskiDiagonal", spec := "minkowskiDiagonal", inPlace := ["math/bits.Add64", "math/bits.Sub64"], unfollowed := true, recurses := true, named := ["quadform/minkowski.conditions"], apart := false, laid := [("quadform/minkowski.conditions", laid_quadform_minkowski_conditions)] }
def MinkowskiDiagonalSaid : Prop := minkowskiDiagonalRow.holds Tryz.pinned (OpenSpec.ofChange minkowskiDiagonalSpec)

/-- ITS FALSE NEIGHBOUR: 'it returns false'. Refute it at one input. -/
def minkowskiDiagonalWrong : ChangeSpec := { name := "minkowskiDiagonal", fn := fun _ => fun
  | [d] => { results := [.lit (.bool false)], args := [d] }
  | _ => none }
def MinkowskiDiagonalWrongFalsely : Prop := minkowskiDiagonalRow.holds Tryz.pinned (OpenSpec.ofChange minkowskiDiagonalWrong)

/-- 'quadformlaw14.MinkowskiBases': WHATEVER THE INPUT: true; the input reads as it did. -/
def minkowskiBasesSpec : ChangeSpec := { name := "minkowskiBases", fn := fun _ => fun
  | [d] => { results := [.lit (.bool true)], args := [d] }
  | _ => none }
def minkowskiBasesRow : OpenClaim := { program := "ytfgeomlagfomgaagreatdoor", sum := "a005ffd42a168b93e799751ce3029f627d4f43e3c1a5ad6dbf03a8e7a345db53", func := "quadform/quadformlaw14.MinkowskiBases", spec := "minkowskiBases", inPlace := ["math/bits.Add64", "math/bits.Sub64"], unfollowed := true, recurses := true, named := ["quadform/minkowski.conditions"], apart := false, laid := [("quadform/minkowski.conditions", laid_quadform_minkowski_conditions)] }
def MinkowskiBasesSaid : Prop := minkowskiBasesRow.holds Tryz.pinned (OpenSpec.ofChange minkowskiBasesSpec)

/-- ITS FALSE NEIGHBOUR: 'it returns false'. Refute it at one input. -/
def minkowskiBasesWrong : ChangeSpec := { name := "minkowskiBases", fn := fun _ => fun
  | [d] => { results := [.lit (.bool false)], args := [d] }
  | _ => none }
def MinkowskiBasesWrongFalsely : Prop := minkowskiBasesRow.holds Tryz.pinned (OpenSpec.ofChange minkowskiBasesWrong)

/-- 'quadformlaw14.MinkowskiVerifies': WHATEVER THE INPUT: true; the input reads as it did. -/
def minkowskiVerifiesSpec : ChangeSpec := { name := "minkowskiVerifies", fn := fun _ => fun
  | [d1, d2, d3, d4] => { results := [.lit (.bool true)], args := [d1, d2, d3, d4] }
  | _ => none }
def minkowskiVerifiesRow : OpenClaim := { program := "ytfgeomlagfomgaagreatdoor", sum := "a005ffd42a168b93e799751ce3029f627d4f43e3c1a5ad6dbf03a8e7a345db53", func := "quadform/quadformlaw14.MinkowskiVerifies", spec := "minkowskiVerifies", inPlace := ["math/bits.Add64", "math/bits.Sub64"], unfollowed := true, recurses := true, named := ["quadform/minkowski.conditions"], apart := false, laid := [("quadform/minkowski.conditions", laid_quadform_minkowski_conditions)] }
def MinkowskiVerifiesSaid : Prop := minkowskiVerifiesRow.holds Tryz.pinned (OpenSpec.ofChange minkowskiVerifiesSpec)

/-- ITS FALSE NEIGHBOUR: 'it returns false'. Refute it at one input. -/
def minkowskiVerifiesWrong : ChangeSpec := { name := "minkowskiVerifies", fn := fun _ => fun
  | [d1, d2, d3, d4] => { results := [.lit (.bool false)], args := [d1, d2, d3, d4] }
  | _ => none }
def MinkowskiVerifiesWrongFalsely : Prop := minkowskiVerifiesRow.holds Tryz.pinned (OpenSpec.ofChange minkowskiVerifiesWrong)

/-- 'quadformlaw14.MinkowskiAccepts': WHATEVER THE INPUT: true; the input reads as it did. -/
def minkowskiAcceptsSpec : ChangeSpec := { name := "minkowskiAccepts", fn := fun _ => fun
  | [d] => { results := [.lit (.bool true)], args := [d] }
  | _ => none }
def minkowskiAcceptsRow : OpenClaim := { program := "ytfgeomlagfomgaagreatdoor", sum := "a005ffd42a168b93e799751ce3029f627d4f43e3c1a5ad6dbf03a8e7a345db53", func := "quadform/quadformlaw14.MinkowskiAccepts", spec := "minkowskiAccepts", inPlace := ["math/bits.Add64", "math/bits.Sub64"], unfollowed := true, recurses := true, named := ["quadform/minkowski.conditions"], apart := false, laid := [("quadform/minkowski.conditions", laid_quadform_minkowski_conditions)] }
def MinkowskiAcceptsSaid : Prop := minkowskiAcceptsRow.holds Tryz.pinned (OpenSpec.ofChange minkowskiAcceptsSpec)

/-- ITS FALSE NEIGHBOUR: 'it returns false'. Refute it at one input. -/
def minkowskiAcceptsWrong : ChangeSpec := { name := "minkowskiAccepts", fn := fun _ => fun
  | [d] => { results := [.lit (.bool false)], args := [d] }
  | _ => none }
def MinkowskiAcceptsWrongFalsely : Prop := minkowskiAcceptsRow.holds Tryz.pinned (OpenSpec.ofChange minkowskiAcceptsWrong)

/-- 'quadformlaw14.MinkowskiErrors': WHATEVER THE INPUT: true; the input reads as it did. -/
def minkowskiErrorsSpec : ChangeSpec := { name := "minkowskiErrors", fn := fun _ => fun
  | [d1, d2, d3, d4] => { results := [.lit (.bool true)], args := [d1, d2, d3, d4] }
  | _ => none }
def minkowskiErrorsRow : OpenClaim := { program := "ytfgeomlagfomgaagreatdoor", sum := "a005ffd42a168b93e799751ce3029f627d4f43e3c1a5ad6dbf03a8e7a345db53", func := "quadform/quadformlaw14.MinkowskiErrors", spec := "minkowskiErrors", inPlace := ["math/bits.Add64", "math/bits.Sub64"], unfollowed := true, recurses := true, named := ["quadform/minkowski.conditions"], apart := false, laid := [("quadform/minkowski.conditions", laid_quadform_minkowski_conditions)] }
def MinkowskiErrorsSaid : Prop := minkowskiErrorsRow.holds Tryz.pinned (OpenSpec.ofChange minkowskiErrorsSpec)

/-- ITS FALSE NEIGHBOUR: 'it returns false'. Refute it at one input. -/
def minkowskiErrorsWrong : ChangeSpec := { name := "minkowskiErrors", fn := fun _ => fun
  | [d1, d2, d3, d4] => { results := [.lit (.bool false)], args := [d1, d2, d3, d4] }
  | _ => none }
def MinkowskiErrorsWrongFalsely : Prop := minkowskiErrorsRow.holds Tryz.pinned (OpenSpec.ofChange minkowskiErrorsWrong)

/- THE SECOND FORM. 'bulk': how many values and letters a reading holds, each counted each time it is reached (what is shared counts as often as it is met; a slice's spare places count too). A statement '..UptoSaid' is the law's where the arguments, and the package variables that the reading takes, are together of bulk at most 1048576: NARROWER than '..Said'. Prove '..Said' where nothing that the law and all that it calls make is longer than what came in: it says more and counts as full. Else prove '..UptoSaid'. A law counts once. -/
mutual
def uptoBulk {H : Type} : DataW H → Nat
  | .lit (.string bytes) => bytes.length + 1
  | .lit _ => 1
  | .nil => 1
  | .ptr d => uptoBulk d + 1
  | .slice elems spare => uptoBulkAll elems + uptoBulkAll spare + 1
  | .agg parts => uptoBulkAll parts + 1
  | .iface _ d => uptoBulk d + 1
  | .map entries => uptoBulkEntries entries + 1
  | .held _ => 1
def uptoBulkAll {H : Type} : List (DataW H) → Nat
  | [] => 0
  | d :: r => uptoBulk d + uptoBulkAll r
def uptoBulkEntries {H : Type} : List (Lit × DataW H) → Nat
  | [] => 0
  | x :: r => uptoBulkEntry x + uptoBulkEntries r
def uptoBulkEntry {H : Type} : Lit × DataW H → Nat
  | (.string bytes, d) => bytes.length + uptoBulk d + 1
  | (_, d) => uptoBulk d + 1
 end
def uptoSmall : (H : Type) → List (DataW H) → Bool := fun _ ds => decide (uptoBulkAll ds ≤ 1048576)
def OpenSpec.upto (s : _root_.Go.ChangeSpec) : _root_.Go.OpenSpec := { _root_.Go.OpenSpec.ofChange s with cond := some uptoSmall }

/-- 'quadformlaw14.MinkowskiIsReduced', WHERE WHAT IT READS IS OF BULK AT MOST 1048576: true; the input reads as it did. -/
def minkowskiIsReducedUptoRow : OpenClaim := { program := "ytfgeomlagfomgaagreatdoor", sum := "a005ffd42a168b93e799751ce3029f627d4f43e3c1a5ad6dbf03a8e7a345db53", func := "quadform/quadformlaw14.MinkowskiIsReduced", spec := "minkowskiIsReduced", inPlace := ["math/bits.Add64", "math/bits.Sub64"], unfollowed := true, recurses := true, named := ["quadform/minkowski.conditions"], apart := false, laid := [("quadform/minkowski.conditions", laid_quadform_minkowski_conditions)], narrowed := true }
def MinkowskiIsReducedUptoSaid : Prop := minkowskiIsReducedUptoRow.holds Tryz.pinned (OpenSpec.upto minkowskiIsReducedSpec)

/-- 'quadformlaw14.MinkowskiNear', WHERE WHAT IT READS IS OF BULK AT MOST 1048576: true; the input reads as it did. -/
def minkowskiNearUptoRow : OpenClaim := { program := "ytfgeomlagfomgaagreatdoor", sum := "a005ffd42a168b93e799751ce3029f627d4f43e3c1a5ad6dbf03a8e7a345db53", func := "quadform/quadformlaw14.MinkowskiNear", spec := "minkowskiNear", inPlace := ["math/bits.Add64", "math/bits.Sub64"], unfollowed := true, recurses := true, named := ["quadform/minkowski.conditions"], apart := false, laid := [("quadform/minkowski.conditions", laid_quadform_minkowski_conditions)], narrowed := true }
def MinkowskiNearUptoSaid : Prop := minkowskiNearUptoRow.holds Tryz.pinned (OpenSpec.upto minkowskiNearSpec)

/-- 'quadformlaw14.MinkowskiReduces', WHERE WHAT IT READS IS OF BULK AT MOST 1048576: true; the input reads as it did. -/
def minkowskiReducesUptoRow : OpenClaim := { program := "ytfgeomlagfomgaagreatdoor", sum := "a005ffd42a168b93e799751ce3029f627d4f43e3c1a5ad6dbf03a8e7a345db53", func := "quadform/quadformlaw14.MinkowskiReduces", spec := "minkowskiReduces", inPlace := ["math/bits.Add64", "math/bits.Sub64"], unfollowed := true, recurses := true, named := ["quadform/minkowski.conditions"], apart := false, laid := [("quadform/minkowski.conditions", laid_quadform_minkowski_conditions)], narrowed := true }
def MinkowskiReducesUptoSaid : Prop := minkowskiReducesUptoRow.holds Tryz.pinned (OpenSpec.upto minkowskiReducesSpec)

/-- 'quadformlaw14.MinkowskiProducts', WHERE WHAT IT READS IS OF BULK AT MOST 1048576: true; the input reads as it did. -/
def minkowskiProductsUptoRow : OpenClaim := { program := "ytfgeomlagfomgaagreatdoor", sum := "a005ffd42a168b93e799751ce3029f627d4f43e3c1a5ad6dbf03a8e7a345db53", func := "quadform/quadformlaw14.MinkowskiProducts", spec := "minkowskiProducts", inPlace := ["math/bits.Add64", "math/bits.Sub64"], unfollowed := true, recurses := true, named := ["quadform/minkowski.conditions"], apart := false, laid := [("quadform/minkowski.conditions", laid_quadform_minkowski_conditions)], narrowed := true }
def MinkowskiProductsUptoSaid : Prop := minkowskiProductsUptoRow.holds Tryz.pinned (OpenSpec.upto minkowskiProductsSpec)

/-- 'quadformlaw14.MinkowskiBinary', WHERE WHAT IT READS IS OF BULK AT MOST 1048576: true; the input reads as it did. -/
def minkowskiBinaryUptoRow : OpenClaim := { program := "ytfgeomlagfomgaagreatdoor", sum := "a005ffd42a168b93e799751ce3029f627d4f43e3c1a5ad6dbf03a8e7a345db53", func := "quadform/quadformlaw14.MinkowskiBinary", spec := "minkowskiBinary", inPlace := ["math/bits.Add64", "math/bits.Sub64"], unfollowed := true, recurses := true, named := ["quadform/minkowski.conditions"], apart := false, laid := [("quadform/minkowski.conditions", laid_quadform_minkowski_conditions)], narrowed := true }
def MinkowskiBinaryUptoSaid : Prop := minkowskiBinaryUptoRow.holds Tryz.pinned (OpenSpec.upto minkowskiBinarySpec)

/-- 'quadformlaw14.MinkowskiDiagonal', WHERE WHAT IT READS IS OF BULK AT MOST 1048576: true; the input reads as it did. -/
def minkowskiDiagonalUptoRow : OpenClaim := { program := "ytfgeomlagfomgaagreatdoor", sum := "a005ffd42a168b93e799751ce3029f627d4f43e3c1a5ad6dbf03a8e7a345db53", func := "quadform/quadformlaw14.MinkowskiDiagonal", spec := "minkowskiDiagonal", inPlace := ["math/bits.Add64", "math/bits.Sub64"], unfollowed := true, recurses := true, named := ["quadform/minkowski.conditions"], apart := false, laid := [("quadform/minkowski.conditions", laid_quadform_minkowski_conditions)], narrowed := true }
def MinkowskiDiagonalUptoSaid : Prop := minkowskiDiagonalUptoRow.holds Tryz.pinned (OpenSpec.upto minkowskiDiagonalSpec)

/-- 'quadformlaw14.MinkowskiBases', WHERE WHAT IT READS IS OF BULK AT MOST 1048576: true; the input reads as it did. -/
def minkowskiBasesUptoRow : OpenClaim := { program := "ytfgeomlagfomgaagreatdoor", sum := "a005ffd42a168b93e799751ce3029f627d4f43e3c1a5ad6dbf03a8e7a345db53", func := "quadform/quadformlaw14.MinkowskiBases", spec := "minkowskiBases", inPlace := ["math/bits.Add64", "math/bits.Sub64"], unfollowed := true, recurses := true, named := ["quadform/minkowski.conditions"], apart := false, laid := [("quadform/minkowski.conditions", laid_quadform_minkowski_conditions)], narrowed := true }
def MinkowskiBasesUptoSaid : Prop := minkowskiBasesUptoRow.holds Tryz.pinned (OpenSpec.upto minkowskiBasesSpec)

/-- 'quadformlaw14.MinkowskiVerifies', WHERE WHAT IT READS IS OF BULK AT MOST 1048576: true; the input reads as it did. -/
def minkowskiVerifiesUptoRow : OpenClaim := { program := "ytfgeomlagfomgaagreatdoor", sum := "a005ffd42a168b93e799751ce3029f627d4f43e3c1a5ad6dbf03a8e7a345db53", func := "quadform/quadformlaw14.MinkowskiVerifies", spec := "minkowskiVerifies", inPlace := ["math/bits.Add64", "math/bits.Sub64"], unfollowed := true, recurses := true, named := ["quadform/minkowski.conditions"], apart := false, laid := [("quadform/minkowski.conditions", laid_quadform_minkowski_conditions)], narrowed := true }
def MinkowskiVerifiesUptoSaid : Prop := minkowskiVerifiesUptoRow.holds Tryz.pinned (OpenSpec.upto minkowskiVerifiesSpec)

/-- 'quadformlaw14.MinkowskiAccepts', WHERE WHAT IT READS IS OF BULK AT MOST 1048576: true; the input reads as it did. -/
def minkowskiAcceptsUptoRow : OpenClaim := { program := "ytfgeomlagfomgaagreatdoor", sum := "a005ffd42a168b93e799751ce3029f627d4f43e3c1a5ad6dbf03a8e7a345db53", func := "quadform/quadformlaw14.MinkowskiAccepts", spec := "minkowskiAccepts", inPlace := ["math/bits.Add64", "math/bits.Sub64"], unfollowed := true, recurses := true, named := ["quadform/minkowski.conditions"], apart := false, laid := [("quadform/minkowski.conditions", laid_quadform_minkowski_conditions)], narrowed := true }
def MinkowskiAcceptsUptoSaid : Prop := minkowskiAcceptsUptoRow.holds Tryz.pinned (OpenSpec.upto minkowskiAcceptsSpec)

/-- 'quadformlaw14.MinkowskiErrors', WHERE WHAT IT READS IS OF BULK AT MOST 1048576: true; the input reads as it did. -/
def minkowskiErrorsUptoRow : OpenClaim := { program := "ytfgeomlagfomgaagreatdoor", sum := "a005ffd42a168b93e799751ce3029f627d4f43e3c1a5ad6dbf03a8e7a345db53", func := "quadform/quadformlaw14.MinkowskiErrors", spec := "minkowskiErrors", inPlace := ["math/bits.Add64", "math/bits.Sub64"], unfollowed := true, recurses := true, named := ["quadform/minkowski.conditions"], apart := false, laid := [("quadform/minkowski.conditions", laid_quadform_minkowski_conditions)], narrowed := true }
def MinkowskiErrorsUptoSaid : Prop := minkowskiErrorsUptoRow.holds Tryz.pinned (OpenSpec.upto minkowskiErrorsSpec)

end Rows
end Go.Proofs.YtfgeomlagfomgaaGreatDoor
