/-
  NARROWER THAN 'FOR EVERY INPUT', by the rows' own cells (each row's printed sentence says how): MinkowskiProducts: laid · MinkowskiMinima: laid.
  DERIVED. THE GIVEN ROWS OF THIS SEAT. 2 by the template 'for every input the law returns true; each argument reads behind the call as it read before'; 0 by the template 'total and deterministic' (their statements: YtiollbhgpiiodaaGreatDoorTotals.lean).
  GIVEN WITH THE SEED: the statements are not yours to turn. If you find one false, say at which input.
  Laid BY PROGRAM, IN A SANDBOX (cutbox-rows.mjs): the forced cells as the released guide's own fill.sh prints them over the translation 74edbf3fce638f0d… (all of the seat's roots in one cut). By AI agents, Wed Nov 11 2026. No macro, syntax, notation, axiom, sorry.
-/
import Derived.Test.YtiollbhgpiiodaaGreatDoorChecked
import GoSem.Claim
import GoSem.ClaimJoined
import GoSem.ClaimMapViews
import Derived.JoinedTies
import Derived.KernelRfl
namespace Go.Proofs.YtiollbhgpiiodaaGreatDoor
/- THE CELL 'sum', in the pinned program and in every row, IS THE sha256 OF THE DUMP (.gsa) THAT YtiollbhgpiiodaaGreatDoorProg.lean LOADS. Nothing in Lean hashes anything: it is a label: what it is worth is what the hold of that sum in a sandbox is worth. -/
noncomputable def Tryz.pinned : Pinned := { name := "ytiollbhgpiiodaagreatdoor", sum := "74edbf3fce638f0de7ae4f7dcc8d600faea96e85750d443c177a1b363b7201ce", checked := Tryz.checked }
namespace Rows
def none {H : Type} : Left H := { results := [], args := [] }

/- WHAT THE LISTED PACKAGE-LEVEL VARIABLES READ AS WHEN THE CALL BEGINS. Each datum BY PROGRAM (the guide's laid-datum.mjs) off the statement by which the dump's own 'gosem.cut.vars' lays the variable. In a bare row this is a premise. The card (YtiollbhgpiiodaaGreatDoorCards.lean) ties it to the program's text. -/
def laid_quadform_minkowski_conditions {H : Type} : DataW H := .agg [.lit (.int .i64 1), .lit (.int .i64 3), .lit (.int .i64 9), .lit (.int .i64 27)]

/-- 'quadformlaw14.MinkowskiProducts': WHATEVER THE INPUT: true; the input reads as it did. -/
def minkowskiProductsSpec : ChangeSpec := { name := "minkowskiProducts", fn := fun _ => fun
  | [d] => { results := [.lit (.bool true)], args := [d] }
  | _ => none }
def minkowskiProductsRow : OpenClaim := { program := "ytiollbhgpiiodaagreatdoor", sum := "74edbf3fce638f0de7ae4f7dcc8d600faea96e85750d443c177a1b363b7201ce", func := "quadform/quadformlaw14.MinkowskiProducts", spec := "minkowskiProducts", inPlace := ["math/bits.Add64", "math/bits.Sub64"], unfollowed := true, recurses := true, named := ["quadform/minkowski.conditions"], apart := false, laid := [("quadform/minkowski.conditions", laid_quadform_minkowski_conditions)] }
def MinkowskiProductsSaid : Prop := minkowskiProductsRow.holds Tryz.pinned (OpenSpec.ofChange minkowskiProductsSpec)

/-- ITS FALSE NEIGHBOUR: 'it returns false'. Refute it at one input. -/
def minkowskiProductsWrong : ChangeSpec := { name := "minkowskiProducts", fn := fun _ => fun
  | [d] => { results := [.lit (.bool false)], args := [d] }
  | _ => none }
def MinkowskiProductsWrongFalsely : Prop := minkowskiProductsRow.holds Tryz.pinned (OpenSpec.ofChange minkowskiProductsWrong)

/-- 'quadformlaw14.MinkowskiMinima': WHATEVER THE INPUT: true; the input reads as it did. -/
def minkowskiMinimaSpec : ChangeSpec := { name := "minkowskiMinima", fn := fun _ => fun
  | [d] => { results := [.lit (.bool true)], args := [d] }
  | _ => none }
def minkowskiMinimaRow : OpenClaim := { program := "ytiollbhgpiiodaagreatdoor", sum := "74edbf3fce638f0de7ae4f7dcc8d600faea96e85750d443c177a1b363b7201ce", func := "quadform/quadformlaw14.MinkowskiMinima", spec := "minkowskiMinima", inPlace := ["math/bits.Add64", "math/bits.Sub64"], unfollowed := true, recurses := true, named := ["quadform/minkowski.conditions"], apart := false, laid := [("quadform/minkowski.conditions", laid_quadform_minkowski_conditions)] }
def MinkowskiMinimaSaid : Prop := minkowskiMinimaRow.holds Tryz.pinned (OpenSpec.ofChange minkowskiMinimaSpec)

/-- ITS FALSE NEIGHBOUR: 'it returns false'. Refute it at one input. -/
def minkowskiMinimaWrong : ChangeSpec := { name := "minkowskiMinima", fn := fun _ => fun
  | [d] => { results := [.lit (.bool false)], args := [d] }
  | _ => none }
def MinkowskiMinimaWrongFalsely : Prop := minkowskiMinimaRow.holds Tryz.pinned (OpenSpec.ofChange minkowskiMinimaWrong)

/- THE SECOND FORM. 'bulk': how many values and letters a reading holds, each counted each time it is reached (what is shared counts as often as it is met; a slice's spare places count too). A statement '..UptoSaid' is the law's where the arguments, and the package variables that the reading takes, are together of bulk at most 1048576: NARROWER than '..Said'. Prove '..Said' where nothing that the law and all that it calls make is longer than what came in: it says more and counts as full. Else prove '..UptoSaid'. A law counts once. -/
mutual
def uptoBulk {H : Type} : DataW H → Nat
  | .lit (.string bytes) => bytes.length + 1
  | .lit _ => 1
  | .nil => 1
  | .ptr d => uptoBulk d + 1
  | .slice elems spare => uptoBulkAll elems + uptoBulkAll spare + 1
  | .agg parts => uptoBulkAll parts + 1
  | .iface _ d => uptoBulk d + 1
  | .map entries => uptoBulkEntries entries + 1
  | .held _ => 1
def uptoBulkAll {H : Type} : List (DataW H) → Nat
  | [] => 0
  | d :: r => uptoBulk d + uptoBulkAll r
def uptoBulkEntries {H : Type} : List (Lit × DataW H) → Nat
  | [] => 0
  | x :: r => uptoBulkEntry x + uptoBulkEntries r
def uptoBulkEntry {H : Type} : Lit × DataW H → Nat
  | (.string bytes, d) => bytes.length + uptoBulk d + 1
  | (_, d) => uptoBulk d + 1
 end
def uptoSmall : (H : Type) → List (DataW H) → Bool := fun _ ds => decide (uptoBulkAll ds ≤ 1048576)
def OpenSpec.upto (s : _root_.Go.ChangeSpec) : _root_.Go.OpenSpec := { _root_.Go.OpenSpec.ofChange s with cond := some uptoSmall }

/-- 'quadformlaw14.MinkowskiProducts', WHERE WHAT IT READS IS OF BULK AT MOST 1048576: true; the input reads as it did. -/
def minkowskiProductsUptoRow : OpenClaim := { program := "ytiollbhgpiiodaagreatdoor", sum := "74edbf3fce638f0de7ae4f7dcc8d600faea96e85750d443c177a1b363b7201ce", func := "quadform/quadformlaw14.MinkowskiProducts", spec := "minkowskiProducts", inPlace := ["math/bits.Add64", "math/bits.Sub64"], unfollowed := true, recurses := true, named := ["quadform/minkowski.conditions"], apart := false, laid := [("quadform/minkowski.conditions", laid_quadform_minkowski_conditions)], narrowed := true }
def MinkowskiProductsUptoSaid : Prop := minkowskiProductsUptoRow.holds Tryz.pinned (OpenSpec.upto minkowskiProductsSpec)

/-- 'quadformlaw14.MinkowskiMinima', WHERE WHAT IT READS IS OF BULK AT MOST 1048576: true; the input reads as it did. -/
def minkowskiMinimaUptoRow : OpenClaim := { program := "ytiollbhgpiiodaagreatdoor", sum := "74edbf3fce638f0de7ae4f7dcc8d600faea96e85750d443c177a1b363b7201ce", func := "quadform/quadformlaw14.MinkowskiMinima", spec := "minkowskiMinima", inPlace := ["math/bits.Add64", "math/bits.Sub64"], unfollowed := true, recurses := true, named := ["quadform/minkowski.conditions"], apart := false, laid := [("quadform/minkowski.conditions", laid_quadform_minkowski_conditions)], narrowed := true }
def MinkowskiMinimaUptoSaid : Prop := minkowskiMinimaUptoRow.holds Tryz.pinned (OpenSpec.upto minkowskiMinimaSpec)

end Rows
end Go.Proofs.YtiollbhgpiiodaaGreatDoor
