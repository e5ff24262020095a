/-
  DERIVED. GIVEN WITH THE SEED: THE CARDS: each row of YtfgeomlagfomgaaDoorRows.lean that lists a variable, with what it lists TIED to the program's text (the seventh form; the later family's looks); each row that meets fmt, with fmt's text TOLD by the authors' own Lean function (tested against real Go, not proved from fmt's source: count such statements apart). THE CARD IS WHAT COUNTS. Prove the row's statement (the work); the ties are given (YtfgeomlagfomgaaDoorTie.lean); close each card by the builder's one call (the guide's Derived/Test/ToyasCard.lean, 'card_holds'). Laid BY PROGRAM, IN A SANDBOX (cutbox-door.mjs). By AI agents, Wed Nov 11 2026. No macro, syntax, notation, axiom, sorry.
-/
import Derived.Test.YtfgeomlagfomgaaDoorRows
import GoSem.ClaimSeven
namespace Go.Proofs.YtfgeomlagfomgaaDoor
namespace Rows

/-- THE TIED CARD OF 'quadformlaw14.MinkowskiEdges'. -/
def minkowskiEdgesCard : Claim7 := { stood := { row := minkowskiEdgesRow, standIns := [], harness := (true, "866a3ec57facf9c2e7ee1f5fd41f35d11d774f08898dbda7a0afd8fa7ff401a9"), looks := false }, kinds := [], alts := [], laidByText := true, laidKinds := [.data], laidTests := true, laidLooks := .later }
def MinkowskiEdgesCardSaid : Prop := Claim7.holds Tryd.pinned (.plain (OpenSpec.ofChange minkowskiEdgesSpec)) minkowskiEdgesCard

/-- THE SECOND FORM's CARD OF 'quadformlaw14.MinkowskiEdges'. -/
def minkowskiEdgesUptoCard : Claim7 := { stood := { row := minkowskiEdgesUptoRow, standIns := [], harness := (true, "866a3ec57facf9c2e7ee1f5fd41f35d11d774f08898dbda7a0afd8fa7ff401a9"), looks := false }, kinds := [], alts := [], laidByText := true, laidKinds := [.data], laidTests := true, laidLooks := .later }
def MinkowskiEdgesUptoCardSaid : Prop := Claim7.holds Tryd.pinned (.plain (OpenSpec.upto minkowskiEdgesSpec)) minkowskiEdgesUptoCard
end Rows
end Go.Proofs.YtfgeomlagfomgaaDoor
