/-
  DERIVED. GIVEN WITH THE SEED: THE CARDS: each row of YtiollbhgpiiodaaGreatDoorRows.lean that lists a variable, with what it lists TIED to the program's text (the seventh form; the later family's looks); each row that meets fmt, with fmt's text TOLD by the authors' own Lean function (tested against real Go, not proved from fmt's source: count such statements apart). THE CARD IS WHAT COUNTS. Prove the row's statement (the work); the ties are given (YtiollbhgpiiodaaGreatDoorTie.lean); close each card by the builder's one call (the guide's Derived/Test/ToyasCard.lean, 'card_holds'). Laid BY PROGRAM, IN A SANDBOX (cutbox-door.mjs). By AI agents, Wed Nov 11 2026. No macro, syntax, notation, axiom, sorry.
-/
import Derived.Test.YtiollbhgpiiodaaGreatDoorRows
import GoSem.ClaimSeven
namespace Go.Proofs.YtiollbhgpiiodaaGreatDoor
namespace Rows

/-- THE TIED CARD OF 'quadformlaw14.MinkowskiProducts'. -/
def minkowskiProductsCard : Claim7 := { stood := { row := minkowskiProductsRow, standIns := [], harness := (true, "dfc621e6aa9b384ae6cbcba3a697ba1609c09c48235671ff8a64aeab46470d91"), looks := false }, kinds := [], alts := [], laidByText := true, laidKinds := [.data], laidTests := true, laidLooks := .later }
def MinkowskiProductsCardSaid : Prop := Claim7.holds Tryz.pinned (.plain (OpenSpec.ofChange minkowskiProductsSpec)) minkowskiProductsCard

/-- THE TIED CARD OF 'quadformlaw14.MinkowskiMinima'. -/
def minkowskiMinimaCard : Claim7 := { stood := { row := minkowskiMinimaRow, standIns := [], harness := (true, "dfc621e6aa9b384ae6cbcba3a697ba1609c09c48235671ff8a64aeab46470d91"), looks := false }, kinds := [], alts := [], laidByText := true, laidKinds := [.data], laidTests := true, laidLooks := .later }
def MinkowskiMinimaCardSaid : Prop := Claim7.holds Tryz.pinned (.plain (OpenSpec.ofChange minkowskiMinimaSpec)) minkowskiMinimaCard

/-- THE SECOND FORM's CARD OF 'quadformlaw14.MinkowskiProducts'. -/
def minkowskiProductsUptoCard : Claim7 := { stood := { row := minkowskiProductsUptoRow, standIns := [], harness := (true, "dfc621e6aa9b384ae6cbcba3a697ba1609c09c48235671ff8a64aeab46470d91"), looks := false }, kinds := [], alts := [], laidByText := true, laidKinds := [.data], laidTests := true, laidLooks := .later }
def MinkowskiProductsUptoCardSaid : Prop := Claim7.holds Tryz.pinned (.plain (OpenSpec.upto minkowskiProductsSpec)) minkowskiProductsUptoCard

/-- THE SECOND FORM's CARD OF 'quadformlaw14.MinkowskiMinima'. -/
def minkowskiMinimaUptoCard : Claim7 := { stood := { row := minkowskiMinimaUptoRow, standIns := [], harness := (true, "dfc621e6aa9b384ae6cbcba3a697ba1609c09c48235671ff8a64aeab46470d91"), looks := false }, kinds := [], alts := [], laidByText := true, laidKinds := [.data], laidTests := true, laidLooks := .later }
def MinkowskiMinimaUptoCardSaid : Prop := Claim7.holds Tryz.pinned (.plain (OpenSpec.upto minkowskiMinimaSpec)) minkowskiMinimaUptoCard
end Rows
end Go.Proofs.YtiollbhgpiiodaaGreatDoor
