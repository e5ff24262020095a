/-
  DERIVED. GIVEN WITH THE SEED: THE CARDS: each row of YtfgeomlagfomgaaGreatDoorRows.lean that lists a variable, with what it lists TIED to the program's text (the seventh form; the later family's looks); each row that meets fmt, with fmt's text TOLD by the authors' own Lean function (tested against real Go, not proved from fmt's source: count such statements apart). THE CARD IS WHAT COUNTS. Prove the row's statement (the work); the ties are given (YtfgeomlagfomgaaGreatDoorTie.lean); close each card by the builder's one call (the guide's Derived/Test/ToyasCard.lean, 'card_holds'). Laid BY PROGRAM, IN A SANDBOX (cutbox-door.mjs). By AI agents, Wed Nov 11 2026. No macro, syntax, notation, axiom, sorry.
-/
import Derived.Test.YtfgeomlagfomgaaGreatDoorRows
import GoSem.ClaimSeven
namespace Go.Proofs.YtfgeomlagfomgaaGreatDoor
namespace Rows

/-- THE TIED CARD OF 'quadformlaw14.MinkowskiIsReduced'. -/
def minkowskiIsReducedCard : Claim7 := { stood := { row := minkowskiIsReducedRow, standIns := [], harness := (true, "b370a838ee78542826e78cbca499d325b4268683991bfe0a4729bbd0218e4133"), looks := false }, kinds := [], alts := [], laidByText := true, laidKinds := [.data], laidTests := true, laidLooks := .later }
def MinkowskiIsReducedCardSaid : Prop := Claim7.holds Tryz.pinned (.plain (OpenSpec.ofChange minkowskiIsReducedSpec)) minkowskiIsReducedCard

/-- THE TIED CARD OF 'quadformlaw14.MinkowskiNear'. -/
def minkowskiNearCard : Claim7 := { stood := { row := minkowskiNearRow, standIns := [], harness := (true, "b370a838ee78542826e78cbca499d325b4268683991bfe0a4729bbd0218e4133"), looks := false }, kinds := [], alts := [], laidByText := true, laidKinds := [.data], laidTests := true, laidLooks := .later }
def MinkowskiNearCardSaid : Prop := Claim7.holds Tryz.pinned (.plain (OpenSpec.ofChange minkowskiNearSpec)) minkowskiNearCard

/-- THE TIED CARD OF 'quadformlaw14.MinkowskiReduces'. -/
def minkowskiReducesCard : Claim7 := { stood := { row := minkowskiReducesRow, standIns := [], harness := (true, "b370a838ee78542826e78cbca499d325b4268683991bfe0a4729bbd0218e4133"), looks := false }, kinds := [], alts := [], laidByText := true, laidKinds := [.data], laidTests := true, laidLooks := .later }
def MinkowskiReducesCardSaid : Prop := Claim7.holds Tryz.pinned (.plain (OpenSpec.ofChange minkowskiReducesSpec)) minkowskiReducesCard

/-- THE TIED CARD OF 'quadformlaw14.MinkowskiProducts'. -/
def minkowskiProductsCard : Claim7 := { stood := { row := minkowskiProductsRow, standIns := [], harness := (true, "b370a838ee78542826e78cbca499d325b4268683991bfe0a4729bbd0218e4133"), looks := false }, kinds := [], alts := [], laidByText := true, laidKinds := [.data], laidTests := true, laidLooks := .later }
def MinkowskiProductsCardSaid : Prop := Claim7.holds Tryz.pinned (.plain (OpenSpec.ofChange minkowskiProductsSpec)) minkowskiProductsCard

/-- THE TIED CARD OF 'quadformlaw14.MinkowskiBinary'. -/
def minkowskiBinaryCard : Claim7 := { stood := { row := minkowskiBinaryRow, standIns := [], harness := (true, "b370a838ee78542826e78cbca499d325b4268683991bfe0a4729bbd0218e4133"), looks := false }, kinds := [], alts := [], laidByText := true, laidKinds := [.data], laidTests := true, laidLooks := .later }
def MinkowskiBinaryCardSaid : Prop := Claim7.holds Tryz.pinned (.plain (OpenSpec.ofChange minkowskiBinarySpec)) minkowskiBinaryCard

/-- THE TIED CARD OF 'quadformlaw14.MinkowskiDiagonal'. -/
def minkowskiDiagonalCard : Claim7 := { stood := { row := minkowskiDiagonalRow, standIns := [], harness := (true, "b370a838ee78542826e78cbca499d325b4268683991bfe0a4729bbd0218e4133"), looks := false }, kinds := [], alts := [], laidByText := true, laidKinds := [.data], laidTests := true, laidLooks := .later }
def MinkowskiDiagonalCardSaid : Prop := Claim7.holds Tryz.pinned (.plain (OpenSpec.ofChange minkowskiDiagonalSpec)) minkowskiDiagonalCard

/-- THE TIED CARD OF 'quadformlaw14.MinkowskiBases'. -/
def minkowskiBasesCard : Claim7 := { stood := { row := minkowskiBasesRow, standIns := [], harness := (true, "b370a838ee78542826e78cbca499d325b4268683991bfe0a4729bbd0218e4133"), looks := false }, kinds := [], alts := [], laidByText := true, laidKinds := [.data], laidTests := true, laidLooks := .later }
def MinkowskiBasesCardSaid : Prop := Claim7.holds Tryz.pinned (.plain (OpenSpec.ofChange minkowskiBasesSpec)) minkowskiBasesCard

/-- THE TIED CARD OF 'quadformlaw14.MinkowskiVerifies'. -/
def minkowskiVerifiesCard : Claim7 := { stood := { row := minkowskiVerifiesRow, standIns := [], harness := (true, "b370a838ee78542826e78cbca499d325b4268683991bfe0a4729bbd0218e4133"), looks := false }, kinds := [], alts := [], laidByText := true, laidKinds := [.data], laidTests := true, laidLooks := .later }
def MinkowskiVerifiesCardSaid : Prop := Claim7.holds Tryz.pinned (.plain (OpenSpec.ofChange minkowskiVerifiesSpec)) minkowskiVerifiesCard

/-- THE TIED CARD OF 'quadformlaw14.MinkowskiAccepts'. -/
def minkowskiAcceptsCard : Claim7 := { stood := { row := minkowskiAcceptsRow, standIns := [], harness := (true, "b370a838ee78542826e78cbca499d325b4268683991bfe0a4729bbd0218e4133"), looks := false }, kinds := [], alts := [], laidByText := true, laidKinds := [.data], laidTests := true, laidLooks := .later }
def MinkowskiAcceptsCardSaid : Prop := Claim7.holds Tryz.pinned (.plain (OpenSpec.ofChange minkowskiAcceptsSpec)) minkowskiAcceptsCard

/-- THE TIED CARD OF 'quadformlaw14.MinkowskiErrors'. -/
def minkowskiErrorsCard : Claim7 := { stood := { row := minkowskiErrorsRow, standIns := [], harness := (true, "b370a838ee78542826e78cbca499d325b4268683991bfe0a4729bbd0218e4133"), looks := false }, kinds := [], alts := [], laidByText := true, laidKinds := [.data], laidTests := true, laidLooks := .later }
def MinkowskiErrorsCardSaid : Prop := Claim7.holds Tryz.pinned (.plain (OpenSpec.ofChange minkowskiErrorsSpec)) minkowskiErrorsCard

/-- THE SECOND FORM's CARD OF 'quadformlaw14.MinkowskiIsReduced'. -/
def minkowskiIsReducedUptoCard : Claim7 := { stood := { row := minkowskiIsReducedUptoRow, standIns := [], harness := (true, "b370a838ee78542826e78cbca499d325b4268683991bfe0a4729bbd0218e4133"), looks := false }, kinds := [], alts := [], laidByText := true, laidKinds := [.data], laidTests := true, laidLooks := .later }
def MinkowskiIsReducedUptoCardSaid : Prop := Claim7.holds Tryz.pinned (.plain (OpenSpec.upto minkowskiIsReducedSpec)) minkowskiIsReducedUptoCard

/-- THE SECOND FORM's CARD OF 'quadformlaw14.MinkowskiNear'. -/
def minkowskiNearUptoCard : Claim7 := { stood := { row := minkowskiNearUptoRow, standIns := [], harness := (true, "b370a838ee78542826e78cbca499d325b4268683991bfe0a4729bbd0218e4133"), looks := false }, kinds := [], alts := [], laidByText := true, laidKinds := [.data], laidTests := true, laidLooks := .later }
def MinkowskiNearUptoCardSaid : Prop := Claim7.holds Tryz.pinned (.plain (OpenSpec.upto minkowskiNearSpec)) minkowskiNearUptoCard

/-- THE SECOND FORM's CARD OF 'quadformlaw14.MinkowskiReduces'. -/
def minkowskiReducesUptoCard : Claim7 := { stood := { row := minkowskiReducesUptoRow, standIns := [], harness := (true, "b370a838ee78542826e78cbca499d325b4268683991bfe0a4729bbd0218e4133"), looks := false }, kinds := [], alts := [], laidByText := true, laidKinds := [.data], laidTests := true, laidLooks := .later }
def MinkowskiReducesUptoCardSaid : Prop := Claim7.holds Tryz.pinned (.plain (OpenSpec.upto minkowskiReducesSpec)) minkowskiReducesUptoCard

/-- THE SECOND FORM's CARD OF 'quadformlaw14.MinkowskiProducts'. -/
def minkowskiProductsUptoCard : Claim7 := { stood := { row := minkowskiProductsUptoRow, standIns := [], harness := (true, "b370a838ee78542826e78cbca499d325b4268683991bfe0a4729bbd0218e4133"), looks := false }, kinds := [], alts := [], laidByText := true, laidKinds := [.data], laidTests := true, laidLooks := .later }
def MinkowskiProductsUptoCardSaid : Prop := Claim7.holds Tryz.pinned (.plain (OpenSpec.upto minkowskiProductsSpec)) minkowskiProductsUptoCard

/-- THE SECOND FORM's CARD OF 'quadformlaw14.MinkowskiBinary'. -/
def minkowskiBinaryUptoCard : Claim7 := { stood := { row := minkowskiBinaryUptoRow, standIns := [], harness := (true, "b370a838ee78542826e78cbca499d325b4268683991bfe0a4729bbd0218e4133"), looks := false }, kinds := [], alts := [], laidByText := true, laidKinds := [.data], laidTests := true, laidLooks := .later }
def MinkowskiBinaryUptoCardSaid : Prop := Claim7.holds Tryz.pinned (.plain (OpenSpec.upto minkowskiBinarySpec)) minkowskiBinaryUptoCard

/-- THE SECOND FORM's CARD OF 'quadformlaw14.MinkowskiDiagonal'. -/
def minkowskiDiagonalUptoCard : Claim7 := { stood := { row := minkowskiDiagonalUptoRow, standIns := [], harness := (true, "b370a838ee78542826e78cbca499d325b4268683991bfe0a4729bbd0218e4133"), looks := false }, kinds := [], alts := [], laidByText := true, laidKinds := [.data], laidTests := true, laidLooks := .later }
def MinkowskiDiagonalUptoCardSaid : Prop := Claim7.holds Tryz.pinned (.plain (OpenSpec.upto minkowskiDiagonalSpec)) minkowskiDiagonalUptoCard

/-- THE SECOND FORM's CARD OF 'quadformlaw14.MinkowskiBases'. -/
def minkowskiBasesUptoCard : Claim7 := { stood := { row := minkowskiBasesUptoRow, standIns := [], harness := (true, "b370a838ee78542826e78cbca499d325b4268683991bfe0a4729bbd0218e4133"), looks := false }, kinds := [], alts := [], laidByText := true, laidKinds := [.data], laidTests := true, laidLooks := .later }
def MinkowskiBasesUptoCardSaid : Prop := Claim7.holds Tryz.pinned (.plain (OpenSpec.upto minkowskiBasesSpec)) minkowskiBasesUptoCard

/-- THE SECOND FORM's CARD OF 'quadformlaw14.MinkowskiVerifies'. -/
def minkowskiVerifiesUptoCard : Claim7 := { stood := { row := minkowskiVerifiesUptoRow, standIns := [], harness := (true, "b370a838ee78542826e78cbca499d325b4268683991bfe0a4729bbd0218e4133"), looks := false }, kinds := [], alts := [], laidByText := true, laidKinds := [.data], laidTests := true, laidLooks := .later }
def MinkowskiVerifiesUptoCardSaid : Prop := Claim7.holds Tryz.pinned (.plain (OpenSpec.upto minkowskiVerifiesSpec)) minkowskiVerifiesUptoCard

/-- THE SECOND FORM's CARD OF 'quadformlaw14.MinkowskiAccepts'. -/
def minkowskiAcceptsUptoCard : Claim7 := { stood := { row := minkowskiAcceptsUptoRow, standIns := [], harness := (true, "b370a838ee78542826e78cbca499d325b4268683991bfe0a4729bbd0218e4133"), looks := false }, kinds := [], alts := [], laidByText := true, laidKinds := [.data], laidTests := true, laidLooks := .later }
def MinkowskiAcceptsUptoCardSaid : Prop := Claim7.holds Tryz.pinned (.plain (OpenSpec.upto minkowskiAcceptsSpec)) minkowskiAcceptsUptoCard

/-- THE SECOND FORM's CARD OF 'quadformlaw14.MinkowskiErrors'. -/
def minkowskiErrorsUptoCard : Claim7 := { stood := { row := minkowskiErrorsUptoRow, standIns := [], harness := (true, "b370a838ee78542826e78cbca499d325b4268683991bfe0a4729bbd0218e4133"), looks := false }, kinds := [], alts := [], laidByText := true, laidKinds := [.data], laidTests := true, laidLooks := .later }
def MinkowskiErrorsUptoCardSaid : Prop := Claim7.holds Tryz.pinned (.plain (OpenSpec.upto minkowskiErrorsSpec)) minkowskiErrorsUptoCard
end Rows
end Go.Proofs.YtfgeomlagfomgaaGreatDoor
