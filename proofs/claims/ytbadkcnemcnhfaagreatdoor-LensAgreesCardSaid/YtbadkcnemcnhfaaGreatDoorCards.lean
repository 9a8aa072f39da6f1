/-
  DERIVED. GIVEN WITH THE SEED: THE CARDS: each row of YtbadkcnemcnhfaaGreatDoorRows.lean that lists a variable, with what it lists TIED to the program's text (the seventh form; the later family's looks); each row that meets fmt, with fmt's text TOLD by the authors' own Lean function (tested against real Go, not proved from fmt's source: count such statements apart). THE CARD IS WHAT COUNTS. Prove the row's statement (the work); the ties are given (YtbadkcnemcnhfaaGreatDoorTie.lean); close each card by the builder's one call (the guide's Derived/Test/ToyasCard.lean, 'card_holds'). Laid BY PROGRAM, IN A SANDBOX (cutbox-door.mjs). By AI agents, Wed Nov 11 2026. No macro, syntax, notation, axiom, sorry.
-/
import Derived.Test.YtbadkcnemcnhfaaGreatDoorRows
import GoSem.ClaimSeven
namespace Go.Proofs.YtbadkcnemcnhfaaGreatDoor
namespace Rows

/-- THE TIED CARD OF 'coadjutorlaw39.LensAgrees'. -/
def lensAgreesCard : Claim7 := { stood := { row := lensAgreesRow, standIns := [], harness := (true, "2f28e4f3f50b6e0a9eeb2879545533e6792d10ad45c3f9574625ed7f50dfb080"), looks := false }, kinds := [], alts := [], laidByText := true, laidKinds := [.data, .data, .data], laidTests := true, laidLooks := .later }
def LensAgreesCardSaid : Prop := Claim7.holds Tryz.pinned (.plain (OpenSpec.ofChange lensAgreesSpec)) lensAgreesCard

/-- THE TIED CARD OF 'coadjutorlaw39.LensBetween'. -/
def lensBetweenCard : Claim7 := { stood := { row := lensBetweenRow, standIns := [], harness := (true, "2f28e4f3f50b6e0a9eeb2879545533e6792d10ad45c3f9574625ed7f50dfb080"), looks := false }, kinds := [], alts := [], laidByText := true, laidKinds := [.data, .data, .data], laidTests := true, laidLooks := .later }
def LensBetweenCardSaid : Prop := Claim7.holds Tryz.pinned (.plain (OpenSpec.ofChange lensBetweenSpec)) lensBetweenCard

/-- THE SECOND FORM's CARD OF 'coadjutorlaw39.LensAgrees'. -/
def lensAgreesUptoCard : Claim7 := { stood := { row := lensAgreesUptoRow, standIns := [], harness := (true, "2f28e4f3f50b6e0a9eeb2879545533e6792d10ad45c3f9574625ed7f50dfb080"), looks := false }, kinds := [], alts := [], laidByText := true, laidKinds := [.data, .data, .data], laidTests := true, laidLooks := .later }
def LensAgreesUptoCardSaid : Prop := Claim7.holds Tryz.pinned (.plain (OpenSpec.upto lensAgreesSpec)) lensAgreesUptoCard

/-- THE SECOND FORM's CARD OF 'coadjutorlaw39.LensBetween'. -/
def lensBetweenUptoCard : Claim7 := { stood := { row := lensBetweenUptoRow, standIns := [], harness := (true, "2f28e4f3f50b6e0a9eeb2879545533e6792d10ad45c3f9574625ed7f50dfb080"), looks := false }, kinds := [], alts := [], laidByText := true, laidKinds := [.data, .data, .data], laidTests := true, laidLooks := .later }
def LensBetweenUptoCardSaid : Prop := Claim7.holds Tryz.pinned (.plain (OpenSpec.upto lensBetweenSpec)) lensBetweenUptoCard
end Rows
end Go.Proofs.YtbadkcnemcnhfaaGreatDoor
