/-
  DERIVED. GIVEN WITH THE SEED: THE CARDS: each row of YtbadkcnemcnhfaaDoorRows.lean that lists a variable, with what it lists TIED to the program's text (the seventh form; the later family's looks); each row that meets fmt, with fmt's text TOLD by the authors' own Lean function (tested against real Go, not proved from fmt's source: count such statements apart). THE CARD IS WHAT COUNTS. Prove the row's statement (the work); the ties are given (YtbadkcnemcnhfaaDoorTie.lean); close each card by the builder's one call (the guide's Derived/Test/ToyasCard.lean, 'card_holds'). Laid BY PROGRAM, IN A SANDBOX (cutbox-door.mjs). By AI agents, Wed Nov 11 2026. No macro, syntax, notation, axiom, sorry.
-/
import Derived.Test.YtbadkcnemcnhfaaDoorRows
import GoSem.ClaimSeven
namespace Go.Proofs.YtbadkcnemcnhfaaDoor
namespace Rows

/-- THE TIED CARD OF 'coadjutorlaw39.LensExact'. -/
def lensExactCard : Claim7 := { stood := { row := lensExactRow, standIns := [], harness := (true, "3a911c2fe70a535bc71545d59ec7bec3b8c1f6657476c6e55eaad60125545059"), looks := false }, kinds := [], alts := [], laidByText := true, laidKinds := [.data, .data, .data], laidTests := true, laidLooks := .later }
def LensExactCardSaid : Prop := Claim7.holds Tryd.pinned (.plain (OpenSpec.ofChange lensExactSpec)) lensExactCard

/-- THE TIED CARD OF 'coadjutorlaw39.LensCounts'. -/
def lensCountsCard : Claim7 := { stood := { row := lensCountsRow, standIns := [], harness := (true, "3a911c2fe70a535bc71545d59ec7bec3b8c1f6657476c6e55eaad60125545059"), looks := false }, kinds := [], alts := [], laidByText := true, laidKinds := [.data, .data, .data], laidTests := true, laidLooks := .later }
def LensCountsCardSaid : Prop := Claim7.holds Tryd.pinned (.plain (OpenSpec.ofChange lensCountsSpec)) lensCountsCard

/-- THE SECOND FORM's CARD OF 'coadjutorlaw39.LensExact'. -/
def lensExactUptoCard : Claim7 := { stood := { row := lensExactUptoRow, standIns := [], harness := (true, "3a911c2fe70a535bc71545d59ec7bec3b8c1f6657476c6e55eaad60125545059"), looks := false }, kinds := [], alts := [], laidByText := true, laidKinds := [.data, .data, .data], laidTests := true, laidLooks := .later }
def LensExactUptoCardSaid : Prop := Claim7.holds Tryd.pinned (.plain (OpenSpec.upto lensExactSpec)) lensExactUptoCard

/-- THE SECOND FORM's CARD OF 'coadjutorlaw39.LensCounts'. -/
def lensCountsUptoCard : Claim7 := { stood := { row := lensCountsUptoRow, standIns := [], harness := (true, "3a911c2fe70a535bc71545d59ec7bec3b8c1f6657476c6e55eaad60125545059"), looks := false }, kinds := [], alts := [], laidByText := true, laidKinds := [.data, .data, .data], laidTests := true, laidLooks := .later }
def LensCountsUptoCardSaid : Prop := Claim7.holds Tryd.pinned (.plain (OpenSpec.upto lensCountsSpec)) lensCountsUptoCard
end Rows
end Go.Proofs.YtbadkcnemcnhfaaDoor
