/-
  DERIVED. GIVEN WITH THE SEED: THE CARDS: each row of YtdccocolnaklkaaGreatDoorRows.lean that lists a variable, with what it lists TIED to the program's text (the seventh form; the later family's looks); each row that meets fmt, with fmt's text TOLD by the authors' own Lean function (tested against real Go, not proved from fmt's source: count such statements apart). THE CARD IS WHAT COUNTS. Prove the row's statement (the work); the ties are given (YtdccocolnaklkaaGreatDoorTie.lean); close each card by the builder's one call (the guide's Derived/Test/ToyasCard.lean, 'card_holds'). Laid BY PROGRAM, IN A SANDBOX (cutbox-door.mjs). By AI agents, Wed Nov 11 2026. No macro, syntax, notation, axiom, sorry.
-/
import Derived.Test.YtdccocolnaklkaaGreatDoorRows
import GoSem.ClaimSeven
namespace Go.Proofs.YtdccocolnaklkaaGreatDoor
namespace Rows

/-- THE TIED CARD OF 'keyholelaw46.RewriteGrouped'. -/
def rewriteGroupedCard : Claim7 := { stood := { row := rewriteGroupedRow, standIns := [], harness := (true, "b92b9bb53670dcfffbcb1d8beb1de9506e9ccf3acc8c8b693e8ec807858d8546"), looks := false }, kinds := [], alts := [], laidByText := true, laidKinds := [.data, .data, .data], laidTests := true, laidLooks := .later }
def RewriteGroupedCardSaid : Prop := Claim7.holds Tryz.pinned (.plain (OpenSpec.ofChange rewriteGroupedSpec)) rewriteGroupedCard

/-- THE TIED CARD OF 'keyholelaw46.RewriteHatched'. -/
def rewriteHatchedCard : Claim7 := { stood := { row := rewriteHatchedRow, standIns := [], harness := (true, "b92b9bb53670dcfffbcb1d8beb1de9506e9ccf3acc8c8b693e8ec807858d8546"), looks := false }, kinds := [], alts := [], laidByText := true, laidKinds := [.data, .data, .data], laidTests := true, laidLooks := .later }
def RewriteHatchedCardSaid : Prop := Claim7.holds Tryz.pinned (.plain (OpenSpec.ofChange rewriteHatchedSpec)) rewriteHatchedCard

/-- THE SECOND FORM's CARD OF 'keyholelaw46.RewriteGrouped'. -/
def rewriteGroupedUptoCard : Claim7 := { stood := { row := rewriteGroupedUptoRow, standIns := [], harness := (true, "b92b9bb53670dcfffbcb1d8beb1de9506e9ccf3acc8c8b693e8ec807858d8546"), looks := false }, kinds := [], alts := [], laidByText := true, laidKinds := [.data, .data, .data], laidTests := true, laidLooks := .later }
def RewriteGroupedUptoCardSaid : Prop := Claim7.holds Tryz.pinned (.plain (OpenSpec.upto rewriteGroupedSpec)) rewriteGroupedUptoCard

/-- THE SECOND FORM's CARD OF 'keyholelaw46.RewriteHatched'. -/
def rewriteHatchedUptoCard : Claim7 := { stood := { row := rewriteHatchedUptoRow, standIns := [], harness := (true, "b92b9bb53670dcfffbcb1d8beb1de9506e9ccf3acc8c8b693e8ec807858d8546"), looks := false }, kinds := [], alts := [], laidByText := true, laidKinds := [.data, .data, .data], laidTests := true, laidLooks := .later }
def RewriteHatchedUptoCardSaid : Prop := Claim7.holds Tryz.pinned (.plain (OpenSpec.upto rewriteHatchedSpec)) rewriteHatchedUptoCard
end Rows
end Go.Proofs.YtdccocolnaklkaaGreatDoor
