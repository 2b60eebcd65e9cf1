/-
  DERIVED. GIVEN WITH THE SEED: THE CARDS: each row of YtndbpldeabnkbaaGreatDoorRows.lean that lists a variable, with what it lists TIED to the program's text (the seventh form; the later family's looks); each row that meets fmt, with fmt's text TOLD by the authors' own Lean function (tested against real Go, not proved from fmt's source: count such statements apart). THE CARD IS WHAT COUNTS. Prove the row's statement (the work); the ties are given (YtndbpldeabnkbaaGreatDoorTie.lean); close each card by the builder's one call (the guide's Derived/Test/ToyasCard.lean, 'card_holds'). Laid BY PROGRAM, IN A SANDBOX (cutbox-door.mjs). By AI agents, Wed Nov 11 2026. No macro, syntax, notation, axiom, sorry.
-/
import Derived.Test.YtndbpldeabnkbaaGreatDoorRows
import GoSem.ClaimSeven
namespace Go.Proofs.YtndbpldeabnkbaaGreatDoor
namespace Rows

/-- THE TIED CARD OF 'firkinlaw24.ThreeBack'. -/
def threeBackCard : Claim7 := { stood := { row := threeBackRow, standIns := [], harness := (true, "5dde448fa3b2d5d2b24186a0c9cd56191fd251d1362ed64aecb952c129fc4188"), looks := false }, kinds := [], alts := [], laidByText := true, laidKinds := [.data], laidTests := true, laidLooks := .later }
def ThreeBackCardSaid : Prop := Claim7.holds Tryz.pinned (.plain (OpenSpec.ofChange threeBackSpec)) threeBackCard

/-- THE TIED CARD OF 'firkinlaw24.ThreeTurned'. -/
def threeTurnedCard : Claim7 := { stood := { row := threeTurnedRow, standIns := [], harness := (true, "5dde448fa3b2d5d2b24186a0c9cd56191fd251d1362ed64aecb952c129fc4188"), looks := false }, kinds := [], alts := [], laidByText := true, laidKinds := [.data], laidTests := true, laidLooks := .later }
def ThreeTurnedCardSaid : Prop := Claim7.holds Tryz.pinned (.plain (OpenSpec.ofChange threeTurnedSpec)) threeTurnedCard

/-- THE SECOND FORM's CARD OF 'firkinlaw24.ThreeBack'. -/
def threeBackUptoCard : Claim7 := { stood := { row := threeBackUptoRow, standIns := [], harness := (true, "5dde448fa3b2d5d2b24186a0c9cd56191fd251d1362ed64aecb952c129fc4188"), looks := false }, kinds := [], alts := [], laidByText := true, laidKinds := [.data], laidTests := true, laidLooks := .later }
def ThreeBackUptoCardSaid : Prop := Claim7.holds Tryz.pinned (.plain (OpenSpec.upto threeBackSpec)) threeBackUptoCard

/-- THE SECOND FORM's CARD OF 'firkinlaw24.ThreeTurned'. -/
def threeTurnedUptoCard : Claim7 := { stood := { row := threeTurnedUptoRow, standIns := [], harness := (true, "5dde448fa3b2d5d2b24186a0c9cd56191fd251d1362ed64aecb952c129fc4188"), looks := false }, kinds := [], alts := [], laidByText := true, laidKinds := [.data], laidTests := true, laidLooks := .later }
def ThreeTurnedUptoCardSaid : Prop := Claim7.holds Tryz.pinned (.plain (OpenSpec.upto threeTurnedSpec)) threeTurnedUptoCard
end Rows
end Go.Proofs.YtndbpldeabnkbaaGreatDoor
