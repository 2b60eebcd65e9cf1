/-
  DERIVED. GIVEN WITH THE SEED: THE CARDS: each row of YtdamnfpigajmoaaGreatDoorRows.lean that lists a variable, with what it lists TIED to the program's text (the seventh form; the later family's looks); each row that meets fmt, with fmt's text TOLD by the authors' own Lean function (tested against real Go, not proved from fmt's source: count such statements apart). THE CARD IS WHAT COUNTS. Prove the row's statement (the work); the ties are given (YtdamnfpigajmoaaGreatDoorTie.lean); close each card by the builder's one call (the guide's Derived/Test/ToyasCard.lean, 'card_holds'). Laid BY PROGRAM, IN A SANDBOX (cutbox-door.mjs). By AI agents, Wed Nov 11 2026. No macro, syntax, notation, axiom, sorry.
-/
import Derived.Test.YtdamnfpigajmoaaGreatDoorRows
import GoSem.ClaimSeven
namespace Go.Proofs.YtdamnfpigajmoaaGreatDoor
namespace Rows

/-- THE TIED CARD OF 'firkinlaw25.ArchPacks'. -/
def archPacksCard : Claim7 := { stood := { row := archPacksRow, standIns := [], harness := (true, "ab853d051e89b687a4ddbd689117c0711630ab3f9245709ff000664314af7a6a"), looks := false }, kinds := [], alts := [], laidByText := true, laidKinds := [.data], laidTests := true, laidLooks := .later }
def ArchPacksCardSaid : Prop := Claim7.holds Tryz.pinned (.plain (OpenSpec.ofChange archPacksSpec)) archPacksCard

/-- THE SECOND FORM's CARD OF 'firkinlaw25.ArchPacks'. -/
def archPacksUptoCard : Claim7 := { stood := { row := archPacksUptoRow, standIns := [], harness := (true, "ab853d051e89b687a4ddbd689117c0711630ab3f9245709ff000664314af7a6a"), looks := false }, kinds := [], alts := [], laidByText := true, laidKinds := [.data], laidTests := true, laidLooks := .later }
def ArchPacksUptoCardSaid : Prop := Claim7.holds Tryz.pinned (.plain (OpenSpec.upto archPacksSpec)) archPacksUptoCard
end Rows
end Go.Proofs.YtdamnfpigajmoaaGreatDoor
