/-
  DERIVED. GIVEN WITH THE SEED: THE CARDS: each row of YtmfbmjplmaimbaaGreatDoorRows.lean that lists a variable, with what it lists TIED to the program's text (the seventh form; the later family's looks); each row that meets fmt, with fmt's text TOLD by the authors' own Lean function (tested against real Go, not proved from fmt's source: count such statements apart). THE CARD IS WHAT COUNTS. Prove the row's statement (the work); the ties are given (YtmfbmjplmaimbaaGreatDoorTie.lean); close each card by the builder's one call (the guide's Derived/Test/ToyasCard.lean, 'card_holds'). Laid BY PROGRAM, IN A SANDBOX (cutbox-door.mjs). By AI agents, Wed Nov 11 2026. No macro, syntax, notation, axiom, sorry.
-/
import Derived.Test.YtmfbmjplmaimbaaGreatDoorRows
import GoSem.ClaimSeven
namespace Go.Proofs.YtmfbmjplmaimbaaGreatDoor
namespace Rows

/-- THE TIED CARD OF 'firkinlaw24.ThreePacks'. -/
def threePacksCard : Claim7 := { stood := { row := threePacksRow, standIns := [], harness := (true, "41223f600be99c575a219d82f877731173a688e8d8cea3333e8e54dcad052ec7"), looks := false }, kinds := [], alts := [], laidByText := true, laidKinds := [.data], laidTests := true, laidLooks := .later }
def ThreePacksCardSaid : Prop := Claim7.holds Tryz.pinned (.plain (OpenSpec.ofChange threePacksSpec)) threePacksCard

/-- THE SECOND FORM's CARD OF 'firkinlaw24.ThreePacks'. -/
def threePacksUptoCard : Claim7 := { stood := { row := threePacksUptoRow, standIns := [], harness := (true, "41223f600be99c575a219d82f877731173a688e8d8cea3333e8e54dcad052ec7"), looks := false }, kinds := [], alts := [], laidByText := true, laidKinds := [.data], laidTests := true, laidLooks := .later }
def ThreePacksUptoCardSaid : Prop := Claim7.holds Tryz.pinned (.plain (OpenSpec.upto threePacksSpec)) threePacksUptoCard
end Rows
end Go.Proofs.YtmfbmjplmaimbaaGreatDoor
