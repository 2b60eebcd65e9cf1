/-
  DERIVED. GIVEN WITH THE SEED: THE CARDS: each row of YtijghcbpfcjjnaaGreatDoorRows.lean that lists a variable, with what it lists TIED to the program's text (the seventh form; the later family's looks); each row that meets fmt, with fmt's text TOLD by the authors' own Lean function (tested against real Go, not proved from fmt's source: count such statements apart). THE CARD IS WHAT COUNTS. Prove the row's statement (the work); the ties are given (YtijghcbpfcjjnaaGreatDoorTie.lean); close each card by the builder's one call (the guide's Derived/Test/ToyasCard.lean, 'card_holds'). Laid BY PROGRAM, IN A SANDBOX (cutbox-door.mjs). By AI agents, Wed Nov 11 2026. No macro, syntax, notation, axiom, sorry.
-/
import Derived.Test.YtijghcbpfcjjnaaGreatDoorRows
import GoSem.ClaimSeven
namespace Go.Proofs.YtijghcbpfcjjnaaGreatDoor
namespace Rows

/-- THE TIED CARD OF 'firkinlaw24.ThreeOpens'. -/
def threeOpensCard : Claim7 := { stood := { row := threeOpensRow, standIns := [], harness := (true, "bb1e06ef9dedcd7d0479867227ad51d40992623bf163f33c22ad1bd338ad2204"), looks := false }, kinds := [], alts := [], laidByText := true, laidKinds := [.data], laidTests := true, laidLooks := .later }
def ThreeOpensCardSaid : Prop := Claim7.holds Tryz.pinned (.plain (OpenSpec.ofChange threeOpensSpec)) threeOpensCard

/-- THE SECOND FORM's CARD OF 'firkinlaw24.ThreeOpens'. -/
def threeOpensUptoCard : Claim7 := { stood := { row := threeOpensUptoRow, standIns := [], harness := (true, "bb1e06ef9dedcd7d0479867227ad51d40992623bf163f33c22ad1bd338ad2204"), looks := false }, kinds := [], alts := [], laidByText := true, laidKinds := [.data], laidTests := true, laidLooks := .later }
def ThreeOpensUptoCardSaid : Prop := Claim7.holds Tryz.pinned (.plain (OpenSpec.upto threeOpensSpec)) threeOpensUptoCard
end Rows
end Go.Proofs.YtijghcbpfcjjnaaGreatDoor
