/-
  DERIVED. GIVEN WITH THE SEED: THE CARDS: each row of YtghcmindankceaaGreatDoorRows.lean that lists a variable, with what it lists TIED to the program's text (the seventh form; the later family's looks); each row that meets fmt, with fmt's text TOLD by the authors' own Lean function (tested against real Go, not proved from fmt's source: count such statements apart). THE CARD IS WHAT COUNTS. Prove the row's statement (the work); the ties are given (YtghcmindankceaaGreatDoorTie.lean); close each card by the builder's one call (the guide's Derived/Test/ToyasCard.lean, 'card_holds'). Laid BY PROGRAM, IN A SANDBOX (cutbox-door.mjs). By AI agents, Wed Nov 11 2026. No macro, syntax, notation, axiom, sorry.
-/
import Derived.Test.YtghcmindankceaaGreatDoorRows
import GoSem.ClaimSeven
namespace Go.Proofs.YtghcmindankceaaGreatDoor
namespace Rows

/-- THE TIED CARD OF 'firkinlaw24.ThreeUnpacks'. -/
def threeUnpacksCard : Claim7 := { stood := { row := threeUnpacksRow, standIns := [], harness := (true, "1b2fee63b55a3554cef7a05466c748b4d6d8e390d95a5de0bb7b46b61b648b79"), looks := false }, kinds := [], alts := [], laidByText := true, laidKinds := [.data], laidTests := true, laidLooks := .later }
def ThreeUnpacksCardSaid : Prop := Claim7.holds Tryz.pinned (.plain (OpenSpec.ofChange threeUnpacksSpec)) threeUnpacksCard

/-- THE TIED CARD OF 'firkinlaw25.ArchVersions'. -/
def archVersionsCard : Claim7 := { stood := { row := archVersionsRow, standIns := [], harness := (true, "1b2fee63b55a3554cef7a05466c748b4d6d8e390d95a5de0bb7b46b61b648b79"), looks := false }, kinds := [], alts := [], laidByText := true, laidKinds := [.data], laidTests := true, laidLooks := .later }
def ArchVersionsCardSaid : Prop := Claim7.holds Tryz.pinned (.plain (OpenSpec.ofChange archVersionsSpec)) archVersionsCard

/-- THE TIED CARD OF 'firkinlaw25.ArchEnds'. -/
def archEndsCard : Claim7 := { stood := { row := archEndsRow, standIns := [], harness := (true, "1b2fee63b55a3554cef7a05466c748b4d6d8e390d95a5de0bb7b46b61b648b79"), looks := false }, kinds := [], alts := [], laidByText := true, laidKinds := [.data], laidTests := true, laidLooks := .later }
def ArchEndsCardSaid : Prop := Claim7.holds Tryz.pinned (.plain (OpenSpec.ofChange archEndsSpec)) archEndsCard

/-- THE SECOND FORM's CARD OF 'firkinlaw24.ThreeUnpacks'. -/
def threeUnpacksUptoCard : Claim7 := { stood := { row := threeUnpacksUptoRow, standIns := [], harness := (true, "1b2fee63b55a3554cef7a05466c748b4d6d8e390d95a5de0bb7b46b61b648b79"), looks := false }, kinds := [], alts := [], laidByText := true, laidKinds := [.data], laidTests := true, laidLooks := .later }
def ThreeUnpacksUptoCardSaid : Prop := Claim7.holds Tryz.pinned (.plain (OpenSpec.upto threeUnpacksSpec)) threeUnpacksUptoCard

/-- THE SECOND FORM's CARD OF 'firkinlaw25.ArchVersions'. -/
def archVersionsUptoCard : Claim7 := { stood := { row := archVersionsUptoRow, standIns := [], harness := (true, "1b2fee63b55a3554cef7a05466c748b4d6d8e390d95a5de0bb7b46b61b648b79"), looks := false }, kinds := [], alts := [], laidByText := true, laidKinds := [.data], laidTests := true, laidLooks := .later }
def ArchVersionsUptoCardSaid : Prop := Claim7.holds Tryz.pinned (.plain (OpenSpec.upto archVersionsSpec)) archVersionsUptoCard

/-- THE SECOND FORM's CARD OF 'firkinlaw25.ArchEnds'. -/
def archEndsUptoCard : Claim7 := { stood := { row := archEndsUptoRow, standIns := [], harness := (true, "1b2fee63b55a3554cef7a05466c748b4d6d8e390d95a5de0bb7b46b61b648b79"), looks := false }, kinds := [], alts := [], laidByText := true, laidKinds := [.data], laidTests := true, laidLooks := .later }
def ArchEndsUptoCardSaid : Prop := Claim7.holds Tryz.pinned (.plain (OpenSpec.upto archEndsSpec)) archEndsUptoCard
end Rows
end Go.Proofs.YtghcmindankceaaGreatDoor
