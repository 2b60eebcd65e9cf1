/-
  DERIVED. GIVEN WITH THE SEED: THE CARDS: each row of YtfpijnhhdfoohaaGreatDoorRows.lean that lists a variable, with what it lists TIED to the program's text (the seventh form; the later family's looks); each row that meets fmt, with fmt's text TOLD by the authors' own Lean function (tested against real Go, not proved from fmt's source: count such statements apart). THE CARD IS WHAT COUNTS. Prove the row's statement (the work); the ties are given (YtfpijnhhdfoohaaGreatDoorTie.lean); close each card by the builder's one call (the guide's Derived/Test/ToyasCard.lean, 'card_holds'). Laid BY PROGRAM, IN A SANDBOX (cutbox-door.mjs). By AI agents, Wed Nov 11 2026. No macro, syntax, notation, axiom, sorry.
-/
import Derived.Test.YtfpijnhhdfoohaaGreatDoorRows
import GoSem.ClaimSeven
namespace Go.Proofs.YtfpijnhhdfoohaaGreatDoor
namespace Rows

/-- THE TIED CARD OF 'firkinlaw25.ArchEnds'. -/
def archEndsCard : Claim7 := { stood := { row := archEndsRow, standIns := [], harness := (true, "6a78143745cad79cd2dbf2ec8563c137394d8f4a34388963080289821b294550"), looks := false }, kinds := [], alts := [], laidByText := true, laidKinds := [.data], laidTests := true, laidLooks := .later }
def ArchEndsCardSaid : Prop := Claim7.holds Tryz.pinned (.plain (OpenSpec.ofChange archEndsSpec)) archEndsCard

/-- THE SECOND FORM's CARD OF 'firkinlaw25.ArchEnds'. -/
def archEndsUptoCard : Claim7 := { stood := { row := archEndsUptoRow, standIns := [], harness := (true, "6a78143745cad79cd2dbf2ec8563c137394d8f4a34388963080289821b294550"), looks := false }, kinds := [], alts := [], laidByText := true, laidKinds := [.data], laidTests := true, laidLooks := .later }
def ArchEndsUptoCardSaid : Prop := Claim7.holds Tryz.pinned (.plain (OpenSpec.upto archEndsSpec)) archEndsUptoCard
end Rows
end Go.Proofs.YtfpijnhhdfoohaaGreatDoor
