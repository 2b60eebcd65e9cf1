/-
  DERIVED. GIVEN WITH THE SEED: THE CARDS: each row of YtmcaneofjlhhmaaGreatDoorRows.lean that lists a variable, with what it lists TIED to the program's text (the seventh form; the later family's looks); each row that meets fmt, with fmt's text TOLD by the authors' own Lean function (tested against real Go, not proved from fmt's source: count such statements apart). THE CARD IS WHAT COUNTS. Prove the row's statement (the work); the ties are given (YtmcaneofjlhhmaaGreatDoorTie.lean); close each card by the builder's one call (the guide's Derived/Test/ToyasCard.lean, 'card_holds'). Laid BY PROGRAM, IN A SANDBOX (cutbox-door.mjs). By AI agents, Wed Nov 11 2026. No macro, syntax, notation, axiom, sorry.
-/
import Derived.Test.YtmcaneofjlhhmaaGreatDoorRows
import GoSem.ClaimSeven
namespace Go.Proofs.YtmcaneofjlhhmaaGreatDoor
namespace Rows

/-- THE TIED CARD OF 'firkinlaw24.ThreeUnpacks'. -/
def threeUnpacksCard : Claim7 := { stood := { row := threeUnpacksRow, standIns := [], harness := (true, "e9dfd89acacddc40a83c20cc048d8d93dfedaf55aa5412adfad23e2bc98e5be2"), looks := false }, kinds := [], alts := [], laidByText := true, laidKinds := [.data], laidTests := true, laidLooks := .later }
def ThreeUnpacksCardSaid : Prop := Claim7.holds Tryz.pinned (.plain (OpenSpec.ofChange threeUnpacksSpec)) threeUnpacksCard

/-- THE SECOND FORM's CARD OF 'firkinlaw24.ThreeUnpacks'. -/
def threeUnpacksUptoCard : Claim7 := { stood := { row := threeUnpacksUptoRow, standIns := [], harness := (true, "e9dfd89acacddc40a83c20cc048d8d93dfedaf55aa5412adfad23e2bc98e5be2"), looks := false }, kinds := [], alts := [], laidByText := true, laidKinds := [.data], laidTests := true, laidLooks := .later }
def ThreeUnpacksUptoCardSaid : Prop := Claim7.holds Tryz.pinned (.plain (OpenSpec.upto threeUnpacksSpec)) threeUnpacksUptoCard
end Rows
end Go.Proofs.YtmcaneofjlhhmaaGreatDoor
