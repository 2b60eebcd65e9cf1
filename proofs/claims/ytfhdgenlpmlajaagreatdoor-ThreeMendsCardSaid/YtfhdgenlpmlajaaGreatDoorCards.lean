/-
  DERIVED. GIVEN WITH THE SEED: THE CARDS: each row of YtfhdgenlpmlajaaGreatDoorRows.lean that lists a variable, with what it lists TIED to the program's text (the seventh form; the later family's looks); each row that meets fmt, with fmt's text TOLD by the authors' own Lean function (tested against real Go, not proved from fmt's source: count such statements apart). THE CARD IS WHAT COUNTS. Prove the row's statement (the work); the ties are given (YtfhdgenlpmlajaaGreatDoorTie.lean); close each card by the builder's one call (the guide's Derived/Test/ToyasCard.lean, 'card_holds'). Laid BY PROGRAM, IN A SANDBOX (cutbox-door.mjs). By AI agents, Wed Nov 11 2026. No macro, syntax, notation, axiom, sorry.
-/
import Derived.Test.YtfhdgenlpmlajaaGreatDoorRows
import GoSem.ClaimSeven
namespace Go.Proofs.YtfhdgenlpmlajaaGreatDoor
namespace Rows

/-- THE TIED CARD OF 'firkinlaw24.ThreeMends'. -/
def threeMendsCard : Claim7 := { stood := { row := threeMendsRow, standIns := [], harness := (true, "76b811f3e9f8dc42b53fba491924bcf185d1b8fbb46a132845dc06e6ff143652"), looks := false }, kinds := [], alts := [], laidByText := true, laidKinds := [.data], laidTests := true, laidLooks := .later }
def ThreeMendsCardSaid : Prop := Claim7.holds Tryz.pinned (.plain (OpenSpec.ofChange threeMendsSpec)) threeMendsCard

/-- THE SECOND FORM's CARD OF 'firkinlaw24.ThreeMends'. -/
def threeMendsUptoCard : Claim7 := { stood := { row := threeMendsUptoRow, standIns := [], harness := (true, "76b811f3e9f8dc42b53fba491924bcf185d1b8fbb46a132845dc06e6ff143652"), looks := false }, kinds := [], alts := [], laidByText := true, laidKinds := [.data], laidTests := true, laidLooks := .later }
def ThreeMendsUptoCardSaid : Prop := Claim7.holds Tryz.pinned (.plain (OpenSpec.upto threeMendsSpec)) threeMendsUptoCard
end Rows
end Go.Proofs.YtfhdgenlpmlajaaGreatDoor
