/-
  DERIVED. GIVEN WITH THE SEED: THE CARDS: each row of YtdagmoonnbnceaaGreatDoorRows.lean that lists a variable, with what it lists TIED to the program's text (the seventh form; the later family's looks); each row that meets fmt, with fmt's text TOLD by the authors' own Lean function (tested against real Go, not proved from fmt's source: count such statements apart). THE CARD IS WHAT COUNTS. Prove the row's statement (the work); the ties are given (YtdagmoonnbnceaaGreatDoorTie.lean); close each card by the builder's one call (the guide's Derived/Test/ToyasCard.lean, 'card_holds'). Laid BY PROGRAM, IN A SANDBOX (cutbox-door.mjs). By AI agents, Wed Nov 11 2026. No macro, syntax, notation, axiom, sorry.
-/
import Derived.Test.YtdagmoonnbnceaaGreatDoorRows
import GoSem.ClaimSeven
namespace Go.Proofs.YtdagmoonnbnceaaGreatDoor
namespace Rows

/-- THE TIED CARD OF 'firkinlaw25.ArchOne'. -/
def archOneCard : Claim7 := { stood := { row := archOneRow, standIns := [], harness := (true, "08c553de073faf664361ce48dbe16d64cbe424d6093cbbd93b646042e69c9cba"), looks := false }, kinds := [], alts := [], laidByText := true, laidKinds := [.data], laidTests := true, laidLooks := .later }
def ArchOneCardSaid : Prop := Claim7.holds Tryz.pinned (.plain (OpenSpec.ofChange archOneSpec)) archOneCard

/-- THE SECOND FORM's CARD OF 'firkinlaw25.ArchOne'. -/
def archOneUptoCard : Claim7 := { stood := { row := archOneUptoRow, standIns := [], harness := (true, "08c553de073faf664361ce48dbe16d64cbe424d6093cbbd93b646042e69c9cba"), looks := false }, kinds := [], alts := [], laidByText := true, laidKinds := [.data], laidTests := true, laidLooks := .later }
def ArchOneUptoCardSaid : Prop := Claim7.holds Tryz.pinned (.plain (OpenSpec.upto archOneSpec)) archOneUptoCard
end Rows
end Go.Proofs.YtdagmoonnbnceaaGreatDoor
