/-
  DERIVED. GIVEN WITH THE SEED: THE CARDS: each row of YtjepodlalcnecaaDoorRows.lean that lists a variable, with what it lists TIED to the program's text (the seventh form; the later family's looks); each row that meets fmt, with fmt's text TOLD by the authors' own Lean function (tested against real Go, not proved from fmt's source: count such statements apart). THE CARD IS WHAT COUNTS. Prove the row's statement (the work); the ties are given (YtjepodlalcnecaaDoorTie.lean); close each card by the builder's one call (the guide's Derived/Test/ToyasCard.lean, 'card_holds'). Laid BY PROGRAM, IN A SANDBOX (cutbox-door.mjs). By AI agents, Wed Nov 11 2026. No macro, syntax, notation, axiom, sorry.
-/
import Derived.Test.YtjepodlalcnecaaDoorRows
import GoSem.ClaimSeven
namespace Go.Proofs.YtjepodlalcnecaaDoor
namespace Rows

/-- THE TIED CARD OF 'firkinlaw28.AskChecks'. -/
def askChecksCard : Claim7 := { stood := { row := askChecksRow, standIns := [], harness := (true, "7a79b3999ff7b76485f1d6502fcda70183556718a94a98766c68d3e4211d805e"), looks := true }, kinds := [], alts := [], laidByText := true, laidKinds := [.data, .data, .data, .sentinel, .sentinel], laidTests := true, laidLooks := .later }
def AskChecksCardSaid : Prop := Claim7.holds Tryd.pinned (.plain (OpenSpec.ofChange askChecksSpec)) askChecksCard

/-- THE TIED CARD OF 'firkinlaw28.AskJoins'. -/
def askJoinsCard : Claim7 := { stood := { row := askJoinsRow, standIns := [], harness := (true, "7a79b3999ff7b76485f1d6502fcda70183556718a94a98766c68d3e4211d805e"), looks := true }, kinds := [], alts := [], laidByText := true, laidKinds := [.data, .data, .data, .sentinel, .sentinel], laidTests := true, laidLooks := .later }
def AskJoinsCardSaid : Prop := Claim7.holds Tryd.pinned (.plain (OpenSpec.ofChange askJoinsSpec)) askJoinsCard

/-- THE TIED CARD OF 'firkinlaw28.AskShows'. -/
def askShowsCard : Claim7 := { stood := { row := askShowsRow, standIns := [], harness := (true, "7a79b3999ff7b76485f1d6502fcda70183556718a94a98766c68d3e4211d805e"), looks := true }, kinds := [], alts := [], laidByText := true, laidKinds := [.data, .data, .data, .sentinel, .sentinel], laidTests := true, laidLooks := .later }
def AskShowsCardSaid : Prop := Claim7.holds Tryd.pinned (.plain (OpenSpec.ofChange askShowsSpec)) askShowsCard

/-- THE TIED CARD OF 'firkinlaw28.AskBack'. -/
def askBackCard : Claim7 := { stood := { row := askBackRow, standIns := [], harness := (true, "7a79b3999ff7b76485f1d6502fcda70183556718a94a98766c68d3e4211d805e"), looks := true }, kinds := [], alts := [], laidByText := true, laidKinds := [.data, .data, .data, .sentinel, .sentinel], laidTests := true, laidLooks := .later }
def AskBackCardSaid : Prop := Claim7.holds Tryd.pinned (.plain (OpenSpec.ofChange askBackSpec)) askBackCard

/-- THE TIED CARD OF 'firkinlaw28.AskMay'. -/
def askMayCard : Claim7 := { stood := { row := askMayRow, standIns := [], harness := (true, "7a79b3999ff7b76485f1d6502fcda70183556718a94a98766c68d3e4211d805e"), looks := true }, kinds := [], alts := [], laidByText := true, laidKinds := [.data, .data, .data, .sentinel, .sentinel], laidTests := true, laidLooks := .later }
def AskMayCardSaid : Prop := Claim7.holds Tryd.pinned (.plain (OpenSpec.ofChange askMaySpec)) askMayCard

/-- THE TIED CARD OF 'firkinlaw28.AskLeaves'. -/
def askLeavesCard : Claim7 := { stood := { row := askLeavesRow, standIns := [], harness := (true, "7a79b3999ff7b76485f1d6502fcda70183556718a94a98766c68d3e4211d805e"), looks := true }, kinds := [], alts := [], laidByText := true, laidKinds := [.data, .data, .data, .sentinel, .sentinel], laidTests := true, laidLooks := .later }
def AskLeavesCardSaid : Prop := Claim7.holds Tryd.pinned (.plain (OpenSpec.ofChange askLeavesSpec)) askLeavesCard

/-- THE SECOND FORM's CARD OF 'firkinlaw28.AskChecks'. -/
def askChecksUptoCard : Claim7 := { stood := { row := askChecksUptoRow, standIns := [], harness := (true, "7a79b3999ff7b76485f1d6502fcda70183556718a94a98766c68d3e4211d805e"), looks := true }, kinds := [], alts := [], laidByText := true, laidKinds := [.data, .data, .data, .sentinel, .sentinel], laidTests := true, laidLooks := .later }
def AskChecksUptoCardSaid : Prop := Claim7.holds Tryd.pinned (.plain (OpenSpec.upto askChecksSpec)) askChecksUptoCard

/-- THE SECOND FORM's CARD OF 'firkinlaw28.AskJoins'. -/
def askJoinsUptoCard : Claim7 := { stood := { row := askJoinsUptoRow, standIns := [], harness := (true, "7a79b3999ff7b76485f1d6502fcda70183556718a94a98766c68d3e4211d805e"), looks := true }, kinds := [], alts := [], laidByText := true, laidKinds := [.data, .data, .data, .sentinel, .sentinel], laidTests := true, laidLooks := .later }
def AskJoinsUptoCardSaid : Prop := Claim7.holds Tryd.pinned (.plain (OpenSpec.upto askJoinsSpec)) askJoinsUptoCard

/-- THE SECOND FORM's CARD OF 'firkinlaw28.AskShows'. -/
def askShowsUptoCard : Claim7 := { stood := { row := askShowsUptoRow, standIns := [], harness := (true, "7a79b3999ff7b76485f1d6502fcda70183556718a94a98766c68d3e4211d805e"), looks := true }, kinds := [], alts := [], laidByText := true, laidKinds := [.data, .data, .data, .sentinel, .sentinel], laidTests := true, laidLooks := .later }
def AskShowsUptoCardSaid : Prop := Claim7.holds Tryd.pinned (.plain (OpenSpec.upto askShowsSpec)) askShowsUptoCard

/-- THE SECOND FORM's CARD OF 'firkinlaw28.AskBack'. -/
def askBackUptoCard : Claim7 := { stood := { row := askBackUptoRow, standIns := [], harness := (true, "7a79b3999ff7b76485f1d6502fcda70183556718a94a98766c68d3e4211d805e"), looks := true }, kinds := [], alts := [], laidByText := true, laidKinds := [.data, .data, .data, .sentinel, .sentinel], laidTests := true, laidLooks := .later }
def AskBackUptoCardSaid : Prop := Claim7.holds Tryd.pinned (.plain (OpenSpec.upto askBackSpec)) askBackUptoCard

/-- THE SECOND FORM's CARD OF 'firkinlaw28.AskMay'. -/
def askMayUptoCard : Claim7 := { stood := { row := askMayUptoRow, standIns := [], harness := (true, "7a79b3999ff7b76485f1d6502fcda70183556718a94a98766c68d3e4211d805e"), looks := true }, kinds := [], alts := [], laidByText := true, laidKinds := [.data, .data, .data, .sentinel, .sentinel], laidTests := true, laidLooks := .later }
def AskMayUptoCardSaid : Prop := Claim7.holds Tryd.pinned (.plain (OpenSpec.upto askMaySpec)) askMayUptoCard

/-- THE SECOND FORM's CARD OF 'firkinlaw28.AskLeaves'. -/
def askLeavesUptoCard : Claim7 := { stood := { row := askLeavesUptoRow, standIns := [], harness := (true, "7a79b3999ff7b76485f1d6502fcda70183556718a94a98766c68d3e4211d805e"), looks := true }, kinds := [], alts := [], laidByText := true, laidKinds := [.data, .data, .data, .sentinel, .sentinel], laidTests := true, laidLooks := .later }
def AskLeavesUptoCardSaid : Prop := Claim7.holds Tryd.pinned (.plain (OpenSpec.upto askLeavesSpec)) askLeavesUptoCard
end Rows
end Go.Proofs.YtjepodlalcnecaaDoor
