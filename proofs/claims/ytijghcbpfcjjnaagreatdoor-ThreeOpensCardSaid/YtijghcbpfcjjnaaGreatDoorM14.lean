/- Parts of the proof of ThreeOpens: Wd1. -/
import Derived.Test.YtijghcbpfcjjnaaGreatDoorM01
import Derived.Test.YtijghcbpfcjjnaaGreatDoorShelf
import Derived.Test.YtijghcbpfcjjnaaGreatDoorM13
import Derived.Sort.OwnSorted
set_option linter.unusedVariables false
set_option linter.unusedSectionVars false
set_option linter.unusedSimpArgs false
set_option maxHeartbeats 8000000
namespace Go.Proofs.YtijghcbpfcjjnaaGreatDoor
open Go.RowKit Go.Fk
end Go.Proofs.YtijghcbpfcjjnaaGreatDoor
