/- Parts of the proof of ArchEnds: Mr3 R6. -/
import Derived.Test.YtfpijnhhdfoohaaGreatDoorM36
import Derived.Deep.RegionHeldLaw
import Derived.Test.YtfpijnhhdfoohaaGreatDoorM21
import Derived.Test.YtfpijnhhdfoohaaGreatDoorM16
import Derived.Test.YtfpijnhhdfoohaaGreatDoorM11
set_option linter.unusedVariables false
set_option linter.unusedSectionVars false
set_option linter.unusedSimpArgs false
set_option maxHeartbeats 8000000
namespace Go.Proofs.YtfpijnhhdfoohaaGreatDoor
open Go.RowKit Go.Fk
def M0:Op:=.load 22 (.tmp 50)
attribute [local go_sem] M0
def SS(M:List UInt8)(C a:Nat):List UInt8:=(M.take ((a+1)*C)).drop (a*C)
end Go.Proofs.YtfpijnhhdfoohaaGreatDoor
