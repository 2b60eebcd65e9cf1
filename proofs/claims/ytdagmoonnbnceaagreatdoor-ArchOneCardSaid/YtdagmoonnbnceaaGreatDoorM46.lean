/- Parts of the proof of ArchOne: Frame. -/
import Derived.Test.YtdagmoonnbnceaaGreatDoorM00
import Derived.ProofKit
import Derived.SliceStrings
import Derived.OpenShut
import Derived.ShutString
import Derived.ChangeOld
set_option linter.unusedVariables false
set_option linter.unusedSectionVars false
set_option linter.unusedSimpArgs false
set_option maxHeartbeats 8000000
namespace Go.Fk
open Go.RowKit Go.ChangeShapes Go.WideShapes Go.ChangeAt
open Go.ChangeMaps (open_string shut_string)
theorem S_eta(s:ByteArray):(Value.string s)=S s.data.toList:=by
 obtain⟨⟨l⟩⟩:=s;rfl
end Go.Fk
