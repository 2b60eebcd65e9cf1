/- Parts of the proof of ArchVersions: E5. -/
import Derived.Test.YtghcmindankceaaGreatDoorM17
import Derived.Test.YtghcmindankceaaGreatDoorShelf
import Derived.Lib.ItoaNum
set_option linter.unusedVariables false
set_option linter.unusedSectionVars false
set_option linter.unusedSimpArgs false
set_option maxHeartbeats 8000000
namespace Go.Proofs.YtghcmindankceaaGreatDoor
open Go.RowKit Go.Fk
theorem bitLen_log(q:Nat)(h1:1<=q)(h2:q<2 ^ 64):Lib.bitLen q=Nat.log2 q+1:=by
 obtain⟨a,b,c⟩:=Lib.bitLenAux_bounds 64 q h2 (by omega)
 show Lib.bitLenAux 64 q=_
 generalize Lib.bitLenAux 64 q=k at *
 obtain⟨j,rfl⟩:∃ j,k=j+1:=⟨k - 1,by omega⟩
 rw [log2_le q j (by simpa using b) c]
end Go.Proofs.YtghcmindankceaaGreatDoor
