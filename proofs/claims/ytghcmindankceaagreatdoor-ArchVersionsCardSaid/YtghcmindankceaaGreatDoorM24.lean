/- Parts of the proof of ArchVersions: G3. -/
import Derived.Test.YtghcmindankceaaGreatDoorM09
import Derived.Test.YtghcmindankceaaGreatDoorM07
import Derived.Test.YtghcmindankceaaGreatDoorM10
import Derived.Laws.Tables
set_option linter.unusedVariables false
set_option linter.unusedSectionVars false
set_option linter.unusedSimpArgs false
set_option maxHeartbeats 8000000
namespace Go.Proofs.YtghcmindankceaaGreatDoor
open Go.RowKit Go.Fk
def rowC(c:Nat):Array Value:=((List.range 256).map fun i=>B8 (mulN c i)).toArray
theorem setRow_chg(w:World)(g:Nat)(cs:Array Value):Chg (fun k=>k=g) w (w.setRow g cs):=
 ⟨rfl,rfl,rfl,by simp [World.setRow],fun k _ hn=>setRow_other w g k cs hn⟩
end Go.Proofs.YtghcmindankceaaGreatDoor
