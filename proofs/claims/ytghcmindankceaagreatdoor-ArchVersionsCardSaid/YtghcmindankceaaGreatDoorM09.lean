/- Parts of the proof of ArchVersions: G1 G2. -/
import Derived.Test.YtghcmindankceaaGreatDoorM01
import Derived.Test.YtghcmindankceaaGreatDoorM05
import Derived.Test.YtghcmindankceaaGreatDoorM06
set_option linter.unusedVariables false
set_option linter.unusedSectionVars false
set_option linter.unusedSimpArgs false
set_option maxHeartbeats 8000000
namespace Go.Proofs.YtghcmindankceaaGreatDoor
open Go.RowKit Go.Fk
abbrev B8(n:Nat):Value:=.int .u8 (n:Int)
theorem byte_val(x:Nat)(h:x<256):Value.int .u8 (x:Int)=Fk.u8 (UInt8.ofNat x):=by
 show _=Value.int .u8 _
 rw [UInt8.toNat_ofNat']
 congr 1
 omega
def invV(a:Nat):Value:=if a=0 then .tuple #[B8 0,.int .i64 13]else .tuple #[B8 (invN a),.int .i64 0]
end Go.Proofs.YtghcmindankceaaGreatDoor
