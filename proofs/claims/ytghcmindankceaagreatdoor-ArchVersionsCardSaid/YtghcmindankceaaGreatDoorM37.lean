/- Parts of the proof of ArchVersions: T1 T2. -/
import Derived.Test.YtghcmindankceaaGreatDoorM36
import Derived.Lib.SmallJoins
import Derived.Test.YtghcmindankceaaGreatDoorM12
import Derived.Test.YtghcmindankceaaGreatDoorM08
import Derived.Test.YtghcmindankceaaGreatDoorM10
set_option linter.unusedVariables false
set_option linter.unusedSectionVars false
set_option linter.unusedSimpArgs false
set_option maxHeartbeats 8000000
namespace Go.Proofs.YtghcmindankceaaGreatDoor
open Go.RowKit Go.Fk
abbrev shV(k m c:Nat):Value:=.agg #[N k,N m,N c]
def strN(k c n:Nat):Nat:=(n+k*c - 1) / (k*c)
def sizeV(k m c n:Nat):Value:=
 if n<=8388608 then(if strN k c n*((k+m)*(c+4))<=16777216 then .tuple #[N (strN k c n*((k+m)*(c+4))),.int .i64 0]else .tuple #[.int .i64 0,.int .i64 6])else .tuple #[.int .i64 0,.int .i64 13]
def stripeL(l:List UInt8)(k m c a:Nat):List UInt8:=putsL (partsS l c a k)++putsL (parL m (partsS l c a k) c)
def layL(l:List UInt8)(k m c:Nat):Nat->List UInt8
 | 0=>[]
 | s+1=>layL l k m c s++stripeL l k m c (s*(k*c))
end Go.Proofs.YtghcmindankceaaGreatDoor
