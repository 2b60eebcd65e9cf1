/- Parts of the proof of ArchVersions: M1 M2 M3 R2 R3. -/
import Derived.Test.YtghcmindankceaaGreatDoorM24
import Derived.Test.YtghcmindankceaaGreatDoorM11
import Derived.Test.YtghcmindankceaaGreatDoorM10
set_option linter.unusedVariables false
set_option linter.unusedSectionVars false
set_option linter.unusedSimpArgs false
set_option maxHeartbeats 8000000
namespace Go.Proofs.YtghcmindankceaaGreatDoor
open Go.RowKit Go.Fk
def inv1(a:Nat):Nat:=if a=0 then 0 else invN a
def cauC(k i j:Nat):UInt8:=UInt8.ofNat (inv1 ((k+i) ^^^ j))
def cauRow(k i n:Nat):List UInt8:=(List.range n).map (cauC k i)
def cauPre(k i j:Nat):List UInt8:=((List.range i).map fun i=>cauRow k i k).flatten++cauRow k i j
def cauV(k m:Nat)(v:Value):Value:=.agg #[N m,N k,v]
def parL(m:Nat)(ds:List (List UInt8))(L:Nat):List (List UInt8):=timesL (cauPre ds.length m 0) ds.length m ds L
end Go.Proofs.YtghcmindankceaaGreatDoor
