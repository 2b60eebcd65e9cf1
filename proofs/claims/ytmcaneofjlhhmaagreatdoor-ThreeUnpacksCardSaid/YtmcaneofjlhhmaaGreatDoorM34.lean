/- Lemmas. -/
import Derived.Test.YtmcaneofjlhhmaaGreatDoorM28
import Derived.Test.YtmcaneofjlhhmaaGreatDoorM18
set_option linter.all false
set_option maxHeartbeats 8000000
namespace Go.Proofs
open RowKit Fk
def AJ(b:U0):U0:=wR (Oz (CH (Hn (yf b))) (CH (Ml (yf b))) (yf b))
def Eo(plain:Bool)(b:U0):U0:=if plain=false/\(AJ b).length<b.length then Du 1 b.length (AJ b)else Du 0 b.length b
structure RU (l:List aQ):Prop where
 len:l.length<=60
 wt:cZ fm l<=4000
def R8(p:Bool)(l:List aQ)(d:List Nat)(k:Nat):U0:=Eo p (Em false ((l.take (d.take (k+1)).sum).drop (d.take k).sum))
def LP(d:Nat->U0)(k:Nat):List U0:=(List.range k).map d
