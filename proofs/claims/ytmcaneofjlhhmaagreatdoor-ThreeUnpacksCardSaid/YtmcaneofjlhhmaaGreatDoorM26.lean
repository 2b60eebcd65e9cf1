/- Lemmas. -/
import Derived.Test.YtmcaneofjlhhmaaGreatDoorM11
set_option linter.all false
set_option maxHeartbeats 8000000
namespace Go.Fk
open Go.RowKit
open Go.Maps (Keyed IsMap atKey_put_same atKey_put_other)
open Go.WideMaps (ArrKey)
def k3(a b c:UInt8):Lit:=.string (Go.keyBytes [.int .u8 (a.toNat:Int),.int .u8 (b.toNat:Int),.int .u8 (c.toNat:Int)])
def v3(a b c:UInt8):Value:=.agg #[.int .u8 (a.toNat:Int),.int .u8 (b.toNat:Int),.int .u8 (c.toNat:Int)]
def Qy(w:World)(P:Program)(k e:TypeId)(b n:Nat)(f:UInt8->UInt8->UInt8->Option Nat):Prop:=
 ∃D:Go.DataW Unit,w.ownsMap P k (plainElem P e) b n D/\IsMap D/\∀x y z u,D.atKey (k3 x y z) u=match f x y z with | some p=>.lit (.int .i64 (p:Int)) | none=>u
section
variable {w w':World} {P:Program} {k e t q:TypeId} {b n:Nat} {f:UInt8->UInt8->UInt8->Option Nat}
def R2(o:Option Nat):Value:=match o with | some p=>.tuple #[.int .i64 (p:Int),.bool true] | none=>.tuple #[.int .i64 0,.bool false]
end
