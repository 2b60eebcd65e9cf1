/- Lemmas. -/
import Derived.Test.YtmcaneofjlhhmaaGreatDoorM14
import Derived.Test.YtmcaneofjlhhmaaGreatDoorM26
set_option linter.all false
set_option maxHeartbeats 8000000
namespace Go.Proofs
open RowKit Fk Tryz
def eZ:aJ prog Int:=⟨3,1,8,0,.int .i64 0,λn=>[.int .i64 n],by kernel_rfl,δ,δ,by simp[Value.cells],λ_=>rfl,by intro x u d;simp at d;subst d;rfl⟩
def Jn(l:U0)(p:Nat):Int:=match Jm l p with | some q=>(q:Int) | none=>-1
def Jl(l:U0)(a:Nat):List Int:=(List.range a).map (Jn l)
def KW(l:U0)(a:Nat)(x y z:UInt8):Option Nat:=xK l [x,y,z] a
structure Sb (w:World) (base g mb:Nat) (l:U0) (a n:Nat) (pv:Value):Prop where
 at0:w.heap[g]?=some (.cells #[.map (some mb),pv] 314 (0,0))
 map:Qy w prog 365 3 mb n (KW l a)
 prev:Ow w base eZ pv (Jl l a)
 up:base<=g
 up2:base<=mb
def Rv(o:Option Nat):Int:=match o with | some q=>(q:Int) | none=>-1
section
variable {w0 w W:World} {base g mb a n B:Nat} {l:U0} {pv:Value}
end
