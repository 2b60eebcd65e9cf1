/- Lemmas. -/
import Derived.Test.YtmcaneofjlhhmaaGreatDoorM01
import Derived.Test.YtmcaneofjlhhmaaGreatDoorM11
set_option linter.all false
set_option maxHeartbeats 8000000
namespace Go.Proofs
open RowKit Fk Tryz
def DJ(w:World)(g n cap:Nat)(f:Nat->Nat):Prop:=Ow w 0 eJ (.slice (some ⟨g,0,none⟩) n cap) ((List.range n).map f)
section
variable {w w':World} {g n cap:Nat} {f f':Nat->Nat}
end
def Ni(a b:Nat):Int:=if a<b then -1 else if b<a then 1 else 0
structure Sa (k:Nat) (caps:Array Value) (g:Nat) (key:Nat->Nat) (ok:Nat->Prop) (I:World->Prop):Prop where
 ent:∀args w,(callFunc k args).run prog w=.ok (.enter k args) w
 stay:∀ {w w'},I w->ag (λb=>b=g) w w'->I w'
 call:∀ {w} (x y:Nat),I w->ok x->ok y->Calls prog k (#[N x,N y]++caps) w λe w'=>e=.returned (.int .i64 (Ni (key x) (key y)))/\∃m,w'=w.drewN m
def RQ(k:Nat)(h:Array Value)(g n cap:Nat)(d:Nat->Nat)(o:Nat->Prop)(I:World->Prop)(a m b:Nat):Prop:=
 ∀(f : Nat → Nat) (w : World), DJ w g n cap f → I w → (∀p, a ≤ p → p < b → o (f p)) → QZ f a m b → yY d f a m → yY d f m b →
  Calls prog 341 #[.slice (some ⟨g,0,none⟩) n cap,N a,N m,N b,.func (.func k) #[] h] w λe w'=>e=.returned (.tuple #[])/\∃f',DJ w' g n cap f'/\ES f f' a b/\yY d f' a b/\ag (λk=>k=g) w w'
def eV:aJ prog Nat:=⟨153,1,4,0,.int .u32 0,λn=>[.int .u32 (n:Int)],by kernel_rfl,δ,δ,by simp[Value.cells],λ_=>rfl,by intro x u d;simp at d;subst d;rfl⟩
def Hj(d:List Nat):List Nat:=(List.range d.length).filter λs=>decide (0<d.getD s 0)
def Rj(d:List Nat)(k:Nat):List Nat:=(List.range k).filter λs=>decide (0<d.getD s 0)
def rq(d:List Nat):List Nat:=Gr (λs=>d.getD s 0) (Hj d)
