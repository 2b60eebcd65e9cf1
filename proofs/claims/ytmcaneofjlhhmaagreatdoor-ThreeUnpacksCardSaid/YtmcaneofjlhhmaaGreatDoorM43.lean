/- Lemmas. -/
import Derived.Test.YtmcaneofjlhhmaaGreatDoorM38
import Derived.Test.YtmcaneofjlhhmaaGreatDoorM17
set_option linter.all false
set_option maxHeartbeats 8000000
namespace Go.Proofs
open RowKit Fk
def MJ(n:Nat)(l:List U0):U0:=(bE l.length++((ml l n).map λc=>bE (Er c).length).flatten)++((ml l n).map Er).flatten
attribute [local go_sem] sE
section
variable {P:Program} {α:Type} {w:World} {base:Nat} {v:Value} {l:List α} {F:Fence} {nF:Nat}
end
abbrev RE : Array Oper := #[{ dst := some 31, op := Op.load 22 (Operand.tmp 6), type := 22, pos := "dict.go:70", after := #[], guard := none },
  { dst := some 32, op := Op.move (Operand.tmp 9), type := 22, pos := "dict.go:70", after := #[], guard := none },
  { dst := some 33, op := Op.call { callee := Callee.builtin Builtin.len, args := #[Operand.tmp 32], argTypes := #[22] }, type := 3, pos := "dict.go:70", after := #[{ on := 1, ground := Ground.data }], guard := none },
  { dst := some 34, op := Op.convert 3 52 (Operand.tmp 33), type := 52, pos := "dict.go:70", after := #[{ on := 2, ground := Ground.data }], guard := none },
  { dst := some 35, op := Op.call { callee := Callee.value (Operand.func 97), args := #[Operand.tmp 34], argTypes := #[52] }, type := 22, pos := "dict.go:70", after := #[{ on := 3, ground := Ground.data }], guard := none },
  { dst := some 36, op := Op.call { callee := Callee.builtin Builtin.append, args := #[Operand.tmp 31, Operand.tmp 35], argTypes := #[22, 22] }, type := 22, pos := "dict.go:70", after := #[{ on := 0, ground := Ground.data }, { on := 4, ground := Ground.data }, { on := 4, ground := Ground.chain }], guard := none },
  { dst := none, op := Op.store 22 (Operand.tmp 6) (Operand.tmp 36), type := 0, pos := "dict.go:70", after := #[{ on := 5, ground := Ground.data }, { on := 5, ground := Ground.chain }, { on := 0, ground := Ground.phase }, { on := 1, ground := Ground.phase }, { on := 2, ground := Ground.phase }, { on := 3, ground := Ground.phase }, { on := 4, ground := Ground.phase }, { on := 5, ground := Ground.phase }], guard := none }]
abbrev RF(n d m:Nat)(e:Option Addr)(h:Nat)(o:Option Addr)(p H:Nat)(q z A D G I J K L M O Q R U:Value):Act:=
 { tmps:=#[N n,.slice e d h,undef,undef,.slice none 0 0,.int .i64 0,.pointer (some ⟨H,0,none⟩),.pointer (some ⟨H+1,0,none⟩),z,A,N n,.bool false,.bool false,N n,.bool false,.bool false,.bool false,.slice e d h,.bool true,.bool false,.bool false,.slice e d h,.int .i64 (d:Int),.int .u64 (d:Int),.slice o m p,.slice e d h,N n,.func (.func 233) #[] #[.pointer (some ⟨H+1+1,0,none⟩),.pointer (some ⟨H+1+1+1,0,none⟩)],q,D,G,I,J,K,L,M,O,Q,R,U,undef,undef,undef,undef],defers:=[] }
attribute [local go_sem] sE
def RZ{α:Type}(h:World)(H B n:Nat)(m:Value)(o:U0)(p q:α->U0)(f:List α)(W:World):Prop:=
 ∃e d,W.heap[H]?=some (.cells #[e] 22 (0,0))/\W.heap[H+1]?=some (.cells #[d] 22 (0,0))/\W.heap[H+1+1]?=some (.cells #[m] 44 (0,0))/\W.heap[H+1+1+1]?=some (.cells #[N n] 3 (0,0)) /\
  Ow W B eB e (o++(f.map p).flatten)/\Ow W B eB d (f.map q).flatten/\(d.ownBlock=none\/d.ownBlock≠e.ownBlock)/\Fr h W
