/- Parts of the proof of ArchEnds: We3 We4 We5. -/
import Derived.Test.YtfpijnhhdfoohaaGreatDoorM38
import Derived.Test.YtfpijnhhdfoohaaGreatDoorM18
set_option linter.unusedVariables false
set_option linter.unusedSectionVars false
set_option linter.unusedSimpArgs false
set_option maxHeartbeats 8000000
namespace Go.Proofs.YtfpijnhhdfoohaaGreatDoor
open Go.RowKit Go.Fk
def OG(n:Nat)(l:List (List UInt8)):List UInt8:=(bI l.length++((DA l n).map fun c=>bI (Ee c).length).flatten)++((DA l n).map Ee).flatten
attribute [local go_sem] vn
section
variable {P:Program} {α:Type} {w:World} {base:Nat} {v:Value} {l:List α} {F:Fence} {nF:Nat}
end
abbrev Ti : Array Oper := #[{ dst := some 31, op := Op.load 22 (Operand.tmp 6), type := 22, pos := "dict.go:70", after := #[], guard := none },
 { dst := some 32, op := Op.move (Operand.tmp 9), type := 22, pos := "dict.go:70", after := #[], guard := none },
 { dst := some 33, op := Op.call { callee := Callee.builtin Builtin.len, args := #[Operand.tmp 32], argTypes := #[22] }, type := 3, pos := "dict.go:70", after := #[{ on := 1, ground := Ground.data }], guard := none },
 { dst := some 34, op := Op.convert 3 38 (Operand.tmp 33), type := 38, pos := "dict.go:70", after := #[{ on := 2, ground := Ground.data }], guard := none },
 { dst := some 35, op := Op.call { callee := Callee.value (Operand.func 33), args := #[Operand.tmp 34], argTypes := #[38] }, type := 22, pos := "dict.go:70", after := #[{ on := 3, ground := Ground.data }], guard := none },
 { dst := some 36, op := Op.call { callee := Callee.builtin Builtin.append, args := #[Operand.tmp 31, Operand.tmp 35], argTypes := #[22, 22] }, type := 22, pos := "dict.go:70", after := #[{ on := 0, ground := Ground.data }, { on := 4, ground := Ground.data }, { on := 4, ground := Ground.chain }], guard := none },
 { dst := none, op := Op.store 22 (Operand.tmp 6) (Operand.tmp 36), type := 0, pos := "dict.go:70", after := #[{ on := 5, ground := Ground.data }, { on := 5, ground := Ground.chain }, { on := 0, ground := Ground.phase }, { on := 1, ground := Ground.phase }, { on := 2, ground := Ground.phase }, { on := 3, ground := Ground.phase }, { on := 4, ground := Ground.phase }, { on := 5, ground := Ground.phase }], guard := none }]
abbrev Tj(n d m:Nat)(e:Option Addr)(h:Nat)(o:Option Addr)(q H:Nat)(z A B D G I J K L M O Q R U:Value):Act:=
 { tmps:=#[N n,.slice e d h,undef,undef,.slice none 0 0,.int .i64 0,.pointer (some ⟨H,0,none⟩),.pointer (some ⟨H+1,0,none⟩),A,B,N n,.bool false,.bool false,N n,.bool false,.bool false,.bool false,.slice e d h,.bool true,.bool false,.bool false,.slice e d h,.int .i64 (d:Int),.int .u64 (d:Int),.slice o m q,.slice e d h,N n,.func (.func 185) #[] #[.pointer (some ⟨H+1+1,0,none⟩),.pointer (some ⟨H+1+1+1,0,none⟩)],z,D,G,I,J,K,L,M,O,Q,R,U,undef,undef,undef,undef],defers:=[] }
attribute [local go_sem] vn
def Ts{α:Type}(m:World)(H B n:Nat)(o:Value)(q:List UInt8)(z A:α->List UInt8)(h:List α)(W:World):Prop:=
 ∃ e d,W.heap[H]?=some (.cells #[e] 22 (0,0))/\W.heap[H+1]?=some (.cells #[d] 22 (0,0))/\W.heap[H+1+1]?=some (.cells #[o] 107 (0,0))/\W.heap[H+1+1+1]?=some (.cells #[N n] 3 (0,0)) /\
  Ow W B eB e (q++(h.map z).flatten)/\Ow W B eB d (h.map A).flatten/\(d.ownBlock=none\/d.ownBlock≠e.ownBlock)/\Fr m W
end Go.Proofs.YtfpijnhhdfoohaaGreatDoor
