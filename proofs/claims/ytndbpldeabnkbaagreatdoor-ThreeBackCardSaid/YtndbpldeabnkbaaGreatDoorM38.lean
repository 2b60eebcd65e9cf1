/- Lemmas for ThreeTurned. -/
import Derived.Deep.RegionHeldLaw
import Derived.Test.YtndbpldeabnkbaaGreatDoorM21
set_option linter.all false
set_option maxHeartbeats 8000000
namespace Go.Proofs.YtndbpldeabnkbaaGreatDoor
open Go.RowKit Go.Fk
def Rl:Op:=.load 30 (.tmp 50)
attribute [local go_sem] Rl
def Yq(M:Z0)(C a:Nat):Z0:=(M.take ((a+1)*C)).drop (a*C)
def Am{P:Program}{A:Func}{p q r s:Tmp}{e:TypeId}(h:A.results=#[.cell p e,.tmp q,.tmp r,.tmp s])(tmps:Array Value)(w:World)(g:Nat)(t:TypeId)(m:Array Value)(D:Nat × Nat)(d:TypeDesc)(o z v3:Value)
  (hp:tmps.getD p undef=.pointer (some ⟨g,0,none⟩)) (hq:tmps.getD q undef=o) (hr:tmps.getD r undef=z) (hs:tmps.getD s undef=v3) (hg:w.heap[g]?=some (.cells m t D))
  (hu:P.underlying e=some d) (hd:(match d with | .struct _ | .array _ _=>true | _=>false)=true) (hi:(P.info? e).map (·.size)=some m.size) :
  (results A tmps).run P w=.ok (.tuple #[.agg m,o,z,v3]) w:=by
 have F:tmps[p]?.getD undef=.pointer (some ⟨g,0,none⟩):=by simpa using hp
 have G:tmps[q]?.getD undef=o:=by simpa using hq
 have I:tmps[r]?.getD undef=z:=by simpa using hr
 have J:tmps[s]?.getD undef=v3:=by simpa using hs
 simp[results,h,F,G,I,J,asAddr,vY w g t e m D d hg hu hd hi]
abbrev aY:Array Value:=#[.int .i64 0,.bool false,.int .i64 0,.int .i64 0,.int .i64 0,.int .i64 0]
