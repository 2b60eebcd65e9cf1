/- Parts of the proof of ArchEnds: T7 Tr4. -/
import Derived.Test.YtfpijnhhdfoohaaGreatDoorM40
import Derived.Test.YtfpijnhhdfoohaaGreatDoorM19
import Derived.Test.YtfpijnhhdfoohaaGreatDoorM17
import Derived.Test.YtfpijnhhdfoohaaGreatDoorM10
import Derived.Test.YtfpijnhhdfoohaaGreatDoorM11
import Derived.Test.YtfpijnhhdfoohaaGreatDoorM29
import Derived.Test.YtfpijnhhdfoohaaGreatDoorM16
set_option linter.unusedVariables false
set_option linter.unusedSectionVars false
set_option linter.unusedSimpArgs false
set_option maxHeartbeats 8000000
namespace Go.Proofs.YtfpijnhhdfoohaaGreatDoor
open Go.RowKit Go.Fk
theorem wK{P:Program}{A:Func}{p q r s:Tmp}{e:TypeId}(h:A.results=#[.cell p e,.tmp q,.tmp r,.tmp s])(tmps:Array Value)(w:World)(g:Nat)(t:TypeId)(m:Array Value)(B:Nat × Nat)(d:TypeDesc)(o z v3:Value)
  (hp:tmps.getD p undef=.pointer (some ⟨g,0,none⟩)) (hq:tmps.getD q undef=o) (hr:tmps.getD r undef=z) (hs:tmps.getD s undef=v3) (hg:w.heap[g]?=some (.cells m t B))
  (hu:P.underlying e=some d) (hd:(match d with | .struct _ | .array _ _=>true | _=>false)=true) (hi:(P.info? e).map (·.size)=some m.size) :
  (results A tmps).run P w=.ok (.tuple #[.agg m,o,z,v3]) w:=by
 have D:tmps[p]?.getD undef=.pointer (some ⟨g,0,none⟩):=by simpa using hp
 have F:tmps[q]?.getD undef=o:=by simpa using hq
 have G:tmps[r]?.getD undef=z:=by simpa using hr
 have I:tmps[s]?.getD undef=v3:=by simpa using hs
 simp [results,h,D,F,G,I,asAddr,rq w g t e m B d hg hu hd hi]
abbrev aq:Array Value:=#[.int .i64 0,.bool false,.int .i64 0,.int .i64 0,.int .i64 0,.int .i64 0]
end Go.Proofs.YtfpijnhhdfoohaaGreatDoor
