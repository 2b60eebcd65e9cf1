/- Parts of the proof of ArchVersions: O1 O2. -/
import Derived.Test.YtghcmindankceaaGreatDoorM01
import Derived.Test.YtghcmindankceaaGreatDoorM10
set_option linter.unusedVariables false
set_option linter.unusedSectionVars false
set_option linter.unusedSimpArgs false
set_option maxHeartbeats 8000000
namespace Go.Proofs.YtghcmindankceaaGreatDoor
open Go.RowKit Go.Fk
structure Opt where
 b:Int
 plain:Bool
 bu:Int
 d:Int
 p:Int
 c:Int
abbrev optV(o:Opt):Value:=.agg #[.int .i64 o.b,.bool o.plain,.int .i64 o.bu,.int .i64 o.d,.int .i64 o.p,.int .i64 o.c]
def stripB(o:Opt):Bool:=decide (1<=o.d/\o.d<=255) && (decide (0<=o.p/\o.p<=255 - o.d) && decide (1<=o.c/\o.c<=4096))
def opt3(o:Opt):Bool:=decide (16<=o.b/\o.b<=32768) && (stripB o && decide (1<=o.bu/\o.bu<=64))
set_option maxRecDepth 100000
theorem ow_any(x lo hi:Int)(w:World):Calls Tryz.prog 53 #[.int .i64 x,.int .i64 lo,.int .i64 hi] w fun e w'=>e=.returned (.bool (decide (lo<=x/\x<=hi)))/\w=w':=by
 generalize hR:decide (lo<=x/\x<=hi)=R
 have HR:=hid hR
 clear hR
 by_cases h1:lo<=x
 · by_cases h2:x<=hi
   · have HE:Hid (R=true):=by show _=_;rw [<- HR.out];exact decide_eq_true ⟨h1,h2⟩
     go_enter Tryz.func53, Tryz.ntmps53
     go_wp2_with fail
     go_ret
     exact⟨by rw [HE.out];rfl,rfl⟩
   · have HE:Hid (R=false):=by show _=_;rw [<- HR.out];exact decide_eq_false (fun h=>h2 h.2)
     go_enter Tryz.func53, Tryz.ntmps53
     go_wp2_with fail
     go_ret
     exact⟨by rw [HE.out];rfl,rfl⟩
 · have HE:Hid (R=false):=by show _=_;rw [<- HR.out];exact decide_eq_false (fun h=>h1 h.1)
   go_enter Tryz.func53, Tryz.ntmps53
   go_wp2_with fail
   go_ret
   exact⟨by rw [HE.out];rfl,rfl⟩
set_option maxRecDepth 512
def opt2(o:Opt):Bool:=decide (16<=o.b/\o.b<=32768) && decide (1<=o.bu/\o.bu<=64)
end Go.Proofs.YtghcmindankceaaGreatDoor
