/- Lemmas. -/
import Derived.Test.YtmcaneofjlhhmaaGreatDoorRows
import Derived.Test.YtmcaneofjlhhmaaGreatDoorM08
import Derived.ProofKit
import Derived.Deep.DeepHandedRow
import Derived.Lib.LaidTab
set_option linter.all false
set_option maxHeartbeats 8000000
namespace Go.Proofs.YtmcaneofjlhhmaaGreatDoor
open Go.ChangeShapes Go.WideShapes Go.ChangeAt Go.RowKit Go.Fk
def He{W:World}{d:String}{k:IntKind}{f:List Int}{rest:List (String × DataW Unit)}{g:Nat}{t e:TypeId}{n:Nat}{m:List MemPlace}
  (hg:Tryz.prog.globalNamed d=some g) (hty:(Tryz.prog.globals[g]?).map (·.type)=some t) (ht:Tryz.prog.underlying t=some (.array n e)) (he:Tryz.prog.underlying e=some (.int k)) (hce:Tryz.prog.cellsOf e=1) (hct:Tryz.prog.cellsOf t=n)
  (h:DataW.LaidVars Tryz.prog W ((d,Lib.tabData k f)::rest) m):Lib.TabIs Tryz.prog W d k f:=by
 obtain⟨F,G,I,J,p,q,o,z,A,D,_,_⟩:=h;obtain rfl:=lM (hg.symm.trans o);obtain rfl:=lM (hty.symm.trans z);unfold Lib.TabIs;rw[A,<- Lib.cells_of_tab ht he hce hct D]
def Ds:Tryz.prog.globalNamed "firkin/crc.shifted"=some 0:=by kernel_rfl
def MT{W:World}{e:List MemPlace}{rest:List (String × DataW Unit)}(h:DataW.LaidVars Tryz.prog W (("firkin/crc.shifted",Rows.laid_firkin_crc_shifted)::rest) e):dm W:=by
 have t:Lib.TabIs Tryz.prog W "firkin/crc.shifted" .u32 [0,498536548,997073096,651767980,1994146192,1802195444,1303535960,1342533948,3988292384,4027552580,3604390888,3412177804,2607071920,2262029012,2685067896,3183342108]:=He Ds (by kernel_rfl) Tryz.underlying317 Tryz.underlying153 (by kernel_rfl) (by kernel_rfl) h;intro i d;rw[t.cell Ds i (by simpa using d)]
 match i,d with
 | 0,_=>rfl
 | 1,_=>rfl
 | 2,_=>rfl
 | 3,_=>rfl
 | 4,_=>rfl
 | 5,_=>rfl
 | 6,_=>rfl
 | 7,_=>rfl
 | 8,_=>rfl
 | 9,_=>rfl
 | 10,_=>rfl
 | 11,_=>rfl
 | 12,_=>rfl
 | 13,_=>rfl
 | 14,_=>rfl
 | 15,_=>rfl
 | n+16,h=>exact absurd h ω
def KX(h:Array Obj):Array Obj:=
 h.modify 0 (λ| .cells _ t f=>.cells #[.int .u32 0,.int .u32 498536548,.int .u32 997073096,.int .u32 651767980,.int .u32 1994146192,.int .u32 1802195444,.int .u32 1303535960,.int .u32 1342533948,.int .u32 3988292384,.int .u32 4027552580,.int .u32 3604390888,.int .u32 3412177804,.int .u32 2607071920,.int .u32 2262029012,.int .u32 2685067896,.int .u32 3183342108] t f | o=>o)
noncomputable def xO (os:Os) (args:Array Value):World:={ World.holding Tryz.prog os ⟨#[],#[],[]⟩with heap:=KX (World.holding Tryz.prog os ⟨#[],#[],[]⟩).heap }
