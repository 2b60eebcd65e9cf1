/- Lemmas for ThreeTurned. -/
import Derived.Test.YtndbpldeabnkbaaGreatDoorM34
import Derived.Lib.SmallJoins
set_option linter.all false
set_option maxHeartbeats 8000000
set_option maxRecDepth 100000
namespace Go.Fk
abbrev bFQd:=@Go.bodyPost_ret
end Go.Fk
namespace Go.Proofs.YtndbpldeabnkbaaGreatDoor
open Go.RowKit Go.Fk
def fW:Z0:=[70,73,82,75,3]
abbrev vj(w:World):World:=(w.alloc (.cells #[.int .u8 70,.int .u8 73,.int .u8 82,.int .u8 75] 5 (4,5))).alloc (.cells #[.int .u8 3] 5)
def Qs(w:World):∃v w',(Builtin.append_ #[30,30] 30 #[.slice (some ⟨w.heap.size,0,none⟩) 4 4,.slice (some ⟨w.heap.size+1,0,none⟩) 1 1]).run Tryz.prog (vj w)=.ok v w'/\Ow w' w.heap.size eB v fW/\Fr w w':=by
 obtain⟨i,o,z,A,D⟩:=pf eB.info;have h:(w.alloc (.cells #[.int .u8 70,.int .u8 73,.int .u8 82,.int .u8 75] 5 (4,5))).heap.size=w.heap.size+1:=σ
 obtain ⟨v, w', F, G, I⟩ := run_append_arg_grows (P := Tryz.prog) (vj w) 30 30 eB.e i eB.z eB.k eB.bytes Tryz.underlying30 o z A D rfl (by decide) ⟨w.heap.size, 0, none⟩ 4 4 (eB.cells [70, 73, 82, 75]) rfl (by
     intro j u d;rw[mY, iH];have e : (vj w).heap[w.heap.size]? = some (.cells #[.int .u8 70, .int .u8 73, .int .u8 82, .int .u8 75] 5 (4, 5)) := (by rw[jk _ _ _ (by rw[h]; omega)]; exact aB _ _ _ rfl);rw[aK e];have m := (pD.1 d).1;have m : j < 4 := m;rw[← Array.getElem?_toList]
     exact d) ⟨w.heap.size + 1, 0, none⟩ 1 1 (eB.cells [3]) rfl (by
     intro j u d;rw[mY, iH];have e : (vj w).heap[w.heap.size + 1]? = some (.cells #[.int .u8 3] 5 (0, 0)) := aB _ _ _ h.symm;rw[aK e, ← Array.getElem?_toList]
     exact d) ω (by unfold maxLen; omega) δ
 refine⟨v,w',F,?_,?_⟩;·have:Ow w' (vj w).heap.size eB v fW:=G;exact this.rebase (by simp;omega)
 ·exact ai.below (((Fr.refl w).alloc _).alloc _) (nA I) (by simp;omega) (λq J=>by cases J)
def Xn(w:World):Calls Tryz.prog 85 #[.int .i64 3] w λe w'=>∃v,e=.returned (.tuple #[v,.int .i64 0])/\Ow w' w.heap.size eB v fW/\Fr w w':=by
 have d:=ad (pN 3 1 3);rw[show(decide ((1:Int)<=3/\(3:Int)<=3))=true from rfl]at d
 have F:(convert 30 30 (.slice (some ⟨w.heap.size,0,none⟩) 4 4)).run Tryz.prog (w.alloc (.cells #[.int .u8 70,.int .u8 73,.int .u8 82,.int .u8 75] 5))=.ok (.slice (some ⟨w.heap.size,0,none⟩) 4 4) (w.alloc (.cells #[.int .u8 70,.int .u8 73,.int .u8 82,.int .u8 75] 5 (4,5))):=
  Go.Joins.run_convert_bytes_const_at w 30 5 #[.int .u8 70,.int .u8 73,.int .u8 82,.int .u8 75] 4 4 w.heap.size rfl Tryz.underlying30 Tryz.underlying5
 obtain⟨v,w4,m,h,o⟩:=Qs w;obtain⟨z,D,rfl⟩:=h.shape';go_in;go_wp2_with fail;refine(d.out _).mono ?_;rintro e G ⟨rfl,rfl⟩;go_wp2_with (at_builtin;refine Lib.wpList_append_run _ rfl (.tmp 8) (.tmp 11) 30 30 rfl _ _ rfl rfl _ _ m ?_);exact bFQd (v:=.tuple #[.slice z fW.length D,.int .i64 0]) (by simp[results,Tryz.results85,go_sem, *]) rfl ⟨_,rfl,h,o⟩
def P4(o:dV):Bool:=decide (16<=o.b/\o.b<=32768)
def FH(c:UInt8):Z0:=[70,73,82,75,c]
abbrev Yz(c:UInt8)(w:World):World:=(w.alloc (.cells #[.int .u8 70,.int .u8 73,.int .u8 82,.int .u8 75] 5 (4,5))).alloc (.cells #[.int .u8 (c.toNat:Int)] 5)
def Yv(o:dV):Bool:=P4 o && decide (o.bu=0/\o.d=0/\o.p=0/\o.c=0)
def Yu(o:dV):Bool:=jN o && decide (o.d=0/\o.p=0/\o.c=0)
