/- Lemmas. -/
import Derived.Test.YtmcaneofjlhhmaaGreatDoorM32
import Derived.Lib.SmallJoins
set_option linter.all false
set_option maxHeartbeats 8000000
set_option maxRecDepth 100000
namespace Go.Fk
abbrev aTQc:=@Go.bodyPost_ret
end Go.Fk
namespace Go.Proofs
open RowKit Fk Tryz
def mi:U0:=[70,73,82,75,3]
abbrev rL(w:World):World:=(w.alloc (.cells #[.int .u8 70,.int .u8 73,.int .u8 82,.int .u8 75] 5 (4,5))).alloc (.cells #[.int .u8 3] 5)
def Kx(w:World):∃v w',(Builtin.append_ #[22,22] 22 #[.slice (some ⟨w.heap.size,0,none⟩) 4 4,.slice (some ⟨w.heap.size+1,0,none⟩) 1 1]).run prog (rL w)=.ok v w'/\Ow w' w.heap.size eB v mi/\Fr w w':=by
 obtain⟨i,m,o,p,z⟩:=of eB.info;have f:(w.alloc (.cells #[.int .u8 70,.int .u8 73,.int .u8 82,.int .u8 75] 5 (4,5))).heap.size=w.heap.size+1:=σ
 obtain ⟨v, w', A, D, F⟩ := run_append_arg_grows (P := prog) (rL w) 22 22 eB.e i eB.z eB.k eB.bytes sJ m o p z rfl (by decide) ⟨w.heap.size, 0, none⟩ 4 4 (eB.cells [70, 73, 82, 75]) rfl (by
     intro j u d;rw[lw, jZ];have e : (rL w).heap[w.heap.size]? = some (.cells #[.int .u8 70, .int .u8 73, .int .u8 82, .int .u8 75] 5 (4, 5)) := (by rw[gn _ _ _ (by rw[f]; omega)]; exact aD _ _ _ rfl);rw[aG e];have h := (List.getElem?_eq_some_iff.1 d).1;have h : j < 4 := h;rw[← zC]
     exact d) ⟨w.heap.size + 1, 0, none⟩ 1 1 (eB.cells [3]) rfl (by
     intro j u d;rw[lw, jZ];have e : (rL w).heap[w.heap.size + 1]? = some (.cells #[.int .u8 3] 5 (0, 0)) := aD _ _ _ f.symm;rw[aG e, ← zC]
     exact d) ω (by unfold maxLen; omega) δ
 refine⟨v,w',A,?_,?_⟩;·have:Ow w' (rL w).heap.size eB v mi:=D;exact this.rebase (by simp;omega)
 ·exact ag.below (((Fr.refl w).alloc _).alloc _) (lK F) (by simp;omega) (λq G=>by cases G)
def Qx(w:World):Calls prog 114 #[.int .i64 3] w λe w'=>∃v,e=.returned (.tuple #[v,.int .i64 0])/\Ow w' w.heap.size eB v mi/\Fr w w':=by
 have d:=ad (mN 3 1 3);rw[show(decide ((1:Int)<=3/\(3:Int)<=3))=true from rfl]at d
 have p:(convert 22 22 (.slice (some ⟨w.heap.size,0,none⟩) 4 4)).run prog (w.alloc (.cells #[.int .u8 70,.int .u8 73,.int .u8 82,.int .u8 75] 5))=.ok (.slice (some ⟨w.heap.size,0,none⟩) 4 4) (w.alloc (.cells #[.int .u8 70,.int .u8 73,.int .u8 82,.int .u8 75] 5 (4,5))):=
  Go.Joins.run_convert_bytes_const_at w 22 5 #[.int .u8 70,.int .u8 73,.int .u8 82,.int .u8 75] 4 4 w.heap.size rfl sJ underlying5
 obtain⟨v,w4,m,h,o⟩:=Kx w;obtain⟨q,z,rfl⟩:=h.shape';go_in;go_wp2_with fail;refine(d.out _).mono ?_;rintro e D ⟨rfl,rfl⟩;go_wp2_with (at_builtin;refine Lib.wpList_append_run _ rfl (.tmp 8) (.tmp 11) 22 22 rfl _ _ rfl rfl _ _ m ?_);exact aTQc (by simp[results,results114,go_sem, *]) rfl ⟨_,rfl,h,o⟩
def Rw(o:fK):Bool:=decide (16<=o.b/\o.b<=32768)
def Ky(c:UInt8):U0:=[70,73,82,75,c]
abbrev R0(c:UInt8)(w:World):World:=(w.alloc (.cells #[.int .u8 70,.int .u8 73,.int .u8 82,.int .u8 75] 5 (4,5))).alloc (.cells #[.int .u8 (c.toNat:Int)] 5)
