/- Parts of the proof of ArchEnds: O3 U2. -/
import Derived.Test.YtfpijnhhdfoohaaGreatDoorM30
import Derived.Lib.SmallJoins
import Derived.Lib.SliceRun
import Derived.Lib.AppendZeros
set_option linter.unusedVariables false
set_option linter.unusedSectionVars false
set_option linter.unusedSimpArgs false
set_option maxHeartbeats 8000000
set_option maxRecDepth 100000
namespace Go.Fk
abbrev aLQd:=@Go.bodyPost_ret
end Go.Fk
namespace Go.Proofs.YtfpijnhhdfoohaaGreatDoor
open Go.RowKit Go.Fk
def LJ:List UInt8:=[70,73,82,75,3]
abbrev Tb(w:World):World:=(w.alloc (.cells #[.int .u8 70,.int .u8 73,.int .u8 82,.int .u8 75] 5 (4,5))).alloc (.cells #[.int .u8 3] 5)
def qF(o:dN):Bool:=decide (16<=o.b/\o.b<=32768)
theorem EC(o:dN)(d:o.bu=0/\o.d=0/\o.p=0/\o.c=0)(w:World):Calls Tryz.prog 28 #[.int .i64 1,cS o] w fun e q=>e=.returned (.int .i64 (if qF o then 0 else 9))/\Fr w q:=by
 have h:=ad (mR o.b 16 32768);have m:Hid ((if qF o then(0:Int)else 9)=if(decide (16<=o.b/\o.b<=32768))=true then 0 else 9):=rfl;generalize decide (16<=o.b/\o.b<=32768)=z at *;generalize (if qF o then(0:Int)else 9)=R at *;obtain⟨A,B,D,F,op,G⟩:=o;simp only at h d;obtain⟨rfl,rfl,rfl,rfl⟩:=d;go_enter Tryz.func28, Tryz.ntmps28;go_wp2_with fail;refine(h.out _).mono ?_;rintro e I ⟨rfl,rfl⟩;cases z;· go_wp2_with fail;go_ret;exact⟨by rw [m.out];rfl,((Fr.refl w).alloc _).alloc _⟩
 · go_wp2_with fail;go_ret;exact⟨by rw [m.out];rfl,((Fr.refl w).alloc _).alloc _⟩
def mU(c:UInt8):List UInt8:=[70,73,82,75,c]
abbrev rZ(c:UInt8)(w:World):World:=(w.alloc (.cells #[.int .u8 70,.int .u8 73,.int .u8 82,.int .u8 75] 5 (4,5))).alloc (.cells #[.int .u8 (c.toNat:Int)] 5)
theorem LI(c:UInt8)(w:World):∃ v d,(Builtin.append_ #[22,22] 22 #[.slice (some ⟨w.heap.size,0,none⟩) 4 4,.slice (some ⟨w.heap.size+1,0,none⟩) 1 1]).run Tryz.prog (rZ c w)=.ok v d/\Ow d w.heap.size eB v (mU c)/\Fr w d:=by
  obtain⟨i,z,A,B,D⟩:=nk eB.info;have m:(w.alloc (.cells #[.int .u8 70,.int .u8 73,.int .u8 82,.int .u8 75] 5 (4,5))).heap.size=w.heap.size+1:=(by simp);obtain ⟨v, d, F, G, I⟩ := run_append_arg_grows (P := Tryz.prog) (rZ c w) 22 22 eB.e i eB.z eB.k eB.bytes Tryz.underlying22 z A B D rfl (by decide) ⟨w.heap.size, 0, none⟩ 4 4 (eB.cells [70, 73, 82, 75]) rfl (by
      intro j u h;rw [ny, iX];have e : (rZ c w).heap[w.heap.size]? = some (.cells #[.int .u8 70, .int .u8 73, .int .u8 82, .int .u8 75] 5 (4, 5)) := (by rw [ig _ _ _ (by rw [m]; omega)]; exact a9 _ _ _ rfl);rw [aA e];have o := (r9.1 h).1;have o : j < 4 := o;rw [← Array.getElem?_toList]
      exact h) ⟨w.heap.size + 1, 0, none⟩ 1 1 (eB.cells [c]) rfl (by
      intro j u h;rw [ny, iX];have e : (rZ c w).heap[w.heap.size + 1]? = some (.cells #[.int .u8 (c.toNat : Int)] 5 (0, 0)) := a9 _ _ _ m.symm;rw [aA e, ← Array.getElem?_toList]
      exact h) (by omega) (by unfold maxLen; omega) (by decide)
  refine⟨v,d,F,?_,?_⟩;· have:Ow d (rZ c w).heap.size eB v (mU c):=G;exact this.rebase (by simp;omega)
  · exact ah.below (((Fr.refl w).alloc _).alloc _) (lL I) (by simp;omega) (fun q J=>by cases J)
theorem RZ(w:World):Calls Tryz.prog 31 #[.int .i64 1] w fun e h=>∃ v,e=.returned (.tuple #[v,.int .i64 0])/\Ow h w.heap.size eB v (mU 1)/\Fr w h:=by
 have m:=ad (mR 1 1 3);rw [show(decide ((1:Int)<=1/\(1:Int)<=3))=true from rfl]at m
 have D:(convert 22 22 (.slice (some ⟨w.heap.size,0,none⟩) 4 4)).run Tryz.prog (w.alloc (.cells #[.int .u8 70,.int .u8 73,.int .u8 82,.int .u8 75] 5))=.ok (.slice (some ⟨w.heap.size,0,none⟩) 4 4) (w.alloc (.cells #[.int .u8 70,.int .u8 73,.int .u8 82,.int .u8 75] 5 (4,5))):=
  Go.Joins.run_convert_bytes_const_at w 22 5 #[.int .u8 70,.int .u8 73,.int .u8 82,.int .u8 75] 4 4 w.heap.size rfl Tryz.underlying22 Tryz.underlying5
 obtain⟨v,w4,d,o,B⟩:=LI 1 w;obtain⟨q,z,rfl⟩:=o.shape';replace d:(Builtin.append_ #[22,22] 22 #[.slice (some ⟨w.heap.size,0,none⟩) 4 4,.slice (some ⟨w.heap.size+1,0,none⟩) 1 1]).run Tryz.prog ((w.alloc (.cells #[.int .u8 70,.int .u8 73,.int .u8 82,.int .u8 75] 5 (4,5))).alloc (.cells #[.int .u8 1] 5))=.ok (.slice q (mU 1).length z) w4:=d;go_enter Tryz.func31, Tryz.ntmps31;go_wp2_with fail;refine(m.out _).mono ?_;rintro e F ⟨rfl,rfl⟩;go_wp2_with (at_builtin;refine Lib.wpList_append_run _ rfl (.tmp 8) (.tmp 11) 22 22 rfl _ _ rfl rfl _ _ d ?_);exact aLQd (v:=.tuple #[.slice q (mU 1).length z,.int .i64 0]) (by simp [results,Tryz.results31,go_sem, *]) rfl ⟨_,rfl,o,B⟩
end Go.Proofs.YtfpijnhhdfoohaaGreatDoor
