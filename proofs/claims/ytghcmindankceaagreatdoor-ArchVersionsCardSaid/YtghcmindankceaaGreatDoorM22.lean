/- Parts of the proof of ArchVersions: O3 U2. -/
import Derived.Test.YtghcmindankceaaGreatDoorM21
import Derived.Lib.SmallJoins
import Derived.Lib.SliceRun
import Derived.Lib.AppendZeros
set_option linter.unusedVariables false
set_option linter.unusedSectionVars false
set_option linter.unusedSimpArgs false
set_option maxHeartbeats 8000000
namespace Go.Proofs.YtghcmindankceaaGreatDoor
open Go.RowKit Go.Fk
def markB:List UInt8:=[70,73,82,75,3]
abbrev markW(w:World):World:=(w.alloc (.cells #[.int .u8 70,.int .u8 73,.int .u8 82,.int .u8 75] 5 (4,5))).alloc (.cells #[.int .u8 3] 5)
def opt1(o:Opt):Bool:=decide (16<=o.b/\o.b<=32768)
set_option maxRecDepth 100000
theorem OCheck1_any(o:Opt)(h0:o.bu=0/\o.d=0/\o.p=0/\o.c=0)(w:World):Calls Tryz.prog 33 #[.int .i64 1,optV o] w fun e w'=>e=.returned (.int .i64 (if opt1 o then 0 else 9))/\Fr w w':=by
 have H1:=hid (ow_any o.b 16 32768)
 have HS:Hid ((if opt1 o then(0:Int)else 9)=if(decide (16<=o.b/\o.b<=32768))=true then 0 else 9):=rfl
 generalize decide (16<=o.b/\o.b<=32768)=b1 at *
 generalize (if opt1 o then(0:Int)else 9)=R at *
 obtain⟨ob,opl,obu,od,op,oc⟩:=o
 simp only at H1 h0
 obtain⟨rfl,rfl,rfl,rfl⟩:=h0
 go_enter Tryz.func33, Tryz.ntmps33
 go_wp2_with fail
 refine(H1.out _).mono ?_
 rintro e w1 ⟨rfl,rfl⟩
 cases b1
 · go_wp2_with fail
   go_ret
   exact⟨by rw [HS.out];rfl,((Fr.refl w).alloc _).alloc _⟩
 · go_wp2_with fail
   go_ret
   exact⟨by rw [HS.out];rfl,((Fr.refl w).alloc _).alloc _⟩
set_option maxRecDepth 512
def markO(c:UInt8):List UInt8:=[70,73,82,75,c]
abbrev markU(c:UInt8)(w:World):World:=(w.alloc (.cells #[.int .u8 70,.int .u8 73,.int .u8 82,.int .u8 75] 5 (4,5))).alloc (.cells #[.int .u8 (c.toNat:Int)] 5)
set_option maxRecDepth 100000
theorem marko_run(c:UInt8)(w:World):∃ v w',(Builtin.append_ #[22,22] 22 #[.slice (some ⟨w.heap.size,0,none⟩) 4 4,.slice (some ⟨w.heap.size+1,0,none⟩) 1 1]).run Tryz.prog (markU c w)=.ok v w'/\Ow w' w.heap.size eB v (markO c)/\Fr w w':=by
  obtain⟨i,hi,hz,h1,h2⟩:=info_parts eB.info
  have hs:(w.alloc (.cells #[.int .u8 70,.int .u8 73,.int .u8 82,.int .u8 75] 5 (4,5))).heap.size=w.heap.size+1:=by simp
  obtain ⟨v, w', hr, ho, hg⟩ := run_append_arg_grows (P := Tryz.prog) (markU c w) 22 22 eB.e i eB.z eB.k eB.bytes Tryz.underlying22 hi hz h1 h2 rfl (by decide) ⟨w.heap.size, 0, none⟩ 4 4 (eB.cells [70, 73, 82, 75]) rfl (by
      intro j u hj
      rw [Addr.add_lit, Nat.zero_add]
      have e : (markU c w).heap[w.heap.size]? = some (.cells #[.int .u8 70, .int .u8 73, .int .u8 82, .int .u8 75] 5 (4, 5)) := by
        rw [heap_old _ _ _ (by rw [hs]; omega)]; exact heap_new _ _ _ rfl
      rw [cell_of_heap e]
      have hj4 := (List.getElem?_eq_some_iff.1 hj).1
      have hj4 : j < 4 := hj4
      rw [← Array.getElem?_toList]
      exact hj) ⟨w.heap.size + 1, 0, none⟩ 1 1 (eB.cells [c]) rfl (by
      intro j u hj
      rw [Addr.add_lit, Nat.zero_add]
      have e : (markU c w).heap[w.heap.size + 1]? = some (.cells #[.int .u8 (c.toNat : Int)] 5 (0, 0)) := heap_new _ _ _ hs.symm
      rw [cell_of_heap e, ← Array.getElem?_toList]
      exact hj) (by omega) (by unfold maxLen; omega) (by decide)
  refine⟨v,w',hr,?_,?_⟩
  · have:Ow w' (markU c w).heap.size eB v (markO c):=ho
    exact this.rebase (by simp;omega)
  · exact Chg.below (((Fr.refl w).alloc _).alloc _) (grown_chg hg) (by simp;omega) (fun q hq=>by cases hq)
theorem Mark1_any(w:World):Calls Tryz.prog 114 #[.int .i64 1] w fun e w'=>∃ v,e=.returned (.tuple #[v,.int .i64 0])/\Ow w' w.heap.size eB v (markO 1)/\Fr w w':=by
 have H1:=hid (ow_any 1 1 3)
 rw [show(decide ((1:Int)<=1/\(1:Int)<=3))=true from rfl]at H1
 have hcv:(convert 22 22 (.slice (some ⟨w.heap.size,0,none⟩) 4 4)).run Tryz.prog (w.alloc (.cells #[.int .u8 70,.int .u8 73,.int .u8 82,.int .u8 75] 5))=.ok (.slice (some ⟨w.heap.size,0,none⟩) 4 4) (w.alloc (.cells #[.int .u8 70,.int .u8 73,.int .u8 82,.int .u8 75] 5 (4,5))):=
  Go.Joins.run_convert_bytes_const_at w 22 5 #[.int .u8 70,.int .u8 73,.int .u8 82,.int .u8 75] 4 4 w.heap.size rfl Tryz.underlying22 Tryz.underlying5
 obtain⟨v,w4,hr,own4,hf⟩:=marko_run 1 w
 obtain⟨va,vc,hv⟩:=own4.shape'
 subst hv
 replace hr:(Builtin.append_ #[22,22] 22 #[.slice (some ⟨w.heap.size,0,none⟩) 4 4,.slice (some ⟨w.heap.size+1,0,none⟩) 1 1]).run Tryz.prog ((w.alloc (.cells #[.int .u8 70,.int .u8 73,.int .u8 82,.int .u8 75] 5 (4,5))).alloc (.cells #[.int .u8 1] 5))=.ok (.slice va (markO 1).length vc) w4:=hr
 go_enter Tryz.func114, Tryz.ntmps114
 go_wp2_with fail
 refine(H1.out _).mono ?_
 rintro e w1 ⟨rfl,rfl⟩
 go_wp2_with (at_builtin;refine Lib.wpList_append_run _ rfl (.tmp 8) (.tmp 11) 22 22 rfl _ _ rfl rfl _ _ hr ?_)
 exact bodyPost_ret (v:=.tuple #[.slice va (markO 1).length vc,.int .i64 0]) (by simp [results,Tryz.results114,go_sem, *]) rfl ⟨_,rfl,own4,hf⟩
set_option maxRecDepth 512
end Go.Proofs.YtghcmindankceaaGreatDoor
