/- Parts of the proof of ArchOne: O3 U2 Pa Pe. -/
import Derived.Test.YtdagmoonnbnceaaGreatDoorM37
import Derived.Lib.SmallJoins
import Derived.Lib.SliceRun
import Derived.Lib.AppendZeros
set_option linter.unusedVariables false
set_option linter.unusedSectionVars false
set_option linter.unusedSimpArgs false
set_option maxHeartbeats 8000000
set_option maxRecDepth 100000
namespace Go.Proofs.YtdagmoonnbnceaaGreatDoor
open Go.RowKit Go.Fk
def markB:List UInt8:=[70,73,82,75,3]
abbrev markW(w:World):World:=(w.alloc (.cells #[.int .u8 70,.int .u8 73,.int .u8 82,.int .u8 75] 5 (4,5))).alloc (.cells #[.int .u8 3] 5)
theorem mark_run(w:World):∃ v w',(Builtin.append_ #[27,27] 27 #[.slice (some ⟨w.heap.size,0,none⟩) 4 4,.slice (some ⟨w.heap.size+1,0,none⟩) 1 1]).run Tryz.prog (markW w)=.ok v w'/\Ow w' w.heap.size eB v markB/\Fr w w':=by
  obtain⟨i,hi,hz,h1,h2⟩:=info_parts eB.info
  have hs:(w.alloc (.cells #[.int .u8 70,.int .u8 73,.int .u8 82,.int .u8 75] 5 (4,5))).heap.size=w.heap.size+1:=by simp
  obtain ⟨v, w', hr, ho, hg⟩ := run_append_arg_grows (P := Tryz.prog) (markW w) 27 27 eB.e i eB.z eB.k eB.bytes Tryz.underlying27 hi hz h1 h2 rfl (by decide) ⟨w.heap.size, 0, none⟩ 4 4 (eB.cells [70, 73, 82, 75]) rfl (by
      intro j u hj
      rw [Addr.add_lit, Nat.zero_add]
      have e : (markW w).heap[w.heap.size]? = some (.cells #[.int .u8 70, .int .u8 73, .int .u8 82, .int .u8 75] 5 (4, 5)) := by
        rw [heap_old _ _ _ (by rw [hs]; omega)]; exact heap_new _ _ _ rfl
      rw [cell_of_heap e]
      have hj4 := (List.getElem?_eq_some_iff.1 hj).1
      have hj4 : j < 4 := hj4
      rw [← Array.getElem?_toList]
      exact hj) ⟨w.heap.size + 1, 0, none⟩ 1 1 (eB.cells [3]) rfl (by
      intro j u hj
      rw [Addr.add_lit, Nat.zero_add]
      have e : (markW w).heap[w.heap.size + 1]? = some (.cells #[.int .u8 3] 5 (0, 0)) := heap_new _ _ _ hs.symm
      rw [cell_of_heap e, ← Array.getElem?_toList]
      exact hj) (by omega) (by unfold maxLen; omega) (by decide)
  refine⟨v,w',hr,?_,?_⟩
  · have:Ow w' (markW w).heap.size eB v markB:=ho
    exact this.rebase (by simp;omega)
  · exact Chg.below (((Fr.refl w).alloc _).alloc _) (grown_chg hg) (by simp;omega) (fun q hq=>by cases hq)
theorem Mark_any(w:World):Calls Tryz.prog 25 #[.int .i64 3] w fun e w'=>∃ v,e=.returned (.tuple #[v,.int .i64 0])/\Ow w' w.heap.size eB v markB/\Fr w w':=by
 have H1:=hid (ow_any 3 1 3)
 rw [show(decide ((1:Int)<=3/\(3:Int)<=3))=true from rfl]at H1
 have hcv:(convert 27 27 (.slice (some ⟨w.heap.size,0,none⟩) 4 4)).run Tryz.prog (w.alloc (.cells #[.int .u8 70,.int .u8 73,.int .u8 82,.int .u8 75] 5))=.ok (.slice (some ⟨w.heap.size,0,none⟩) 4 4) (w.alloc (.cells #[.int .u8 70,.int .u8 73,.int .u8 82,.int .u8 75] 5 (4,5))):=
  Go.Joins.run_convert_bytes_const_at w 27 5 #[.int .u8 70,.int .u8 73,.int .u8 82,.int .u8 75] 4 4 w.heap.size rfl Tryz.underlying27 Tryz.underlying5
 obtain⟨v,w4,hr,own4,hf⟩:=mark_run w
 obtain⟨va,vc,rfl⟩:=own4.shape'
 go_enter Tryz.func25, Tryz.ntmps25
 go_wp2_with fail
 refine(H1.out _).mono ?_
 rintro e w1 ⟨rfl,rfl⟩
 go_wp2_with (at_builtin;refine Lib.wpList_append_run _ rfl (.tmp 8) (.tmp 11) 27 27 rfl _ _ rfl rfl _ _ hr ?_)
 exact bodyPost_ret (v:=.tuple #[.slice va markB.length vc,.int .i64 0]) (by simp [results,Tryz.results25,go_sem, *]) rfl ⟨_,rfl,own4,hf⟩
def opt1(o:Opt):Bool:=decide (16<=o.b/\o.b<=32768)
theorem OCheck1_any(o:Opt)(h0:o.bu=0/\o.d=0/\o.p=0/\o.c=0)(w:World):Calls Tryz.prog 22 #[.int .i64 1,optV o] w fun e w'=>e=.returned (.int .i64 (if opt1 o then 0 else 9))/\Fr w w':=by
 have H1:=hid (ow_any o.b 16 32768)
 have HS:Hid ((if opt1 o then(0:Int)else 9)=if(decide (16<=o.b/\o.b<=32768))=true then 0 else 9):=rfl
 generalize decide (16<=o.b/\o.b<=32768)=b1 at *
 generalize (if opt1 o then(0:Int)else 9)=R at *
 obtain⟨ob,opl,obu,od,op,oc⟩:=o
 simp only at H1 h0
 obtain⟨rfl,rfl,rfl,rfl⟩:=h0
 go_enter Tryz.func22, Tryz.ntmps22
 go_wp2_with fail
 refine(H1.out _).mono ?_
 rintro e w1 ⟨rfl,rfl⟩
 cases b1
 · go_wp2_with fail
   go_ret
   exact⟨by rw [HS.out];rfl,((Fr.refl w).alloc _).alloc _⟩
 · go_wp2_with fail
   go_ret
   exact⟨by rw [HS.out];rfl,((Fr.refl w).alloc _).alloc _⟩
def markO(c:UInt8):List UInt8:=[70,73,82,75,c]
abbrev markU(c:UInt8)(w:World):World:=(w.alloc (.cells #[.int .u8 70,.int .u8 73,.int .u8 82,.int .u8 75] 5 (4,5))).alloc (.cells #[.int .u8 (c.toNat:Int)] 5)
theorem marko_run(c:UInt8)(w:World):∃ v w',(Builtin.append_ #[27,27] 27 #[.slice (some ⟨w.heap.size,0,none⟩) 4 4,.slice (some ⟨w.heap.size+1,0,none⟩) 1 1]).run Tryz.prog (markU c w)=.ok v w'/\Ow w' w.heap.size eB v (markO c)/\Fr w w':=by
  obtain⟨i,hi,hz,h1,h2⟩:=info_parts eB.info
  have hs:(w.alloc (.cells #[.int .u8 70,.int .u8 73,.int .u8 82,.int .u8 75] 5 (4,5))).heap.size=w.heap.size+1:=by simp
  obtain ⟨v, w', hr, ho, hg⟩ := run_append_arg_grows (P := Tryz.prog) (markU c w) 27 27 eB.e i eB.z eB.k eB.bytes Tryz.underlying27 hi hz h1 h2 rfl (by decide) ⟨w.heap.size, 0, none⟩ 4 4 (eB.cells [70, 73, 82, 75]) rfl (by
      intro j u hj
      rw [Addr.add_lit, Nat.zero_add]
      have e : (markU c w).heap[w.heap.size]? = some (.cells #[.int .u8 70, .int .u8 73, .int .u8 82, .int .u8 75] 5 (4, 5)) := by
        rw [heap_old _ _ _ (by rw [hs]; omega)]; exact heap_new _ _ _ rfl
      rw [cell_of_heap e]
      have hj4 := (List.getElem?_eq_some_iff.1 hj).1
      have hj4 : j < 4 := hj4
      rw [← Array.getElem?_toList]
      exact hj) ⟨w.heap.size + 1, 0, none⟩ 1 1 (eB.cells [c]) rfl (by
      intro j u hj
      rw [Addr.add_lit, Nat.zero_add]
      have e : (markU c w).heap[w.heap.size + 1]? = some (.cells #[.int .u8 (c.toNat : Int)] 5 (0, 0)) := heap_new _ _ _ hs.symm
      rw [cell_of_heap e, ← Array.getElem?_toList]
      exact hj) (by omega) (by unfold maxLen; omega) (by decide)
  refine⟨v,w',hr,?_,?_⟩
  · have:Ow w' (markU c w).heap.size eB v (markO c):=ho
    exact this.rebase (by simp;omega)
  · exact Chg.below (((Fr.refl w).alloc _).alloc _) (grown_chg hg) (by simp;omega) (fun q hq=>by cases hq)
theorem Mark1_any(w:World):Calls Tryz.prog 25 #[.int .i64 1] w fun e w'=>∃ v,e=.returned (.tuple #[v,.int .i64 0])/\Ow w' w.heap.size eB v (markO 1)/\Fr w w':=by
 have H1:=hid (ow_any 1 1 3)
 rw [show(decide ((1:Int)<=1/\(1:Int)<=3))=true from rfl]at H1
 have hcv:(convert 27 27 (.slice (some ⟨w.heap.size,0,none⟩) 4 4)).run Tryz.prog (w.alloc (.cells #[.int .u8 70,.int .u8 73,.int .u8 82,.int .u8 75] 5))=.ok (.slice (some ⟨w.heap.size,0,none⟩) 4 4) (w.alloc (.cells #[.int .u8 70,.int .u8 73,.int .u8 82,.int .u8 75] 5 (4,5))):=
  Go.Joins.run_convert_bytes_const_at w 27 5 #[.int .u8 70,.int .u8 73,.int .u8 82,.int .u8 75] 4 4 w.heap.size rfl Tryz.underlying27 Tryz.underlying5
 obtain⟨v,w4,hr,own4,hf⟩:=marko_run 1 w
 obtain⟨va,vc,rfl⟩:=own4.shape'
 replace hr:(Builtin.append_ #[27,27] 27 #[.slice (some ⟨w.heap.size,0,none⟩) 4 4,.slice (some ⟨w.heap.size+1,0,none⟩) 1 1]).run Tryz.prog ((w.alloc (.cells #[.int .u8 70,.int .u8 73,.int .u8 82,.int .u8 75] 5 (4,5))).alloc (.cells #[.int .u8 1] 5))=.ok (.slice va (markO 1).length vc) w4:=hr
 go_enter Tryz.func25, Tryz.ntmps25
 go_wp2_with fail
 refine(H1.out _).mono ?_
 rintro e w1 ⟨rfl,rfl⟩
 go_wp2_with (at_builtin;refine Lib.wpList_append_run _ rfl (.tmp 8) (.tmp 11) 27 27 rfl _ _ rfl rfl _ _ hr ?_)
 exact bodyPost_ret (v:=.tuple #[.slice va (markO 1).length vc,.int .i64 0]) (by simp [results,Tryz.results25,go_sem, *]) rfl ⟨_,rfl,own4,hf⟩
def opt1g(o:Opt):Bool:=opt1 o && decide (o.bu=0/\o.d=0/\o.p=0/\o.c=0)
def opt2g(o:Opt):Bool:=opt2 o && decide (o.d=0/\o.p=0/\o.c=0)
theorem OC1_bad(o:Opt)(h:¬(o.bu=0/\o.d=0/\o.p=0/\o.c=0))(w:World):Calls Tryz.prog 22 #[.int .i64 1,optV o] w fun e w'=>e=.returned (.int .i64 9)/\Fr w w':=by
 have H1:=hid (ow_any o.b 16 32768)
 generalize decide (16<=o.b/\o.b<=32768)=b1 at *
 obtain⟨ob,opl,obu,od,op,oc⟩:=o
 simp only at H1 h
 go_enter Tryz.func22, Tryz.ntmps22
 go_wp2_with fail
 refine(H1.out _).mono ?_
 rintro e w1 ⟨rfl,rfl⟩
 cases b1
 · go_wp2_with fail
   go_ret
   exact⟨rfl,((Fr.refl w).alloc _).alloc _⟩
 · by_cases h1:obu=0
   · by_cases h2:od=0
     · by_cases h3:op=0
       · have h4:¬oc=0:=fun e=>h ⟨h1,h2,h3,e⟩
         clear h
         subst h1 h2 h3
         go_wp2_with fail
         go_ret
         exact⟨rfl,((Fr.refl w).alloc _).alloc _⟩
       · clear h
         subst h1 h2
         go_wp2_with fail
         go_ret
         exact⟨rfl,((Fr.refl w).alloc _).alloc _⟩
     · clear h
       subst h1
       go_wp2_with fail
       go_ret
       exact⟨rfl,((Fr.refl w).alloc _).alloc _⟩
   · clear h
     go_wp2_with fail
     go_ret
     exact⟨rfl,((Fr.refl w).alloc _).alloc _⟩
theorem OCheck1_gen(o:Opt)(w:World):Calls Tryz.prog 22 #[.int .i64 1,optV o] w fun e w'=>e=.returned (.int .i64 (if opt1g o then 0 else 9))/\Fr w w':=by
 by_cases h:o.bu=0/\o.d=0/\o.p=0/\o.c=0
 · have h1:opt1g o=opt1 o:=by unfold opt1g;rw [decide_eq_true h,Bool.and_true]
   rw [h1]
   exact OCheck1_any o h w
 · have h1:opt1g o=false:=by unfold opt1g;rw [decide_eq_false h,Bool.and_false]
   rw [h1]
   exact OC1_bad o h w
theorem OC2_bad(o:Opt)(h:¬(o.d=0/\o.p=0/\o.c=0))(w:World):Calls Tryz.prog 22 #[.int .i64 2,optV o] w fun e w'=>e=.returned (.int .i64 9)/\Fr w w':=by
 have H1:=hid (ow_any o.b 16 32768)
 have H3:=hid (ow_any o.bu 1 64)
 generalize decide (16<=o.b/\o.b<=32768)=b1 at *
 generalize decide (1<=o.bu/\o.bu<=64)=b3 at *
 obtain⟨ob,opl,obu,od,op,oc⟩:=o
 simp only at H1 H3 h
 go_enter Tryz.func22, Tryz.ntmps22
 go_wp2_with fail
 refine(H1.out _).mono ?_
 rintro e w1 ⟨rfl,rfl⟩
 cases b1
 · go_wp2_with fail
   go_ret
   exact⟨rfl,((Fr.refl w).alloc _).alloc _⟩
 · go_wp2_with fail
   refine(H3.out _).mono ?_
   rintro e w3 ⟨rfl,rfl⟩
   cases b3
   · go_wp2_with fail
     go_ret
     exact⟨rfl,((Fr.refl w).alloc _).alloc _⟩
   · by_cases h2:od=0
     · by_cases h3:op=0
       · have h4:¬oc=0:=fun e=>h ⟨h2,h3,e⟩
         clear h
         subst h2 h3
         go_wp2_with fail
         go_ret
         exact⟨rfl,((Fr.refl w).alloc _).alloc _⟩
       · clear h
         subst h2
         go_wp2_with fail
         go_ret
         exact⟨rfl,((Fr.refl w).alloc _).alloc _⟩
     · clear h
       go_wp2_with fail
       go_ret
       exact⟨rfl,((Fr.refl w).alloc _).alloc _⟩
theorem OCheck2_gen(o:Opt)(w:World):Calls Tryz.prog 22 #[.int .i64 2,optV o] w fun e w'=>e=.returned (.int .i64 (if opt2g o then 0 else 9))/\Fr w w':=by
 by_cases h:o.d=0/\o.p=0/\o.c=0
 · have h1:opt2g o=opt2 o:=by unfold opt2g;rw [decide_eq_true h,Bool.and_true]
   rw [h1]
   exact OCheck2_any o h w
 · have h1:opt2g o=false:=by unfold opt2g;rw [decide_eq_false h,Bool.and_false]
   rw [h1]
   exact OC2_bad o h w
theorem opt1g_iff(o:Opt):opt1g o=true↔16<=o.b/\o.b<=32768/\o.bu=0/\o.d=0/\o.p=0/\o.c=0:=by
 unfold opt1g opt1
 simp only [Bool.and_eq_true,decide_eq_true_eq]
 constructor
 · rintro⟨⟨a,b⟩,c⟩;exact⟨a,b,c⟩
 · rintro⟨a,b,c⟩;exact⟨⟨a,b⟩,c⟩
theorem opt2g_iff(o:Opt):opt2g o=true↔16<=o.b/\o.b<=32768/\1<=o.bu/\o.bu<=64/\o.d=0/\o.p=0/\o.c=0:=by
 unfold opt2g
 rw [Bool.and_eq_true,opt2_iff,decide_eq_true_eq]
 constructor
 · rintro⟨⟨a,b,c,d⟩,e⟩;exact⟨a,b,c,d,e⟩
 · rintro⟨a,b,c,d,e⟩;exact⟨⟨a,b,c,d⟩,e⟩
end Go.Proofs.YtdagmoonnbnceaaGreatDoor
