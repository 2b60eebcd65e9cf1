/- Parts of the proof of ArchOne: O1 O2. -/
import Derived.Test.YtdagmoonnbnceaaGreatDoorM01
import Derived.Test.YtdagmoonnbnceaaGreatDoorM04
set_option linter.unusedVariables false
set_option linter.unusedSectionVars false
set_option linter.unusedSimpArgs false
set_option maxHeartbeats 8000000
set_option maxRecDepth 100000
namespace Go.Proofs.YtdagmoonnbnceaaGreatDoor
open Go.RowKit Go.Fk
structure Opt where
 b:Int
 plain:Bool
 bu:Int
 d:Int
 p:Int
 c:Int
abbrev optV(o:Opt):Value:=.agg #[.int .i64 o.b,.bool o.plain,.int .i64 o.bu,.int .i64 o.d,.int .i64 o.p,.int .i64 o.c]
def stripB(o:Opt):Bool:=decide (1<=o.d/\o.d<=255) && (decide (0<=o.p/\o.p<=255 - o.d) && decide (1<=o.c/\o.c<=4096))
def opt3(o:Opt):Bool:=decide (16<=o.b/\o.b<=32768) && (stripB o && decide (1<=o.bu/\o.bu<=64))
theorem ow_any(x lo hi:Int)(w:World):Calls Tryz.prog 39 #[.int .i64 x,.int .i64 lo,.int .i64 hi] w fun e w'=>e=.returned (.bool (decide (lo<=x/\x<=hi)))/\w=w':=by
 generalize hR:decide (lo<=x/\x<=hi)=R
 have HR:=hid hR
 clear hR
 by_cases h1:lo<=x
 · by_cases h2:x<=hi
   · have HE:Hid (R=true):=by show _=_;rw [<- HR.out];exact decide_eq_true ⟨h1,h2⟩
     go_enter Tryz.func39, Tryz.ntmps39
     go_wp2_with fail
     go_ret
     exact⟨by rw [HE.out];rfl,rfl⟩
   · have HE:Hid (R=false):=by show _=_;rw [<- HR.out];exact decide_eq_false (fun h=>h2 h.2)
     go_enter Tryz.func39, Tryz.ntmps39
     go_wp2_with fail
     go_ret
     exact⟨by rw [HE.out];rfl,rfl⟩
 · have HE:Hid (R=false):=by show _=_;rw [<- HR.out];exact decide_eq_false (fun h=>h1 h.1)
   go_enter Tryz.func39, Tryz.ntmps39
   go_wp2_with fail
   go_ret
   exact⟨by rw [HE.out];rfl,rfl⟩
theorem stripes_any(o:Opt)(w:World):Calls Tryz.prog 41 #[optV o] w fun e w'=>e=.returned (.bool (stripB o))/\Fr w w':=by
 have H1:=hid (ow_any o.d 1 255)
 have H2:=hid (ow_any o.p 0 (255 - o.d))
 have H3:=hid (ow_any o.c 1 4096)
 have HS:Hid (stripB o=(decide (1<=o.d/\o.d<=255) && (decide (0<=o.p/\o.p<=255 - o.d) && decide (1<=o.c/\o.c<=4096)))):=rfl
 by_cases hd:1<=o.d/\o.d<=255
 · have hw:IntKind.i64.wrap (255 - o.d)=255 - o.d:=IntWalk.i64_in _ (by omega)
   have hd1:=hd.1
   have hd2:=hd.2
   rw [decide_eq_true hd]at H1 HS
   clear hd
   generalize decide (0<=o.p/\o.p<=255 - o.d)=b2 at *
   generalize decide (1<=o.c/\o.c<=4096)=b3 at *
   generalize stripB o=R at *
   obtain⟨ob,opl,obu,od,op,oc⟩:=o
   simp only at H1 H2 H3 hw hd1 hd2
   go_enter Tryz.func41, Tryz.ntmps41
   go_wp2_with fail
   refine(H1.out _).mono ?_
   rintro e w1 ⟨rfl,rfl⟩
   go_wp2_with fail
   refine(H2.out _).mono ?_
   rintro e w1 ⟨rfl,rfl⟩
   cases b2
   · go_wp2_with fail
     go_ret
     exact⟨by rw [HS.out];rfl,(Fr.refl w).alloc _⟩
   · go_wp2_with fail
     refine(H3.out _).mono ?_
     rintro e w1 ⟨rfl,rfl⟩
     go_wp2_with fail
     go_ret
     exact⟨by rw [HS.out];rfl,(Fr.refl w).alloc _⟩
 · rw [decide_eq_false hd]at H1 HS
   clear hd
   generalize stripB o=R at *
   obtain⟨ob,opl,obu,od,op,oc⟩:=o
   go_enter Tryz.func41, Tryz.ntmps41
   go_wp2_with fail
   refine(H1.out _).mono ?_
   rintro e w1 ⟨rfl,rfl⟩
   go_wp2_with fail
   go_ret
   exact⟨by rw [HS.out];rfl,(Fr.refl w).alloc _⟩
theorem OCheck3_any(o:Opt)(w:World):Calls Tryz.prog 22 #[.int .i64 3,optV o] w fun e w'=>e=.returned (.int .i64 (if opt3 o then 0 else 9))/\Fr w w':=by
  have H1:=hid (ow_any o.b 16 32768)
  have H2:=hid (stripes_any o)
  have H3:=hid (ow_any o.bu 1 64)
  have HS:Hid ((if opt3 o then(0:Int)else 9)=if(decide (16<=o.b/\o.b<=32768) && (stripB o && decide (1<=o.bu/\o.bu<=64)))=true then 0 else 9):=rfl
  generalize decide (16<=o.b/\o.b<=32768)=b1 at *
  generalize stripB o=b2 at *
  generalize decide (1<=o.bu/\o.bu<=64)=b3 at *
  generalize (if opt3 o then(0:Int)else 9)=R at *
  obtain⟨ob,opl,obu,od,op,oc⟩:=o
  simp only at H1 H2 H3
  go_enter Tryz.func22, Tryz.ntmps22
  go_wp2_with fail
  refine(H1.out _).mono ?_
  rintro e w1 ⟨rfl,rfl⟩
  cases b1
  · go_wp2_with fail
    go_ret
    exact⟨by rw [HS.out];rfl,((Fr.refl w).alloc _).alloc _⟩
  · go_wp2_with fail
    refine(H2.out _).mono ?_
    rintro e w2 ⟨rfl,hf2⟩
    have k1:=hf2.heap (heap_new _ _ (w.heap.size+1) (by simp))
    have k0:=hf2.heap ((heap_old _ _ w.heap.size (by simp)).trans (heap_new _ _ _ rfl))
    have hf02:Fr w w2:=(((Fr.refl w).alloc _).alloc _).trans hf2
    generalize hg:w.heap.size=g at *
    have c0:=cellx k0 0 rfl
    have c1:=cellx k0 1 rfl
    have c2:=cellx k0 2 rfl
    have d0:=cellx k1 0 rfl
    have d1:=cellx k1 1 rfl
    have d2:=cellx k1 2 rfl
    have d3:=cellx k1 3 rfl
    have d4:=cellx k1 4 rfl
    have d5:=cellx k1 5 rfl
    have z2:=frozen_of_heap k1 2
    have z3:=frozen_of_heap k1 3
    have z4:=frozen_of_heap k1 4
    have z5:=frozen_of_heap k1 5
    have hgs:g+1<w2.heap.size:=(Array.getElem?_eq_some_iff.1 k1).1
    have hB:w.heap.size<=g+1:=by omega
    have hS:=hf02.size
    have s1:∀ i u,(w2.setCell ⟨g+1,i,none⟩ u).heap.size=w2.heap.size:=fun i u=>by simp [World.setCell]
    have hfin:∀ u:Value,Fr w ((((w2.setCell ⟨g+1,3,none⟩ u).setCell ⟨g+1,4,none⟩ u).setCell ⟨g+1,5,none⟩ u).setCell ⟨g+1,2,none⟩ u):=fun u=>
      set_below (set_below (set_below (set_below hf02 hB hS) hB (by simpa [World.setCell] using hS)) hB (by simpa [World.setCell] using hS)) hB (by simpa [World.setCell] using hS)
    have HF:=hid (hfin (.int .i64 0))
    clear hfin s1 hS hB hf02 hf2
    cases b2
    · go_wp2_with fail
      go_ret
      exact⟨by rw [HS.out];rfl,HF.out⟩
    · go_wp2_with fail
      refine(H3.out _).mono ?_
      rintro e w3 ⟨rfl,rfl⟩
      cases b3
      · go_wp2_with fail
        go_ret
        exact⟨by rw [HS.out];rfl,HF.out⟩
      · go_wp2_with fail
        go_ret
        exact⟨by rw [HS.out];rfl,HF.out⟩
def opt2(o:Opt):Bool:=decide (16<=o.b/\o.b<=32768) && decide (1<=o.bu/\o.bu<=64)
theorem OCheck2_any(o:Opt)(h0:o.d=0/\o.p=0/\o.c=0)(w:World):Calls Tryz.prog 22 #[.int .i64 2,optV o] w fun e w'=>e=.returned (.int .i64 (if opt2 o then 0 else 9))/\Fr w w':=by
 have H1:=hid (ow_any o.b 16 32768)
 have H3:=hid (ow_any o.bu 1 64)
 have HS:Hid ((if opt2 o then(0:Int)else 9)=if(decide (16<=o.b/\o.b<=32768) && decide (1<=o.bu/\o.bu<=64))=true then 0 else 9):=rfl
 generalize decide (16<=o.b/\o.b<=32768)=b1 at *
 generalize decide (1<=o.bu/\o.bu<=64)=b3 at *
 generalize (if opt2 o then(0:Int)else 9)=R at *
 obtain⟨ob,opl,obu,od,op,oc⟩:=o
 simp only at H1 H3 h0
 obtain⟨rfl,rfl,rfl⟩:=h0
 go_enter Tryz.func22, Tryz.ntmps22
 go_wp2_with fail
 refine(H1.out _).mono ?_
 rintro e w1 ⟨rfl,rfl⟩
 cases b1
 · go_wp2_with fail
   go_ret
   exact⟨by rw [HS.out];rfl,((Fr.refl w).alloc _).alloc _⟩
 · go_wp2_with fail
   refine(H3.out _).mono ?_
   rintro e w3 ⟨rfl,rfl⟩
   cases b3
   · go_wp2_with fail
     go_ret
     exact⟨by rw [HS.out];rfl,((Fr.refl w).alloc _).alloc _⟩
   · go_wp2_with fail
     go_ret
     exact⟨by rw [HS.out];rfl,((Fr.refl w).alloc _).alloc _⟩
theorem opt3_iff(o:Opt):opt3 o=true↔16<=o.b/\o.b<=32768/\1<=o.d/\o.d<=255/\0<=o.p/\o.p<=255 - o.d/\1<=o.c/\o.c<=4096/\1<=o.bu/\o.bu<=64:=by
 unfold opt3 stripB
 simp only [Bool.and_eq_true,decide_eq_true_eq]
 constructor
 · rintro⟨⟨a,b⟩,⟨⟨c,d⟩,⟨e,f⟩,g,h⟩,i,j⟩;exact⟨a,b,c,d,e,f,g,h,i,j⟩
 · rintro⟨a,b,c,d,e,f,g,h,i,j⟩;exact⟨⟨a,b⟩,⟨⟨c,d⟩,⟨e,f⟩,g,h⟩,i,j⟩
theorem opt2_iff(o:Opt):opt2 o=true↔16<=o.b/\o.b<=32768/\1<=o.bu/\o.bu<=64:=by
 unfold opt2
 simp only [Bool.and_eq_true,decide_eq_true_eq]
 constructor
 · rintro⟨⟨a,b⟩,i,j⟩;exact⟨a,b,i,j⟩
 · rintro⟨a,b,i,j⟩;exact⟨⟨a,b⟩,i,j⟩
theorem ROC3_0(ob obu od op oc:Int)(opl:Value)(h0:ob<16)(w:World):Calls Tryz.prog 12 #[.int .i64 3,.agg #[.int .i64 ob,opl,.int .i64 obu,.int .i64 od,.int .i64 op,.int .i64 oc]] w fun e w'=>e=.returned (.int .i64 9)/\Fr w w':=by
 go_enter Tryz.func12, Tryz.ntmps12
 go_wp2_with fail
 go_ret
 exact⟨rfl,(Fr.refl w).alloc _⟩
theorem ROC3_1(ob obu od op oc:Int)(opl:Value)(h0:16<=ob)(h1:32768<ob)(w:World):Calls Tryz.prog 12 #[.int .i64 3,.agg #[.int .i64 ob,opl,.int .i64 obu,.int .i64 od,.int .i64 op,.int .i64 oc]] w fun e w'=>e=.returned (.int .i64 9)/\Fr w w':=by
 go_enter Tryz.func12, Tryz.ntmps12
 go_wp2_with fail
 go_ret
 exact⟨rfl,(Fr.refl w).alloc _⟩
theorem ROC3_2(ob obu od op oc:Int)(opl:Value)(h0:16<=ob)(h1:ob<=32768)(h2:obu<1)(w:World):Calls Tryz.prog 12 #[.int .i64 3,.agg #[.int .i64 ob,opl,.int .i64 obu,.int .i64 od,.int .i64 op,.int .i64 oc]] w fun e w'=>e=.returned (.int .i64 9)/\Fr w w':=by
 go_enter Tryz.func12, Tryz.ntmps12
 go_wp2_with fail
 go_ret
 exact⟨rfl,(Fr.refl w).alloc _⟩
theorem ROC3_3(ob obu od op oc:Int)(opl:Value)(h0:16<=ob)(h1:ob<=32768)(h2:1<=obu)(h3:64<obu)(w:World):Calls Tryz.prog 12 #[.int .i64 3,.agg #[.int .i64 ob,opl,.int .i64 obu,.int .i64 od,.int .i64 op,.int .i64 oc]] w fun e w'=>e=.returned (.int .i64 9)/\Fr w w':=by
 go_enter Tryz.func12, Tryz.ntmps12
 go_wp2_with fail
 go_ret
 exact⟨rfl,(Fr.refl w).alloc _⟩
theorem ROC3_4(ob obu od op oc:Int)(opl:Value)(h0:16<=ob)(h1:ob<=32768)(h2:1<=obu)(h3:obu<=64)(h4:od<1)(w:World):Calls Tryz.prog 12 #[.int .i64 3,.agg #[.int .i64 ob,opl,.int .i64 obu,.int .i64 od,.int .i64 op,.int .i64 oc]] w fun e w'=>e=.returned (.int .i64 9)/\Fr w w':=by
 go_enter Tryz.func12, Tryz.ntmps12
 go_wp2_with fail
 go_ret
 exact⟨rfl,(Fr.refl w).alloc _⟩
theorem ROC3_5(ob obu od op oc:Int)(opl:Value)(h0:16<=ob)(h1:ob<=32768)(h2:1<=obu)(h3:obu<=64)(h4:1<=od)(h5:255<od)(w:World):Calls Tryz.prog 12 #[.int .i64 3,.agg #[.int .i64 ob,opl,.int .i64 obu,.int .i64 od,.int .i64 op,.int .i64 oc]] w fun e w'=>e=.returned (.int .i64 9)/\Fr w w':=by
 go_enter Tryz.func12, Tryz.ntmps12
 go_wp2_with fail
 go_ret
 exact⟨rfl,(Fr.refl w).alloc _⟩
theorem ROC3_6(ob obu od op oc:Int)(opl:Value)(h0:16<=ob)(h1:ob<=32768)(h2:1<=obu)(h3:obu<=64)(h4:1<=od)(h5:od<=255)(h6:op<0)(w:World):Calls Tryz.prog 12 #[.int .i64 3,.agg #[.int .i64 ob,opl,.int .i64 obu,.int .i64 od,.int .i64 op,.int .i64 oc]] w fun e w'=>e=.returned (.int .i64 9)/\Fr w w':=by
 go_enter Tryz.func12, Tryz.ntmps12
 go_wp2_with fail
 go_ret
 exact⟨rfl,(Fr.refl w).alloc _⟩
theorem ROC3_7(ob obu od op oc:Int)(opl:Value)(h0:16<=ob)(h1:ob<=32768)(h2:1<=obu)(h3:obu<=64)(h4:1<=od)(h5:od<=255)(h6:0<=op)(h7:255 - od<op)(hw:IntKind.i64.wrap (255 - od)=255 - od)(w:World):Calls Tryz.prog 12 #[.int .i64 3,.agg #[.int .i64 ob,opl,.int .i64 obu,.int .i64 od,.int .i64 op,.int .i64 oc]] w fun e w'=>e=.returned (.int .i64 9)/\Fr w w':=by
 go_enter Tryz.func12, Tryz.ntmps12
 go_wp2_with fail
 go_ret
 exact⟨rfl,(Fr.refl w).alloc _⟩
theorem ROC3_8(ob obu od op oc:Int)(opl:Value)(h0:16<=ob)(h1:ob<=32768)(h2:1<=obu)(h3:obu<=64)(h4:1<=od)(h5:od<=255)(h6:0<=op)(h7:op<=255 - od)(h8:oc<1)(hw:IntKind.i64.wrap (255 - od)=255 - od)(w:World):Calls Tryz.prog 12 #[.int .i64 3,.agg #[.int .i64 ob,opl,.int .i64 obu,.int .i64 od,.int .i64 op,.int .i64 oc]] w fun e w'=>e=.returned (.int .i64 9)/\Fr w w':=by
 go_enter Tryz.func12, Tryz.ntmps12
 go_wp2_with fail
 go_ret
 exact⟨rfl,(Fr.refl w).alloc _⟩
theorem ROC3_9(ob obu od op oc:Int)(opl:Value)(h0:16<=ob)(h1:ob<=32768)(h2:1<=obu)(h3:obu<=64)(h4:1<=od)(h5:od<=255)(h6:0<=op)(h7:op<=255 - od)(h8:1<=oc)(h9:4096<oc)(hw:IntKind.i64.wrap (255 - od)=255 - od)(w:World):Calls Tryz.prog 12 #[.int .i64 3,.agg #[.int .i64 ob,opl,.int .i64 obu,.int .i64 od,.int .i64 op,.int .i64 oc]] w fun e w'=>e=.returned (.int .i64 9)/\Fr w w':=by
 go_enter Tryz.func12, Tryz.ntmps12
 go_wp2_with fail
 go_ret
 exact⟨rfl,(Fr.refl w).alloc _⟩
theorem ROC3_10(ob obu od op oc:Int)(opl:Value)(h0:16<=ob)(h1:ob<=32768)(h2:1<=obu)(h3:obu<=64)(h4:1<=od)(h5:od<=255)(h6:0<=op)(h7:op<=255 - od)(h8:1<=oc)(h9:oc<=4096)(hw:IntKind.i64.wrap (255 - od)=255 - od)(w:World):Calls Tryz.prog 12 #[.int .i64 3,.agg #[.int .i64 ob,opl,.int .i64 obu,.int .i64 od,.int .i64 op,.int .i64 oc]] w fun e w'=>e=.returned (.int .i64 0)/\Fr w w':=by
 go_enter Tryz.func12, Tryz.ntmps12
 go_wp2_with fail
 go_ret
 exact⟨rfl,(Fr.refl w).alloc _⟩
theorem ROCheck3_any(o:Opt)(w:World):Calls Tryz.prog 12 #[.int .i64 3,optV o] w fun e w'=>e=.returned (.int .i64 (if opt3 o then 0 else 9))/\Fr w w':=by
 obtain⟨ob,opl,obu,od,op,oc⟩:=o
 have H9:¬(16<=ob/\ob<=32768/\1<=od/\od<=255/\0<=op/\op<=255 - od/\1<=oc/\oc<=4096/\1<=obu/\obu<=64)->(if opt3 ⟨ob,opl,obu,od,op,oc⟩then(0:Int)else 9)=9:=fun h=>by rw [if_neg];rw [opt3_iff];exact h
 by_cases h0:ob<16
 · rw [H9 (by omega)];exact ROC3_0 ob obu od op oc _ (by omega) w
 by_cases h1:32768<ob
 · rw [H9 (by omega)];exact ROC3_1 ob obu od op oc _ (by omega) (by omega) w
 by_cases h2:obu<1
 · rw [H9 (by omega)];exact ROC3_2 ob obu od op oc _ (by omega) (by omega) (by omega) w
 by_cases h3:64<obu
 · rw [H9 (by omega)];exact ROC3_3 ob obu od op oc _ (by omega) (by omega) (by omega) (by omega) w
 by_cases h4:od<1
 · rw [H9 (by omega)];exact ROC3_4 ob obu od op oc _ (by omega) (by omega) (by omega) (by omega) (by omega) w
 by_cases h5:255<od
 · rw [H9 (by omega)];exact ROC3_5 ob obu od op oc _ (by omega) (by omega) (by omega) (by omega) (by omega) (by omega) w
 by_cases h6:op<0
 · rw [H9 (by omega)];exact ROC3_6 ob obu od op oc _ (by omega) (by omega) (by omega) (by omega) (by omega) (by omega) (by omega) w
 by_cases h7:255 - od<op
 · rw [H9 (by omega)];exact ROC3_7 ob obu od op oc _ (by omega) (by omega) (by omega) (by omega) (by omega) (by omega) (by omega) (by omega) (IntWalk.i64_in _ (by omega)) w
 by_cases h8:oc<1
 · rw [H9 (by omega)];exact ROC3_8 ob obu od op oc _ (by omega) (by omega) (by omega) (by omega) (by omega) (by omega) (by omega) (by omega) (by omega) (IntWalk.i64_in _ (by omega)) w
 by_cases h9:4096<oc
 · rw [H9 (by omega)];exact ROC3_9 ob obu od op oc _ (by omega) (by omega) (by omega) (by omega) (by omega) (by omega) (by omega) (by omega) (by omega) (by omega) (IntWalk.i64_in _ (by omega)) w
 rw [if_pos ((opt3_iff _).2 (by refine⟨?_,?_,?_,?_,?_,?_,?_,?_,?_,?_⟩ <;> simp only <;> omega))]
 exact ROC3_10 ob obu od op oc _ (by omega) (by omega) (by omega) (by omega) (by omega) (by omega) (by omega) (by omega) (by omega) (by omega) (IntWalk.i64_in _ (by omega)) w
end Go.Proofs.YtdagmoonnbnceaaGreatDoor
