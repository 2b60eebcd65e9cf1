/- Parts of the proof of ThreeOpens: Al3 Al4 Al5 Al. -/
import Derived.Test.YtijghcbpfcjjnaaGreatDoorM28
import Derived.Test.YtijghcbpfcjjnaaGreatDoorIter
import Derived.Maps.GroupsBeside
import Derived.Sort.KeysCollected
import Derived.Test.YtijghcbpfcjjnaaGreatDoorM22
import Derived.Test.YtijghcbpfcjjnaaGreatDoorM12
import Derived.Test.YtijghcbpfcjjnaaGreatDoorM10
set_option linter.unusedVariables false
set_option linter.unusedSectionVars false
set_option linter.unusedSimpArgs false
set_option maxHeartbeats 8000000
namespace Go.Proofs.YtijghcbpfcjjnaaGreatDoor
open Go.RowKit Go.Fk
open Go.Maps Go.Sort
set_option maxRecDepth 100000
theorem build0(w:World):Calls Tryz.prog 58 #[.slice none 0 0] w fun e w'=>e=.returned (.agg #[.slice none 0 0,.slice none 0 0])/\Fr w w':=by
 have hinf:(Tryz.prog.info? 36).map (·.size)=some 2:=by kernel_rfl
 have hone:(#[.slice none 0 0,.slice none 0 0]:Array Value).all (·.oneCell')=true:=by rw [List.all_toArray];rfl
 have hmm:=@run_makeMap Tryz.prog
 go_enter Tryz.func58, Tryz.ntmps58
 go_upto_region 2 with fail
 have hsz0:(w.alloc (.cells #[.slice none 0 0,.slice none 0 0] 36)).heap.size=w.heap.size+1:=size_alloc _ _
 have hfa:Fr w (w.alloc (.cells #[.slice none 0 0,.slice none 0 0] 36)):=(Fr.refl w).alloc _
 have g0:=heap_new w (.cells #[.slice none 0 0,.slice none 0 0] 36) w.heap.size rfl
 generalize w.alloc (.cells #[.slice none 0 0,.slice none 0 0] 36)=A1 at *
 have hfb:Fr A1 (A1.alloc (.map #[] 0)):=(Fr.refl A1).alloc _
 have g0':=hfb.heap g0
 have hf2:Fr w (A1.alloc (.map #[] 0)):=hfa.trans hfb
 have hMp:(A1.alloc (.map #[] 0)).heap[w.heap.size+1]?=some (.map #[] 0):=heap_new A1 _ _ hsz0.symm
 have hsz2:(A1.alloc (.map #[] 0)).heap.size=w.heap.size+1+1:=by rw [size_alloc,hsz0]
 generalize A1.alloc (.map #[] 0)=A2 at *
 clear hfa hfb g0 hsz0 hmm
 go_wp2_with fail
 go_loopw [14] (fun iv wx=>iv=.int .i64 0/\wx=A2) (fun _ _=>0)
 case atStart=>exact⟨rfl,rfl⟩
 case round=>
  obtain⟨rfl,hwx⟩:=hrel
  subst hwx
  have hfo:Fr wr (wr.alloc (.cells #[.slice none 0 0,.slice none 0 0] 36)):=(Fr.refl wr).alloc _
  have gO:=heap_new wr (.cells #[.slice none 0 0,.slice none 0 0] 36) wr.heap.size rfl
  have hX1:=hfo.heap g0'
  have hKe:=fun W=>callsIn_wide.1 (Tryz.maps_Keys_109 (some (w.heap.size+1)) W)
  have hOM:(wr.alloc (.cells #[.slice none 0 0,.slice none 0 0] 36)).ownsMap Tryz.prog 9 (fun _=>none) (w.heap.size+1) 0 (.map []:DataW Unit):=⟨#[],0,hfo.heap hMp,⟨by simp,⟨by simp,by simp,by simp⟩,by simp⟩,Nat.le_refl _,rfl⟩
  have HSo:=hid (callsIn_wide.1 (Tryz.slices_Sorted_keys_108_109 (w.heap.size+1) 0 _ _ _ hOM (by simp [Maps.size]) (by simp [Maps.size])))
  have hf1:=hf2.trans hfo
  have hobw:w.heap.size<=wr.heap.size:=hf2.size
  have hobn:w.heap.size≠wr.heap.size:=by omega
  obtain⟨ob,hob⟩:∃ ob,ob=wr.heap.size:=⟨_,rfl⟩
  rw [<- hob]at gO hobn hobw
  have HKe:=hid hKe
  clear hKe hfo hf2 hsz2 hMp g0' hOM
  go_upto_region 12 with fail
  rw [<- hob]
  clear hob
  generalize wr.alloc (.cells #[.slice none 0 0,.slice none 0 0] 36)=W1 at *
  have hfk:Fr W1 (W1.alloc (.cells #[.map (some (w.heap.size+1))] 164)):=(Fr.refl W1).alloc _
  go_wp2_with fail
  refine(HKe.out _).mono ?_
  rintro e w2 ⟨rfl,rfl⟩
  go_wp2_with fail
  refine HSo.out.mono ?_
  rintro e w3 ⟨tsv,ss,rfl,hpm,_,hnil,hb3⟩
  have hss:ss=[]:=by
   have h1:strKeys (.map []:DataW Unit)=[]:=rfl
   rw [h1]at hpm
   exact List.perm_nil.1 hpm
  obtain rfl:=hnil.2 hss
  have hf3:Fr W1 w3:=hfk.trans hb3
  have hX3:=hf3.heap hX1
  have hO3:=hf3.heap gO
  have hfw3:Fr w w3:=hf1.trans hf3
  clear hpm hnil hb3 HKe HSo gO hX1 hf1 hfk hf3
  go_wp2_with fail
  go_loopw [40] (fun kv wx=>kv=.int .i64 0/\wx=w3) (fun _ _=>0)
  case atStart=>exact⟨rfl,rfl⟩
  case round=>
   obtain⟨rfl,hwx⟩:=hrel
   subst hwx
   go_wp2_with (first | (refine wpList_load_row rfl 36 (.tmp 8) rfl ob rfl 36 #[.slice none 0 0,.slice none 0 0] (0,0) _ hO3 Tryz.underlying36 rfl hinf ?_) | (refine wpList_store_row rfl 36 (.tmp 2) (.tmp 59) rfl w.heap.size #[.slice none 0 0,.slice none 0 0] rfl rfl 36 _ hX3 hinf rfl hone ?_))
   exact bodyPost_ret (v:=.agg #[.slice none 0 0,.slice none 0 0]) (results_cell_row Tryz.results58 _ _ w.heap.size 36 #[.slice none 0 0,.slice none 0 0] (0,0) _ rfl (setRow_heap _ w.heap.size _ #[.slice none 0 0,.slice none 0 0] _ _ hX3) Tryz.underlying36 rfl hinf) rfl ⟨rfl,Chg.below hfw3 (setRow_chg _ _ _) hfw3.size (fun i e=>by rw [show i=w.heap.size from e];exact Nat.le_refl _)⟩
theorem pbytes0(w:World):Calls Tryz.prog 57 #[.int .i64 1,.int .i64 0,.agg #[.slice none 0 0,.slice none 0 0]] w fun e w'=>∃ u,e=.returned (.tuple #[u,.int .i64 0])/\Ow w' w.heap.size eB u (numB 0)/\Fr w w':=by
 have HD:=hid (fun W=>dict0 W)
 have hnl:=numB_le 0 (by omega)
 have hfa:Fr w (w.alloc (.cells #[.slice none 0 0,.slice none 0 0] 36)):=(Fr.refl w).alloc _
 have g0:=heap_new w (.cells #[.slice none 0 0,.slice none 0 0] 36) w.heap.size rfl
 have hAll := hid (fun W (p : Hd) (h : See W eB p.v (numB 0)) => All_any (.slice (some ⟨W.heap.size, 0, none⟩) 1 1) [p] [numB 0] (W.alloc (.cells #[p.v] 22)) (lit_sees2 W #[p.v] 22 [p] [numB 0] 1 rfl rfl rfl (by simp) (fun i ha hb => by
  match i, ha with
  | 0, _ => exact h)) (by simp; omega))
 generalize numB 0=nb at *
 go_enter Tryz.func57, Tryz.ntmps57
 go_wp2_with fail
 refine(HD.out _).mono ?_
 rintro e w1 ⟨u1,rfl,hO1,hf1⟩
 have hf01:=hfa.trans hf1
 have h1:=hf1.heap g0
 have y1:w1.cell? ⟨w.heap.size,1,none⟩=some (.slice none 0 0):=by rw [cell_of_heap h1];rfl
 obtain⟨p1,z1,hq1⟩:=hO1.shape'
 subst hq1
 have HA1:=hid (hAll.out w1 ⟨p1,nb.length,z1⟩ hO1.see)
 have hf2:Fr w1 (w1.alloc (.cells #[.slice p1 nb.length z1] 22)):=(Fr.refl w1).alloc _
 have y2:=hf2.cell y1
 clear HD hAll hO1 hf1 g0 h1
 go_wp2_with fail
 go_loopw [10,45] (fun pv kv wx=>pv=.slice (some ⟨w1.heap.size,0,none⟩) 1 1/\kv=.int .i64 0/\wx=w1.alloc (.cells #[.slice p1 nb.length z1] 22)) (fun _ _ _=>0)
 case atStart=>exact⟨rfl,rfl,rfl⟩
 case round=>
  obtain⟨rfl,rfl,hwx⟩:=hrel
  subst hwx
  go_wp2_with fail
  refine HA1.out.mono ?_
  rintro e w3 ⟨v3,rfl,hO3,hf3⟩
  have hO4:Ow w3 w.heap.size eB v3 nb:=by
   have h:=hO3.rebase (b:=w.heap.size) (hf01.trans hf2).size
   simpa using h
  have hf03:=(hf01.trans hf2).trans hf3
  obtain⟨p3,z3,hq3⟩:=hO4.shape'
  subst hq3
  clear hO3 HA1
  go_wp2_with fail
  go_ret2
  exact⟨_,rfl,hO4,hf03⟩
set_option maxRecDepth 512
end Go.Proofs.YtijghcbpfcjjnaaGreatDoor
namespace Go.Proofs.YtijghcbpfcjjnaaGreatDoor
open Go.RowKit Go.Fk
def dir0:List UInt8:=dirL [] (fun _=>[]) (putB []).length (putB (numB 0)).length
def body0:List UInt8:=putB []++(putB (numB 0)++(putB dir0++fixB 4 (putB dir0).length))
set_option maxRecDepth 100000
theorem make0(w:World)(ht:Crc w) :
  Calls Tryz.prog 22 #[.agg #[.int .i64 16,.bool false,.int .i64 1,.int .i64 2,.int .i64 1,.int .i64 8],.slice none 0 0] w fun e w'=>∃ u,e=.returned (.tuple #[u,.int .i64 0])/\Ow w' w.heap.size eB u body0/\Fr w w':=by
 have HC:=hid (fun W=>bcheck_any ⟨16,false,1,2,1,8⟩ W)
 rw [if_pos (by decide)]at HC
 have HQ:=hid (fun W=>QCheck_any (.slice none 0 0) [] W See.nil)
 rw [if_pos (by decide)]at HQ
 have HGr:=hid (fun W=>groups0 W)
 have HCo:=hid (fun W=>columns0 W)
 have HBu:=hid (fun W=>build0 W)
 have HPB:=hid (fun W=>pbytes0 W)
 have HPo:=hid (fun v q W (h:Fr w W) (h2:See W eB v q) (h3:q.length<=1000000)=>Put_any v q W h2 h3 (ht.fr h))
 have hDI:(putB dir0).length=8:=by decide +kernel
 have hn0:(numB 0).length=1:=by decide +kernel
 have HDb:=hid (fun g W h1=>dbytes_any g (.slice none 0 0) (.slice none 0 0) [] (fun _=>[]) (putB []).length (putB (numB 0)).length W h1 See.nil See.nil (by simp) (by simp) (fun k=>by simp) (by rw [putB_len];simp) (by rw [putB_len,hn0];omega))
 have hDd:dirL [] (fun _=>[]) (putB []).length (putB (numB 0)).length=dir0:=rfl
 rw [hDd]at HDb
 have hdl:dir0.length<=100:=by decide +kernel
 have hA:(putB []).length=4:=by rw [putB_len];rfl
 have hB:(putB (numB 0)).length=5:=by rw [putB_len,hn0]
 rw [hA,hB]at HDb
 have HT:Hid (body0=putB []++(putB (numB 0)++(putB dir0++fixB 4 (putB dir0).length))):=rfl
 have HFi:=hid (Fixed_any 8 4 (by omega) (by omega) (by decide) (by omega))
 have hfxl:(fixB 4 8).length=4:=fixB_len 4 _
 rw [hDI]at HT
 clear ht hDd
 generalize body0=T at *
 generalize dir0=DI_ at *
 generalize numB 0=PI at *
 generalize fixB 4 8=FX at *
 have HN0:=hid hn0
 clear hn0
 go_enter Tryz.func22, Tryz.ntmps22
 go_wp2_with fail
 refine(HC.out _).mono ?_
 rintro e w1 ⟨rfl,hf1⟩
 have hO1:=hf1.heap (heap_new w (.cells #[.int .i64 16,.bool false,.int .i64 1,.int .i64 2,.int .i64 1,.int .i64 8] 25) _ rfl)
 have hf01:Fr w w1:=((Fr.refl w).alloc _).trans hf1
 clear hf1
 go_wp2_with fail
 refine(HQ.out _).mono ?_
 rintro e w2 ⟨rfl,hf2⟩
 have hf02:=hf01.trans hf2
 have hO2:=hf2.heap hO1
 have x2:w2.cell? ⟨w.heap.size,0,none⟩=some (.int .i64 16):=by rw [cell_of_heap hO2];rfl
 go_wp2_with fail
 refine(HGr.out _).mono ?_
 rintro e w3 ⟨rfl,rfl⟩
 have hfD:Fr w2 (w2.alloc (.cells #[.slice none 0 0,.slice none 0 0,.int .i64 0,.int .i64 0] 62)):=(Fr.refl w2).alloc _
 have hD4:=heap_new w2 (.cells #[.slice none 0 0,.slice none 0 0,.int .i64 0,.int .i64 0] 62) w2.heap.size rfl
 have hO4:=hfD.heap hO2
 have hf04:=hf02.trans hfD
 have hgO:w.heap.size<w2.heap.size:=(Array.getElem?_eq_some_iff.1 hO2).1
 clear hO1 hO2 hf01 hf02 hf2 x2 HC HQ HGr
 go_upto_region 8 with fail
 generalize w2.alloc (.cells #[.slice none 0 0,.slice none 0 0,.int .i64 0,.int .i64 0] 62)=w4 at *
 generalize w2.heap.size=g at *
 obtain⟨O,hOe⟩:∃ O,O=w.heap.size:=⟨_,rfl⟩
 rw [<- hOe]at hO4 hgO
 have HO:=hid hOe
 rw [<- hOe]
 clear hOe hfD
 have c4:w4.cell? ⟨g,0,none⟩=some (.slice none 0 0):=by rw [cell_of_heap hD4];rfl
 go_wp2_with fail
 go_loopw [9,10,39] (fun pv av iv wx=>pv=.slice none 0 0/\av=.int .i64 0/\iv=.int .i64 0/\wx=w4) (fun _ _ _ _=>0)
 case atStart=>exact⟨rfl,rfl,rfl,rfl⟩
 case round=>
  obtain⟨rfl,rfl,rfl,hwx⟩:=hrel
  subst hwx
  have x0:wr.cell? ⟨O,2,none⟩=some (.int .i64 1):=by rw [cell_of_heap hO4];rfl
  go_wp2_with fail
  refine(HCo.out _).mono ?_
  rintro e w5 ⟨rfl,rfl⟩
  have HP2:=hid (HPo.out (.slice none 0 0) [] wr hf04 See.nil (by simp))
  go_wp2_with fail
  refine HP2.out.mono ?_
  rintro e w3 ⟨v3,rfl,hO3,hf3⟩
  obtain⟨p3,z3,hq3⟩:=hO3.shape'
  rw [hA]at hq3
  subst hq3
  have y0:=hf3.cell x0
  have hf03:=hf04.trans hf3
  have hOr:=hf3.heap hO4
  have hDr:=hf3.heap hD4
  have hszO:O<=wr.heap.size:=by rw [HO.out];exact hf04.size
  have hK3:=hO3.rebase hszO
  clear hO4 hD4 hf04 hf3 hO3 x0 c4 HP2 HCo
  go_upto_region 21 with fail
  go_region_held3 (fun w' => w'.cell? ⟨O, 2, none⟩ = some (.int .i64 1))
   (first | go_keep)
   ((first
    | (go_at_call 58; refine (HBu.out _).mono ?_; rintro e w4 ⟨rfl, hf4⟩; have u0 := hf4.cell y0)
    | (go_at_call 57; refine (HPB.out _).mono ?_; rintro e w5 ⟨v5, rfl, hO5, hf5⟩; obtain ⟨p5, z5, hq5⟩ := hO5.shape'; subst hq5; have t0 := hf5.cell u0)))
  have hf35:Fr w3 w5:=(Fr.refl w3).drew.trans (hf4.trans hf5)
  have hf05:=hf03.trans hf35
  have HP5:=hid (HPo.out _ PI w5 hf05 hO5.see (by have:=HN0.out;omega))
  have hD5r:=hf35.heap hDr
  have hK5:=hK3.fr hf35
  have hsz5:O<=w5.heap.size:=by rw [HO.out];exact hf05.size
  clear y0 u0 t0 hf4 hOr hDr hK3 hO5 hf03 hf35 hf5 hszO HBu HPB
  go_wp2_with fail
  refine HP5.out.mono ?_
  rintro e w6 ⟨v6,rfl,hO6,hf6⟩
  obtain⟨p6,z6,hq6⟩:=hO6.shape'
  rw [hB]at hq6
  subst hq6
  have hD6:=hf6.heap hD5r
  have hK6:=hK5.fr hf6
  have hI6:=hO6.rebase hsz5
  have hf06:=hf05.trans hf6
  have e2:w6.cell? ⟨g,2,none⟩=some (.int .i64 0):=by rw [cell_of_heap hD6];rfl
  have e3:w6.cell? ⟨g,3,none⟩=some (.int .i64 0):=by rw [cell_of_heap hD6];rfl
  have f2:=frozen_of_heap hD6 2
  have f3:=frozen_of_heap hD6 3
  clear hD5r hK5 hO6 hf6 hf05 HP5 hsz5
  have HAB:=hid (And.intro hA hB)
  clear hA hB
  go_upto_region 26 with fail
  have hst2:=setCell_chg w6 ⟨g,2,none⟩ (.int .i64 4)
  have hst3:=setCell_chg (w6.setCell ⟨g,2,none⟩ (.int .i64 4)) ⟨g,3,none⟩ (.int .i64 5)
  have hall:∀ {α:Type} {E:Elt Tryz.prog α} {v:Value} {q:List α},E.e≠62->Ow w6 O E v q->Ow ((w6.setCell ⟨g,2,none⟩ (.int .i64 4)).setCell ⟨g,3,none⟩ (.int .i64 5)) O E v q:=fun hT h=>
   (h.chg hst2 (fun k hk e=>h.ne_cells hD6 (Ne.symm hT) (by rw [hk,e]))).chg hst3 (fun k hk e=>h.ne_cells hD6 (Ne.symm hT) (by rw [hk,e]))
  have hD7:((w6.setCell ⟨g,2,none⟩ (.int .i64 4)).setCell ⟨g,3,none⟩ (.int .i64 5)).heap[g]?=some (.cells #[.slice none 0 0,.slice none 0 0,N 4,N 5] 62 (0,0)):=by
   have h7:=heap_setCell_own hD6 2 (.int .i64 4)
   have h8:=heap_setCell_own h7 3 (.int .i64 5)
   exact h8
  have hgw:w.heap.size<=g:=by have:=HO.out;omega
  have hf07:Fr w ((w6.setCell ⟨g,2,none⟩ (.int .i64 4)).setCell ⟨g,3,none⟩ (.int .i64 5)):=set_below (set_below hf06 hgw hf06.size) hgw (by simp;exact hf06.size)
  have hK7:=hall (by decide) hK6
  have hI7:=hall (by decide) hI6
  clear hall hst2 hst3 hK6 hI6 hD6 e2 e3 f2 f3 hf06
  change Code.wp _ _ _ _ ((w6.setCell ⟨g,2,none⟩ (.int .i64 4)).setCell ⟨g,3,none⟩ (.int .i64 5))
  generalize (w6.setCell ⟨g,2,none⟩ (.int .i64 4)).setCell ⟨g,3,none⟩ (.int .i64 5)=w7 at *
  have HD8:=hid (HDb.out _ w7 hD7)
  have hszO7:O<=w7.heap.size:=by rw [HO.out];exact hf07.size
  clear hD7 HDb
  go_wp2_with fail
  refine HD8.out.mono ?_
  rintro e w8 ⟨v8,rfl,hO8,hf8⟩
  have hf08:=hf07.trans hf8
  have HP8:=hid (HPo.out v8 DI_ w8 hf08 hO8.see (by omega))
  obtain⟨p8,z8,hq8⟩:=hO8.shape'
  subst hq8
  go_wp2_with fail
  refine HP8.out.mono ?_
  rintro e w9 ⟨v9,rfl,hO9,hf9⟩
  obtain⟨p9,z9,hq9⟩:=hO9.shape'
  rw [hDI]at hq9
  subst hq9
  have HDI:=hid hDI
  have hf79:=hf8.trans hf9
  have hf09:=hf07.trans hf79
  have hK9:=hK7.fr hf79
  have hI9:=hI7.fr hf79
  have hE9:=hO9.rebase (b:=O) (Nat.le_trans hszO7 hf8.size)
  clear hK7 hI7 hO8 hO9 hf8 hf9 HP8 HD8 hf08 hf07 hDI hdl
  have hw4:IntKind.u64.wrap (8:Int)=8:=IntWalk.u64_in _ (by omega)
  have HFX:=hid hfxl
  clear hfxl
  go_wp2_with fail
  refine(HFi.out _).mono ?_
  rintro e w10 ⟨v10,rfl,hO10,hf10⟩
  obtain⟨p10,z10,hq10⟩:=hO10.shape'
  rw [HFX.out]at hq10
  subst hq10
  have hf910:O<=w9.heap.size:=Nat.le_trans hszO7 hf79.size
  have hK10:=hK9.fr hf10
  have hI10:=hI9.fr hf10
  have hE10:=hE9.fr hf10
  have hF10:=hO10.rebase (b:=O) hf910
  have hf010:=hf09.trans hf10
  have hsz10:O<=w10.heap.size:=Nat.le_trans hf910 hf10.size
  have hP10:Ow w10 O (eHB:Elt Tryz.prog Hd) (.slice none 0 0) []:=Ow.nil
  clear hK9 hI9 hE9 hO10 hf09 hf10 hf910 hf79
  go_wp2_with (at_builtin;refine wpList_app1 eHB rfl (.tmp 107) (.tmp 112) 31 rfl Tryz.underlying31 O rfl hP10 [⟨p3,4,z3⟩,⟨p6,5,z6⟩,⟨p9,8,z9⟩,⟨p10,4,z10⟩] _ _ _ rfl rfl rfl ?c1 hsz10 ?_)
  case c1=>first | omega | (simp;omega) | simp
  intro v11 w11 hap
  have hK11:=own_app hK10 hP10 hap (by decide)
  have hI11:=own_app hI10 hP10 hap (by decide)
  have hE11:=own_app hE10 hP10 hap (by decide)
  have hF11:=own_app hF10 hP10 hap (by decide)
  have hf11:Fr w w11:=hap.below hP10 hf010 (by rw [HO.out];exact Nat.le_refl _) hf010.size
  have hP11:=hap.own
  have hR4 : Owns w11 O eB [(⟨p3, 4, z3⟩ : Hd), ⟨p6, 5, z6⟩, ⟨p9, 8, z9⟩, ⟨p10, 4, z10⟩] [putB [], putB PI, putB DI_, FX] := ⟨rfl, fun t a c => by
   match t, a with
   | 0, _ => exact hK11
   | 1, _ => exact hI11
   | 2, _ => exact hE11
   | 3, _ => exact hF11⟩
  have hsee:=hR4.sees2 hP11.see
  have hT2:[putB [],putB PI,putB DI_,FX].flatten=T:=by rw [HT.out];simp
  have HAll := hid (All_any v11 _ _ w11 hsee (by
   simp only [List.flatten_cons, List.flatten_nil, List.length_append, List.length_nil]
   have h1 := HAB.out.1
   have h2 := HAB.out.2
   have h3 := HDI.out
   have h4 := HFX.out
   omega))
  rw [hT2]at HAll
  have hbs:O<=w11.heap.size:=Nat.le_trans hsz10 hap.size
  clear hsee hT2 hK11 hI11 hE11 hF11 hR4 hK10 hI10 hE10 hF10 hP10 hap hf010
  obtain⟨p11,z11,hq11⟩:=hP11.shape'
  subst hq11
  clear hP11
  go_wp2_with fail
  refine HAll.out.mono ?_
  rintro e w12 ⟨v12,rfl,hO12,hf12⟩
  obtain⟨p12,z12,hq12⟩:=hO12.shape'
  subst hq12
  have HR:=hid (hO12.rebase hbs)
  rw [HO.out]at HR
  clear hO12
  go_wp2_with fail
  go_ret2
  exact⟨_,rfl,HR.out,hf11.trans hf12⟩
set_option maxRecDepth 512
set_option maxRecDepth 100000
theorem pack0(w:World)(ht:Crc w) :
  Calls Tryz.prog 11 #[.agg #[.int .i64 16,.bool false,.int .i64 1,.int .i64 2,.int .i64 1,.int .i64 8],.slice none 0 0] w fun e w'=>∃ u,e=.returned (.tuple #[u,.int .i64 0])/\Ow w' w.heap.size eB u (archL 16 false 1 2 1 8 body0)/\Fr w w':=by
 have HC:=hid (fun W=>OCheck3_any ⟨16,false,1,2,1,8⟩ W)
 rw [if_pos (by decide)]at HC
 have HM:=hid (fun W (h:Fr w W)=>make0 W (ht.fr h))
 have hbl:body0.length<=1000000:=by decide +kernel
 generalize body0=T at *
 have hlay:=lay_small 2 1 8 T.length (by omega) (by omega) (by omega) (by omega) hbl
 have HL:Hid (∀ u W,Fr w W->See W eB u T->Calls Tryz.prog 23 #[.int .i64 2,.int .i64 1,.int .i64 8,u] W fun e w'=>∃ v',e=.returned (.tuple #[v',.int .i64 0])/\Ow w' W.heap.size eB v' (layL T 2 1 8 (strN 2 8 T.length))/\Fr W w'):=
  hid (fun u W h h2=>Lay_any 2 1 8 u T W h2 (by omega) (by omega) (by omega) (by omega) hbl hlay (ht.fr h))
 have hyl:=layL_len T 2 1 8 (strN 2 8 T.length)
 have HA:=hid (fun g u W (h:Fr w W) (hg:W.heap[g]?=some (hdB 16 false 1 2 1 8 T.length)) (h3:See W eB u (layL T 2 1 8 (strN 2 8 T.length)))=>Archive_any g 16 1 2 1 8 T.length false u _ W hg h3 (ht.fr h) (by omega) (by omega) (by omega) (by omega) (by omega) (by omega) (by omega))
 have HE:Hid (archL 16 false 1 2 1 8 T=putB (headL 16 false 1 2 1 8 T.length)++layL T 2 1 8 (strN 2 8 T.length)++putB (headL 16 false 1 2 1 8 T.length)):=rfl
 rw [<- HE.out]at HA
 clear HE ht hyl hlay
 generalize archL 16 false 1 2 1 8 T=AR at *
 generalize layL T 2 1 8 (strN 2 8 T.length)=LY at *
 go_enter Tryz.func11, Tryz.ntmps11
 go_wp2_with fail
 refine(HC.out _).mono ?_
 rintro e w1 ⟨rfl,hf1⟩
 have hO1:=hf1.heap (heap_new w (.cells #[.int .i64 16,.bool false,.int .i64 1,.int .i64 2,.int .i64 1,.int .i64 8] 25) _ rfl)
 have hf01:Fr w w1:=((Fr.refl w).alloc _).trans hf1
 have c0:w1.cell? ⟨w.heap.size,0,none⟩=some (.int .i64 16):=by rw [cell_of_heap hO1];rfl
 have c1:w1.cell? ⟨w.heap.size,1,none⟩=some (.bool false):=by rw [cell_of_heap hO1];rfl
 have c2:w1.cell? ⟨w.heap.size,2,none⟩=some (.int .i64 1):=by rw [cell_of_heap hO1];rfl
 have c3:w1.cell? ⟨w.heap.size,3,none⟩=some (.int .i64 2):=by rw [cell_of_heap hO1];rfl
 have c4:w1.cell? ⟨w.heap.size,4,none⟩=some (.int .i64 1):=by rw [cell_of_heap hO1];rfl
 have c5:w1.cell? ⟨w.heap.size,5,none⟩=some (.int .i64 8):=by rw [cell_of_heap hO1];rfl
 go_wp2_with fail
 refine(HM.out _ hf01).mono ?_
 rintro e w2 ⟨v2,rfl,hB2,hf2⟩
 have hO2:=hf2.heap hO1
 have hf02:=hf01.trans hf2
 have HL2:=hid (HL.out v2 w2 hf02 hB2.see)
 obtain⟨p2,z2,hq2⟩:=hB2.shape'
 subst hq2
 have d3:=hf2.cell c3
 have d4:=hf2.cell c4
 have d5:=hf2.cell c5
 clear c0 c1 c2 c3 c4 c5 hB2 hO1 hf01 hf1
 go_wp2_with fail
 refine HL2.out.mono ?_
 rintro e w3 ⟨v3,rfl,hY3,hf3⟩
 have hO3:=hf3.heap hO2
 have hf03:=hf02.trans hf3
 obtain⟨p3,z3,hq3⟩:=hY3.shape'
 subst hq3
 have c0:w3.cell? ⟨w.heap.size,0,none⟩=some (.int .i64 16):=by rw [cell_of_heap hO3];rfl
 have c1:w3.cell? ⟨w.heap.size,1,none⟩=some (.bool false):=by rw [cell_of_heap hO3];rfl
 have c2:w3.cell? ⟨w.heap.size,2,none⟩=some (.int .i64 1):=by rw [cell_of_heap hO3];rfl
 have c3:w3.cell? ⟨w.heap.size,3,none⟩=some (.int .i64 2):=by rw [cell_of_heap hO3];rfl
 have c4:w3.cell? ⟨w.heap.size,4,none⟩=some (.int .i64 1):=by rw [cell_of_heap hO3];rfl
 have c5:w3.cell? ⟨w.heap.size,5,none⟩=some (.int .i64 8):=by rw [cell_of_heap hO3];rfl
 clear d3 d4 d5 HL2 hO2 hf02 hf2 hf3
 go_wp2_with fail
 have hfa:Fr w3 (w3.alloc (.cells #[.int .i64 16,.bool false,.int .i64 1,.int .i64 2,.int .i64 1,.int .i64 8,N T.length,.int .u8 0] 55)):=(Fr.refl w3).alloc _
 refine(HA.out w3.heap.size _ _ (hf03.trans hfa) (heap_new w3 (.cells #[.int .i64 16,.bool false,.int .i64 1,.int .i64 2,.int .i64 1,.int .i64 8,N T.length,.int .u8 0] 55) _ rfl) (hY3.see.fr hfa)).mono ?_
 rintro e w4 ⟨v4,rfl,hR4,hf4⟩
 have HR:=hid (hR4.rebase (hf03.trans hfa).size)
 have hf04:=(hf03.trans hfa).trans hf4
 clear hR4 hf4 hfa hY3 c0 c1 c2 c3 c4 c5 hO3
 go_wp2_with fail
 go_ret2
 exact⟨_,rfl,HR.out,hf04⟩
set_option maxRecDepth 512
theorem b0_len:body0.length=21:=by decide +kernel
theorem hd_0:headL 16 false 1 2 1 8 21=[70,73,82,75,3,0,1,2,1,8,0,16,0,21,0,0,0]:=by decide +kernel
theorem st_0:strN 2 8 21=2:=by decide +kernel
theorem ar_0:archL 16 false 1 2 1 8 body0=putB (headL 16 false 1 2 1 8 21)++layL body0 2 1 8 2++putB (headL 16 false 1 2 1 8 21):=by
 unfold archL;rw [b0_len,st_0]
set_option maxRecDepth 100000
theorem alive0_any(w:World)(ht:Crc w):Calls Tryz.prog 4 #[] w fun e w'=>e=.returned (.bool true)/\Fr w w':=by
  have hfa:Fr w (w.alloc (.cells #[.int .i64 16,.bool false,.int .i64 1,.int .i64 2,.int .i64 1,.int .i64 8] 25)):=(Fr.refl w).alloc _
  have HP:=hid (pack0 _ (ht.fr hfa))
  rw [ar_0]at HP
  have hH:(putB (headL 16 false 1 2 1 8 21)).length=21:=by rw [putB_len,headL_len]
  have hL:=layL_len (body0) 2 1 8 2
  have h17:=headL_len 16 false 1 2 1 8 21
  have hcn:countB (putB (headL 16 false 1 2 1 8 21))=true:=by decide +kernel
  have HCn : Hid (∀ v W, See W eB v (putB (headL 16 false 1 2 1 8 21)) → Calls Tryz.prog 13 #[v] W fun e w' => e = .returned (.bool true) ∧ Fr W w') := hid (fun v W h => by
    have h2 := RCountB_any v _ W h (by rw [hH]; omega)
    rw [hcn] at h2
    exact h2)
  have hput:∃ s,putB (headL 16 false 1 2 1 8 21)=headL 16 false 1 2 1 8 21++s:=⟨_,by unfold putB;rfl⟩
  rw [hd_0]at *
  have hLY:(layL (body0) 2 1 8 2).length=72:=hL
  clear hL hcn
  generalize layL (body0) 2 1 8 2=LY at *
  generalize putB [70,73,82,75,3,0,1,2,1,8,0,16,0,21,0,0,0]=H at *
  have t17:(H++LY++H).take 17=[70,73,82,75,3,0,1,2,1,8,0,16,0,21,0,0,0]:=by
    obtain⟨s,hs⟩:=hput
    rw [hs,List.append_assoc,List.append_assoc]
    rfl
  have t21:(H++LY++H).take 21=H:=by rw [List.append_assoc,<- hH,List.take_left]
  have d93:(H++LY++H).drop 93=H:=by
    have:(H++LY).length=93:=by rw [List.length_append];omega
    rw [<- this,List.drop_left]
  have hAR:(H++LY++H).length=114:=by rw [List.length_append,List.length_append];omega
  clear hput hH hLY h17
  generalize H++LY++H=AR at *
  generalize hl17:[(70:UInt8),73,82,75,3,0,1,2,1,8,0,16,0,21,0,0,0]=L17 at *
  have Hl17:=hid hl17
  clear hl17
  clear LY
  have hsl:∀ W:World,See (W.alloc (.cells #[.int .u8 70,.int .u8 73,.int .u8 82,.int .u8 75,.int .u8 3,.int .u8 0,.int .u8 1,.int .u8 2,.int .u8 1,.int .u8 8,.int .u8 0,.int .u8 16,.int .u8 0,.int .u8 21,.int .u8 0,.int .u8 0,.int .u8 0] 5)) eB (.slice (some ⟨W.heap.size,0,none⟩) 17 17) L17:=fun W=>by
    rw [<- Hl17.out]
    exact see_new eB W _ _ _ 17 rfl rfl (by show 17<=maxLen;unfold maxLen;omega)
  have HSl:=hid hsl
  have Ht17:=hid t17
  have Ht21:=hid t21
  have Hd93:=hid d93
  have HAR:=hid hAR
  clear hsl t17 t21 d93 hAR ht
  go_enter Tryz.func4, Tryz.ntmps4
  go_wp2_with fail
  refine HP.out.mono ?_
  rintro e w1 ⟨v1,rfl,hO1,hf1⟩
  have hf01:=hfa.trans hf1
  have hsee:=hO1.see
  obtain⟨p1,z1,hq1⟩:=hO1.shape'
  subst hq1
  have s17:=run_to eB 22 Tryz.underlying22 hsee 17 (by rw [HAR.out];omega)
  have s21:=run_to eB 22 Tryz.underlying22 hsee 21 (by rw [HAR.out];omega)
  obtain⟨a2,z2,r93,s93⟩:=run_from eB 22 Tryz.underlying22 hsee 93 (by rw [HAR.out];omega)
  obtain⟨r17,s17⟩:=s17
  obtain⟨r21,s21⟩:=s21
  rw [Ht17.out]at s17
  rw [Ht21.out]at s21
  rw [Hd93.out]at s93
  rw [HAR.out]at r17 r21 r93 s93
  have q17:∀ W,(Instr.slice 22 (.slice p1 114 z1) none (some (.int .i64 17)) none).run Tryz.prog W=.ok (.slice p1 17 z1) W:=r17
  have q21:∀ W,(Instr.slice 22 (.slice p1 114 z1) none (some (.int .i64 21)) none).run Tryz.prog W=.ok (.slice p1 21 z1) W:=r21
  have q93:∀ W,(Instr.slice 22 (.slice p1 114 z1) (some (.int .i64 93)) none none).run Tryz.prog W=.ok (.slice a2 21 z2) W:=r93
  have HS1:=hid (fun W (h:Fr w1 W)=>RSame1_any _ _ L17 L17 _ (s17.fr (h.alloc _)) (HSl.out W))
  have HS2:=hid (fun W (h:Fr w1 W)=>RSame1_any _ _ H H W (s21.fr h) (s93.fr h))
  have HC2:=hid (fun W (h:Fr w1 W)=>HCn.out _ W (s21.fr h))
  rw [show decide (L17=L17)=true from decide_eq_true rfl]at HS1
  rw [show decide (H=H)=true from decide_eq_true rfl]at HS2
  rw [HAR.out]
  clear r17 r21 r93 s17 s21 s93 hsee hO1 HAR HSl
  have hw93:IntKind.i64.wrap ((114:Int) - 21)=93:=by decide
  have hw93b:IntKind.i64.wrap (((114:Nat):Int) - 21)=93:=by decide
  have hw93c:IntKind.i64.wrap (93:Int)=93:=by decide
  go_upto_region 3 with fail
  go_region_held3 (fun _ => True)
    (first | trivial | go_keep)
    ((first
      | (go_at_call_of 12 (Value.slice p1 17 z1); refine (HS1.out _ ((Fr.refl w1).drew)).mono ?_; rintro e w2 ⟨rfl, rfl⟩)
      | (go_at_call 13; refine (HC2.out _ (((Fr.refl w1).drew).alloc _)).mono ?_; rintro e w3 ⟨rfl, hf3⟩)
      | (go_at_call_of 12 (Value.slice p1 21 z1); refine (HS2.out _ ((((Fr.refl w1).drew).alloc _).trans hf3)).mono ?_; rintro e w4 ⟨rfl, rfl⟩)))
  have hff:=hf01.trans ((((Fr.refl w1).drew).alloc _).trans hf3)
  go_wp2_with fail
  go_ret
  exact⟨rfl,hff⟩
set_option maxRecDepth 512
end Go.Proofs.YtijghcbpfcjjnaaGreatDoor
