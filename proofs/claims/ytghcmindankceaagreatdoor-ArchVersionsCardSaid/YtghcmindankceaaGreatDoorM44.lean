/- Parts of the proof of ArchVersions: Uf Ug. -/
import Derived.Test.YtghcmindankceaaGreatDoorM43
import Derived.Test.YtghcmindankceaaGreatDoorM01
set_option linter.unusedVariables false
set_option linter.unusedSectionVars false
set_option linter.unusedSimpArgs false
set_option maxHeartbeats 8000000
namespace Go.Proofs.YtghcmindankceaaGreatDoor
open Go.RowKit Go.Fk
set_option maxRecDepth 100000
theorem pack25(v:Value)(w:World)(hs:See w eR v l25)(ht:Crc w) :
  Calls Tryz.prog 26 #[.int .i64 1,optV ⟨16,false,0,0,0,0⟩,v] w fun e w'=>∃ u,e=.returned (.tuple #[u,.int .i64 0])/\Ow w' w.heap.size eB u x25/\Fr w w':=by
 have HP:=hid (fun W (h:Fr w W)=>OPack_any 16 false (by omega) (by omega) v l25 W (hs.fr h) small25 (ht.fr h))
 have HX:Hid (oneP 16 false l25=x25):=rfl
 rw [HX.out]at HP
 obtain⟨a0,cap,hv,_⟩:=hs.shape
 subst hv
 have hO0:(w.alloc (.cells #[.int .i64 16,.bool false,.int .i64 0,.int .i64 0,.int .i64 0,.int .i64 0] 25)).heap[w.heap.size]?=some (.cells #[.int .i64 16,.bool false,.int .i64 0,.int .i64 0,.int .i64 0,.int .i64 0] 25 (0,0)):=heap_new _ _ _ rfl
 have hf0:Fr w (w.alloc (.cells #[.int .i64 16,.bool false,.int .i64 0,.int .i64 0,.int .i64 0,.int .i64 0] 25)):=(Fr.refl w).alloc _
 have hinf:(Tryz.prog.info? 25).map (·.size)=some 6:=by kernel_rfl
 have HP1:=hid (HP.out _ hf0)
 clear hs ht HP HX
 generalize l25.length=n at *
 generalize x25=X at *
 go_enter Tryz.func26, Tryz.ntmps26
 go_wp2_with (first | (refine wpList_load_row rfl 25 (.tmp 4) rfl w.heap.size rfl 25 #[.int .i64 16,.bool false,.int .i64 0,.int .i64 0,.int .i64 0,.int .i64 0] (0,0) _ hO0 Tryz.underlying25 rfl hinf ?_))
 refine(HP1.out).mono ?_
 rintro e w1 ⟨u,rfl,hO1,hf1⟩
 obtain⟨p1,z1,hq1⟩:=hO1.shape'
 subst hq1
 go_wp2_with fail
 go_ret2
 exact⟨_,rfl,hO1.rebase hf0.size,hf0.trans hf1⟩
set_option maxRecDepth 512
abbrev unB(v rec blk bad:Int)(cl:Bool)(lv:Value):Obj:=.cells #[.int .i64 v,.int .i64 rec,.int .i64 blk,.int .i64 bad,.bool cl,.int .i64 16,.bool false,.int .i64 0,.int .i64 0,.int .i64 0,.int .i64 0,lv] 73 (0,0)
def un8(w2:World)(g:Nat)(U:Value):World:=(((((((w2.setCell ⟨g,5,none⟩ (.int .i64 16)).setCell ⟨g,6,none⟩ (.bool false)).setCell ⟨g,7,none⟩ (.int .i64 0)).setCell ⟨g,8,none⟩ (.int .i64 0)).setCell ⟨g,9,none⟩ (.int .i64 0)).setCell ⟨g,10,none⟩ (.int .i64 0)).setCell ⟨g,11,none⟩ U).setCell ⟨g,2,none⟩ (.int .i64 1)
theorem un8_at{w2:World}{g:Nat}(U:Value)(h:w2.heap[g]?=some (.cells #[N 1,.int .i64 0,.int .i64 0,.int .i64 0,.bool false,.int .i64 0,.bool false,.int .i64 0,.int .i64 0,.int .i64 0,.int .i64 0,.slice none 0 0] 73 (0,0))):(un8 w2 g U).heap[g]?=some (unB 1 0 1 0 false U)/\Chg (fun k=>k=g) w2 (un8 w2 g U):=by
  unfold un8
  have h0:(w2.setCell ⟨g,5,none⟩ (.int .i64 16)).heap[g]?=some (.cells #[N 1,.int .i64 0,.int .i64 0,.int .i64 0,.bool false,.int .i64 16,.bool false,.int .i64 0,.int .i64 0,.int .i64 0,.int .i64 0,.slice none 0 0] 73 (0,0)):=heap_setCell_own h 5 _
  have c0:=setCell_chg w2 ⟨g,5,none⟩ (.int .i64 16)
  generalize w2.setCell ⟨g,5,none⟩ (.int .i64 16)=V0 at *
  have h1:(V0.setCell ⟨g,6,none⟩ (.bool false)).heap[g]?=some (.cells #[N 1,.int .i64 0,.int .i64 0,.int .i64 0,.bool false,.int .i64 16,.bool false,.int .i64 0,.int .i64 0,.int .i64 0,.int .i64 0,.slice none 0 0] 73 (0,0)):=heap_setCell_own h0 6 _
  have c1:=setCell_chg V0 ⟨g,6,none⟩ (.bool false)
  generalize V0.setCell ⟨g,6,none⟩ (.bool false)=V1 at *
  have h2:(V1.setCell ⟨g,7,none⟩ (.int .i64 0)).heap[g]?=some (.cells #[N 1,.int .i64 0,.int .i64 0,.int .i64 0,.bool false,.int .i64 16,.bool false,.int .i64 0,.int .i64 0,.int .i64 0,.int .i64 0,.slice none 0 0] 73 (0,0)):=heap_setCell_own h1 7 _
  have c2:=setCell_chg V1 ⟨g,7,none⟩ (.int .i64 0)
  generalize V1.setCell ⟨g,7,none⟩ (.int .i64 0)=V2 at *
  have h3:(V2.setCell ⟨g,8,none⟩ (.int .i64 0)).heap[g]?=some (.cells #[N 1,.int .i64 0,.int .i64 0,.int .i64 0,.bool false,.int .i64 16,.bool false,.int .i64 0,.int .i64 0,.int .i64 0,.int .i64 0,.slice none 0 0] 73 (0,0)):=heap_setCell_own h2 8 _
  have c3:=setCell_chg V2 ⟨g,8,none⟩ (.int .i64 0)
  generalize V2.setCell ⟨g,8,none⟩ (.int .i64 0)=V3 at *
  have h4:(V3.setCell ⟨g,9,none⟩ (.int .i64 0)).heap[g]?=some (.cells #[N 1,.int .i64 0,.int .i64 0,.int .i64 0,.bool false,.int .i64 16,.bool false,.int .i64 0,.int .i64 0,.int .i64 0,.int .i64 0,.slice none 0 0] 73 (0,0)):=heap_setCell_own h3 9 _
  have c4:=setCell_chg V3 ⟨g,9,none⟩ (.int .i64 0)
  generalize V3.setCell ⟨g,9,none⟩ (.int .i64 0)=V4 at *
  have h5:(V4.setCell ⟨g,10,none⟩ (.int .i64 0)).heap[g]?=some (.cells #[N 1,.int .i64 0,.int .i64 0,.int .i64 0,.bool false,.int .i64 16,.bool false,.int .i64 0,.int .i64 0,.int .i64 0,.int .i64 0,.slice none 0 0] 73 (0,0)):=heap_setCell_own h4 10 _
  have c5:=setCell_chg V4 ⟨g,10,none⟩ (.int .i64 0)
  generalize V4.setCell ⟨g,10,none⟩ (.int .i64 0)=V5 at *
  have h6:(V5.setCell ⟨g,11,none⟩ U).heap[g]?=some (.cells #[N 1,.int .i64 0,.int .i64 0,.int .i64 0,.bool false,.int .i64 16,.bool false,.int .i64 0,.int .i64 0,.int .i64 0,.int .i64 0,U] 73 (0,0)):=heap_setCell_own h5 11 _
  have c6:=setCell_chg V5 ⟨g,11,none⟩ U
  generalize V5.setCell ⟨g,11,none⟩ U=V6 at *
  have h7:(V6.setCell ⟨g,2,none⟩ (.int .i64 1)).heap[g]?=some (.cells #[N 1,.int .i64 0,.int .i64 1,.int .i64 0,.bool false,.int .i64 16,.bool false,.int .i64 0,.int .i64 0,.int .i64 0,.int .i64 0,U] 73 (0,0)):=heap_setCell_own h6 2 _
  have c7:=setCell_chg V6 ⟨g,2,none⟩ (.int .i64 1)
  generalize V6.setCell ⟨g,2,none⟩ (.int .i64 1)=V7 at *
  exact⟨h7,(((((((c0.trans c1 fun _ _ h=>h).trans c2 fun _ _ h=>h).trans c3 fun _ _ h=>h).trans c4 fun _ _ h=>h).trans c5 fun _ _ h=>h).trans c6 fun _ _ h=>h).trans c7 fun _ _ h=>h)⟩
set_option maxRecDepth 100000
theorem aunpack25 (v : Value) (w : World) (hs : See w eB v x25) (ht : Crc w) :
    Calls Tryz.prog 32 #[v] w fun e w'=>∃ g u,e=.returned (.tuple #[.pointer (some ⟨g,0,none⟩),.int .i64 0])/\w'.heap[g]?=some (unB 1 2 1 0 false u)/\w.heap.size<=g/\Ow w' w.heap.size eR u l25/\Fr w w':=by
  have HV:=hid (AVersion_any v x25 w hs ht)
  have hv1:versV x25=(1,0):=by rw [vers_low x25 (by rw [m25];exact .inl rfl),m25]
  rw [hv1]at HV
  have HU:=hid (fun W (h:Fr w W)=>unpack25 v W (hs.fr h) (ht.fr h))
  have HL:Hid (l25.length=2):=rfl
  obtain⟨a0,cap,hv,_⟩:=hs.shape
  subst hv
  clear hs ht hv1
  generalize x25=X at *
  generalize l25=L at *
  go_enter Tryz.func32, Tryz.ntmps32
  go_wp2_with fail
  refine(HV.out).mono ?_
  rintro e w1 ⟨rfl,hf1⟩
  have hfa:Fr w1 (w1.alloc (.cells #[N 1,.int .i64 0,.int .i64 0,.int .i64 0,.bool false,.int .i64 0,.bool false,.int .i64 0,.int .i64 0,.int .i64 0,.int .i64 0,.slice none 0 0] 73)):=(Fr.refl w1).alloc _
  have hG0:(w1.alloc (.cells #[N 1,.int .i64 0,.int .i64 0,.int .i64 0,.bool false,.int .i64 0,.bool false,.int .i64 0,.int .i64 0,.int .i64 0,.int .i64 0,.slice none 0 0] 73)).heap[w1.heap.size]?=some (.cells #[N 1,.int .i64 0,.int .i64 0,.int .i64 0,.bool false,.int .i64 0,.bool false,.int .i64 0,.int .i64 0,.int .i64 0,.int .i64 0,.slice none 0 0] 73 (0,0)):=heap_new _ _ _ rfl
  have hf0:=hf1.trans hfa
  have HU1:=hid (HU.out _ hf0)
  have hgw:w.heap.size<=w1.heap.size:=hf1.size
  clear HU hf1 hfa
  go_wp2_with fail
  refine(HU1.out).mono ?_
  rintro e w2 ⟨hf2,u,rfl,hO2⟩
  have hG2:=hf2.heap hG0
  have hf02:=hf0.trans hf2
  have hO:=hO2.rebase hf0.size
  clear HU1 hG0 hf0 hf2 hO2
  generalize w1.heap.size=g at *
  have c0:w2.cell? ⟨g,0,none⟩=some (N 1):=by rw [cell_of_heap hG2];rfl
  have c1:w2.cell? ⟨g,1,none⟩=some (Value.int .i64 0):=by rw [cell_of_heap hG2];rfl
  have c2:w2.cell? ⟨g,2,none⟩=some (Value.int .i64 0):=by rw [cell_of_heap hG2];rfl
  have c3:w2.cell? ⟨g,3,none⟩=some (Value.int .i64 0):=by rw [cell_of_heap hG2];rfl
  have c4:w2.cell? ⟨g,4,none⟩=some (Value.bool false):=by rw [cell_of_heap hG2];rfl
  have c5:w2.cell? ⟨g,5,none⟩=some (Value.int .i64 0):=by rw [cell_of_heap hG2];rfl
  have c6:w2.cell? ⟨g,6,none⟩=some (Value.bool false):=by rw [cell_of_heap hG2];rfl
  have c7:w2.cell? ⟨g,7,none⟩=some (Value.int .i64 0):=by rw [cell_of_heap hG2];rfl
  have c8:w2.cell? ⟨g,8,none⟩=some (Value.int .i64 0):=by rw [cell_of_heap hG2];rfl
  have c9:w2.cell? ⟨g,9,none⟩=some (Value.int .i64 0):=by rw [cell_of_heap hG2];rfl
  have c10:w2.cell? ⟨g,10,none⟩=some (Value.int .i64 0):=by rw [cell_of_heap hG2];rfl
  have c11:w2.cell? ⟨g,11,none⟩=some (Value.slice none 0 0):=by rw [cell_of_heap hG2];rfl
  have z2:=frozen_of_heap hG2 2
  have z5:=frozen_of_heap hG2 5
  have z6:=frozen_of_heap hG2 6
  have z7:=frozen_of_heap hG2 7
  have z8:=frozen_of_heap hG2 8
  have z9:=frozen_of_heap hG2 9
  have z10:=frozen_of_heap hG2 10
  have z11:=frozen_of_heap hG2 11
  obtain⟨pu,zu,hu⟩:=hO.shape'
  subst hu
  have HG2:=hid hG2
  have HO:=hid hO
  have HF:=hid hf02
  rw [HL.out]
  clear hG2 hO hf02
  go_upto_region 10 with fail
  generalize hW:(((((((w2.setCell ⟨g,5,none⟩ (.int .i64 16)).setCell ⟨g,6,none⟩ (.bool false)).setCell ⟨g,7,none⟩ (.int .i64 0)).setCell ⟨g,8,none⟩ (.int .i64 0)).setCell ⟨g,9,none⟩ (.int .i64 0)).setCell ⟨g,10,none⟩ (.int .i64 0)).setCell ⟨g,11,none⟩ (.slice pu 2 zu)).setCell ⟨g,2,none⟩ (.int .i64 1)=W3
  obtain⟨hG3,hc3⟩:=(fun W' (h:W'=un8 w2 g (.slice pu 2 zu))=>(by subst h;exact un8_at _ HG2.out:W'.heap[g]?=some (unB 1 0 1 0 false (.slice pu 2 zu))/\Chg (fun k=>k=g) w2 W')) W3 hW.symm
  clear hW
  have y11:W3.cell? ⟨g,11,none⟩=some (.slice pu 2 zu):=by rw [cell_of_heap hG3];rfl
  have y1:W3.cell? ⟨g,1,none⟩=some (.int .i64 0):=by rw [cell_of_heap hG3];rfl
  have x1:=frozen_of_heap hG3 1
  have hG4:=heap_setCell_own hG3 1 (.int .i64 2)
  have hc4:=hc3.trans (setCell_chg W3 ⟨g,1,none⟩ (.int .i64 2)) (fun _ _ h=>h)
  have hO4:=HO.out.chg hc4 (fun k hk e=>HO.out.ne_cells HG2.out (by decide) (by rw [hk,show k=g from e]))
  have hF4:Fr w (W3.setCell ⟨g,1,none⟩ (.int .i64 2)):=Chg.below HF.out hc4 HF.out.size (fun i e=>by rw [show i=g from e];exact hgw)
  clear c0 c1 c2 c3 c4 c5 c6 c7 c8 c9 c10 c11 z2 z5 z6 z7 z8 z9 z10 z11 hc3
  go_wp2_with fail
  go_ret2
  rw [HL.out]at hO4
  exact⟨g,_,rfl,hG4,hgw,hO4,hF4⟩
theorem BytesEq_any(va vb:Value)(a:List UInt8)(w:World)(ha:See w eB va a)(hb:See w eB vb a) :
  Calls Tryz.prog 52 #[va,vb] w fun e w'=>e=.returned (.bool true)/\w=w':=by
 have k1:=run_conv_see eB w 22 9 Tryz.underlying22 Tryz.underlying5 Tryz.underlying9 rfl rfl ha
 have k2:=run_conv_see eB w 22 9 Tryz.underlying22 Tryz.underlying5 Tryz.underlying9 rfl rfl hb
 obtain⟨a0,cap,hv,_⟩:=ha.shape
 subst hv
 obtain⟨b0,cap2,hv2,_⟩:=hb.shape
 subst hv2
 clear ha hb
 go_enter Tryz.func52, Tryz.ntmps52
 go_wp2_with fail
 go_ret
 exact⟨by simp,rfl⟩
set_option maxRecDepth 512
def st5(W:World)(z:Nat)(v0 v1 v2 v3 v4:Value):World:=((((W.setCell ⟨z,0,none⟩ v0).setCell ⟨z,1,none⟩ v1).setCell ⟨z,2,none⟩ v2).setCell ⟨z,3,none⟩ v3).setCell ⟨z,4,none⟩ v4
theorem st5_at{T:TypeId}{W:World}{z:Nat}{u0 u1 u2 u3 u4:Value}(v0 v1 v2 v3 v4:Value)(h:W.heap[z]?=some (.cells #[u0,u1,u2,u3,u4] T (0,0))):(st5 W z v0 v1 v2 v3 v4).heap[z]?=some (.cells #[v0,v1,v2,v3,v4] T (0,0))/\Chg (fun k=>k=z) W (st5 W z v0 v1 v2 v3 v4):=by
  unfold st5
  have h0:(W.setCell ⟨z,0,none⟩ v0).heap[z]?=some (.cells #[v0,u1,u2,u3,u4] T (0,0)):=heap_setCell_own h 0 v0
  have c0:=setCell_chg W ⟨z,0,none⟩ v0
  generalize W.setCell ⟨z,0,none⟩ v0=W0 at *
  have h1:(W0.setCell ⟨z,1,none⟩ v1).heap[z]?=some (.cells #[v0,v1,u2,u3,u4] T (0,0)):=heap_setCell_own h0 1 v1
  have c1:=setCell_chg W0 ⟨z,1,none⟩ v1
  generalize W0.setCell ⟨z,1,none⟩ v1=W1 at *
  have h2:(W1.setCell ⟨z,2,none⟩ v2).heap[z]?=some (.cells #[v0,v1,v2,u3,u4] T (0,0)):=heap_setCell_own h1 2 v2
  have c2:=setCell_chg W1 ⟨z,2,none⟩ v2
  generalize W1.setCell ⟨z,2,none⟩ v2=W2 at *
  have h3:(W2.setCell ⟨z,3,none⟩ v3).heap[z]?=some (.cells #[v0,v1,v2,v3,u4] T (0,0)):=heap_setCell_own h2 3 v3
  have c3:=setCell_chg W2 ⟨z,3,none⟩ v3
  generalize W2.setCell ⟨z,3,none⟩ v3=W3 at *
  have h4:(W3.setCell ⟨z,4,none⟩ v4).heap[z]?=some (.cells #[v0,v1,v2,v3,v4] T (0,0)):=heap_setCell_own h3 4 v4
  have c4:=setCell_chg W3 ⟨z,4,none⟩ v4
  generalize W3.setCell ⟨z,4,none⟩ v4=W4 at *
  exact⟨h4,(((c0.trans c1 fun _ _ h=>h).trans c2 fun _ _ h=>h).trans c3 fun _ _ h=>h).trans c4 fun _ _ h=>h⟩
set_option maxRecDepth 100000
theorem verify25 (v : Value) (w : World) (hs : See w eB v x25) (ht : Crc w) :
    Calls Tryz.prog 27 #[v] w fun e w'=>e=.returned (.tuple #[.agg #[.int .i64 1,.int .i64 2,.int .i64 1,.int .i64 0,.bool true],.int .i64 0])/\Fr w w':=by
  have HU:=hid (fun W (h:Fr w W)=>aunpack25 v W (hs.fr h) (ht.fr h))
  have HP:=hid (fun u W (h:Fr w W) (h2:See W eR u l25)=>pack25 u W h2 (ht.fr h))
  have HEq:=hid (fun u W (h:Fr w W) (h2:See W eB u x25)=>BytesEq_any u v x25 W h2 (hs.fr h))
  have HL:Hid (l25.length=2):=rfl
  have hO0:(w.alloc (.cells #[.int .i64 0,.int .i64 0,.int .i64 0,.int .i64 0,.bool false] 66)).heap[w.heap.size]?=some (.cells #[.int .i64 0,.int .i64 0,.int .i64 0,.int .i64 0,.bool false] 66 (0,0)):=heap_new _ _ _ rfl
  have hf0:Fr w (w.alloc (.cells #[.int .i64 0,.int .i64 0,.int .i64 0,.int .i64 0,.bool false] 66)):=(Fr.refl w).alloc _
  have hz0:w.heap.size+1<=(w.alloc (.cells #[.int .i64 0,.int .i64 0,.int .i64 0,.int .i64 0,.bool false] 66)).heap.size:=by simp
  obtain⟨a0,cap,hv,_⟩:=hs.shape
  subst hv
  clear hs ht
  generalize x25=X at *
  generalize l25=L at *
  have HU1:=hid (HU.out _ hf0)
  go_enter Tryz.func27, Tryz.ntmps27
  go_wp2_with fail
  refine(HU1.out).mono ?_
  rintro e w1 ⟨g,u,rfl,hG1,hgw,hO1,hf1⟩
  have hR1:=hf1.heap hO0
  have hf01:=hf0.trans hf1
  have hgR:w.heap.size≠g:=by omega
  obtain⟨pu,zu,hu⟩:=hO1.shape'
  subst hu
  rw [HL.out]at hO1 hG1
  have c0:w1.cell? ⟨g,0,none⟩=some (.int .i64 1):=by rw [cell_of_heap hG1];rfl
  have c5:w1.cell? ⟨g,5,none⟩=some (.int .i64 16):=by rw [cell_of_heap hG1];rfl
  have c6:w1.cell? ⟨g,6,none⟩=some (.bool false):=by rw [cell_of_heap hG1];rfl
  have c7:w1.cell? ⟨g,7,none⟩=some (.int .i64 0):=by rw [cell_of_heap hG1];rfl
  have c8:w1.cell? ⟨g,8,none⟩=some (.int .i64 0):=by rw [cell_of_heap hG1];rfl
  have c9:w1.cell? ⟨g,9,none⟩=some (.int .i64 0):=by rw [cell_of_heap hG1];rfl
  have c10:w1.cell? ⟨g,10,none⟩=some (.int .i64 0):=by rw [cell_of_heap hG1];rfl
  have c11:w1.cell? ⟨g,11,none⟩=some (.slice pu 2 zu):=by rw [cell_of_heap hG1];rfl
  have HP1:=hid (HP.out _ w1.drew (hf01.trans (Fr.refl w1).drew) hO1.see.drew)
  clear HU HU1 hO0 hf0 hf1 HP
  go_upto_region 4 with fail
  go_cut [6,5]from 16 to 32 (fun av ev wx=>∃ pa za,av=.slice pa X.length za/\ev=.int .i64 0/\Ow wx w1.heap.size eB av X/\Fr w1 wx)
  case first=>
    go_region_held3 (fun W => W.cell? ⟨g, 0, none⟩ = some (.int .i64 1) ∧ W.cell? ⟨g, 5, none⟩ = some (.int .i64 16) ∧ W.cell? ⟨g, 6, none⟩ = some (.bool false) ∧ W.cell? ⟨g, 7, none⟩ = some (.int .i64 0) ∧ W.cell? ⟨g, 8, none⟩ = some (.int .i64 0) ∧ W.cell? ⟨g, 9, none⟩ = some (.int .i64 0) ∧ W.cell? ⟨g, 10, none⟩ = some (.int .i64 0) ∧ W.cell? ⟨g, 11, none⟩ = some (.slice pu 2 zu))
      (first | go_keep)
      ((first
        | (go_at_call 26; refine HP1.out.mono ?_; rintro e w2 ⟨u2, rfl, hO2, hf2⟩; obtain ⟨p2, z2, hq2⟩ := hO2.shape'; subst hq2
           have d0 := hf2.cell c0; have d5 := hf2.cell c5; have d6 := hf2.cell c6; have d7 := hf2.cell c7; have d8 := hf2.cell c8; have d9 := hf2.cell c9; have d10 := hf2.cell c10; have d11 := hf2.cell c11)))
    all_goals go_wp2_with fail
    all_goals go_meet
    all_goals exact⟨_,_,rfl,rfl,hO2,(Fr.refl w1).drew.trans hf2⟩
  case rest=>
    obtain⟨pa,za,rfl,rfl,hO3,hf3⟩:=hcut
    have hG3:=hf3.heap hG1
    have hR3:=hf3.heap hR1
    have hf03:=hf01.trans hf3
    have HE3:=hid (HEq.out _ wc hf03 hO3.see)
    clear HP1 HEq hO1 hG1 hR1 c0 c5 c6 c7 c8 c9 c10 c11 HL
    have x4:=frozen_of_heap hG3 4
    have y4:wc.cell? ⟨g,4,none⟩=some (.bool false):=by rw [cell_of_heap hG3];rfl
    go_upto_region 6 with(first | (refine(HE3.out).mono ?_;rintro e w4 ⟨rfl,rfl⟩))
    have hG4:=heap_setCell_own hG3 4 (.bool true)
    have hc4:=setCell_chg wc ⟨g,4,none⟩ (.bool true)
    have hR4:=hc4.heap hR3 (fun e=>hgR e)
    have hF4:Fr w (wc.setCell ⟨g,4,none⟩ (.bool true)):=Chg.below hf03 hc4 hf03.size (fun i e=>by rw [show i=g from e];exact Nat.le_of_succ_le (Nat.le_trans hz0 hgw))
    clear hG3 hR3 hf03 hf3 hO3 x4 y4 hf01 hc4 HE3
    generalize wc.setCell ⟨g,4,none⟩ (.bool true)=W4 at *
    have c0:W4.cell? ⟨g,0,none⟩=some (.int .i64 1):=by rw [cell_of_heap hG4];rfl
    have c1:W4.cell? ⟨g,1,none⟩=some (.int .i64 2):=by rw [cell_of_heap hG4];rfl
    have c2:W4.cell? ⟨g,2,none⟩=some (.int .i64 1):=by rw [cell_of_heap hG4];rfl
    have c3:W4.cell? ⟨g,3,none⟩=some (.int .i64 0):=by rw [cell_of_heap hG4];rfl
    have c4:W4.cell? ⟨g,4,none⟩=some (.bool true):=by rw [cell_of_heap hG4];rfl
    have d0:W4.cell? ⟨w.heap.size,0,none⟩=some (.int .i64 0):=by rw [cell_of_heap hR4];rfl
    have d1:W4.cell? ⟨w.heap.size,1,none⟩=some (.int .i64 0):=by rw [cell_of_heap hR4];rfl
    have d2:W4.cell? ⟨w.heap.size,2,none⟩=some (.int .i64 0):=by rw [cell_of_heap hR4];rfl
    have d3:W4.cell? ⟨w.heap.size,3,none⟩=some (.int .i64 0):=by rw [cell_of_heap hR4];rfl
    have d4:W4.cell? ⟨w.heap.size,4,none⟩=some (.bool false):=by rw [cell_of_heap hR4];rfl
    have z0:=frozen_of_heap hR4 0
    have z1:=frozen_of_heap hR4 1
    have z2:=frozen_of_heap hR4 2
    have z3:=frozen_of_heap hR4 3
    have z4:=frozen_of_heap hR4 4
    have KZ := hid (fun W' (h : W' = ((((W4.setCell ⟨w.heap.size, 0, none⟩ (.int .i64 1)).setCell ⟨w.heap.size, 1, none⟩ (.int .i64 2)).setCell ⟨w.heap.size, 2, none⟩ (.int .i64 1)).setCell ⟨w.heap.size, 3, none⟩ (.int .i64 0)).setCell ⟨w.heap.size, 4, none⟩ (.bool true)) => by
      have hs := st5_at (.int .i64 1) (.int .i64 2) (.int .i64 1) (.int .i64 0) (.bool true) hR4
      rw [show st5 W4 w.heap.size (.int .i64 1) (.int .i64 2) (.int .i64 1) (.int .i64 0) (.bool true) = W' from h.symm] at hs
      exact (⟨hs.1, Chg.below hF4 hs.2 hF4.size (fun i e => Nat.le_of_eq (show w.heap.size = i from e.symm))⟩ : W'.heap[w.heap.size]? = some (.cells #[.int .i64 1, .int .i64 2, .int .i64 1, .int .i64 0, .bool true] 66 (0, 0)) ∧ Fr w W'))
    clear hG4 hR4 hF4
    have hinf:(Tryz.prog.info? 66).map (·.size)=some 5:=by kernel_rfl
    go_wp2_with fail
    generalize hW:((((W4.setCell ⟨w.heap.size,0,none⟩ (.int .i64 1)).setCell ⟨w.heap.size,1,none⟩ (.int .i64 2)).setCell ⟨w.heap.size,2,none⟩ (.int .i64 1)).setCell ⟨w.heap.size,3,none⟩ (.int .i64 0)).setCell ⟨w.heap.size,4,none⟩ (.bool true)=W'
    obtain⟨hR5,hF5⟩:=KZ.out W' hW.symm
    clear hW KZ
    refine bodyPost_ret (v:=.tuple #[.agg #[.int .i64 1,.int .i64 2,.int .i64 1,.int .i64 0,.bool true],.int .i64 0]) (results_cell_tmp Tryz.results27 _ _ w.heap.size 66 _ (0,0) _ _ rfl rfl hR5 Tryz.underlying66 rfl hinf) rfl ?_
    exact⟨rfl,hF5⟩
set_option maxRecDepth 512
theorem see_five(W:World):See (W.alloc (.cells #[.int .u8 70,.int .u8 73,.int .u8 82,.int .u8 75,.int .u8 3] 5 (5,6))) eB (.slice (some ⟨W.heap.size,0,none⟩) 5 5) [70,73,82,75,3]:=by
 refine⟨eB.length_cells _,_,_,rfl,Nat.le_refl _,(by show 5<=maxLen;unfold maxLen;decide),by simp,.inr ⟨W.heap.size,0,rfl,fun j u hj=>?_⟩⟩
 rw [Nat.zero_add,cell_of_heap (heap_new W (.cells #[.int .u8 70,.int .u8 73,.int .u8 82,.int .u8 75,.int .u8 3] 5 (5,6)) W.heap.size rfl)]
 rw [show eB.cells [70,73,82,75,3]=(#[.int .u8 70,.int .u8 73,.int .u8 82,.int .u8 75,.int .u8 3]:Array Value).toList from rfl]at hj
 simpa using hj
set_option maxRecDepth 100000
theorem alive25(w:World)(ht:Crc w) :
  Calls Tryz.prog 10 #[] w fun e w'=>e=.returned (.bool true)/\Fr w w':=by
 have hs0:See (w.alloc (.cells #[.int .u64 0,.int .u8 0,.string ⟨#[]⟩,.string ⟨#[97]⟩,.int .u64 0,.int .u8 0,.string ⟨#[]⟩,.string ⟨#[98]⟩] 63)) eR (.slice (some ⟨w.heap.size,0,none⟩) 2 2) l25:=see_new eR w l25 _ _ 2 rfl rfl (by show 2<=maxLen;unfold maxLen;decide)
 have hf0:Fr w (w.alloc (.cells #[.int .u64 0,.int .u8 0,.string ⟨#[]⟩,.string ⟨#[97]⟩,.int .u64 0,.int .u8 0,.string ⟨#[]⟩,.string ⟨#[98]⟩] 63)):=(Fr.refl w).alloc _
 have HP:=hid (pack25 _ _ hs0 (ht.fr hf0))
 have HV:=hid (fun v W (h:Fr w W) (h2:See W eB v x25)=>verify25 v W h2 (ht.fr h))
 have HA:=hid (fun v W (h:Fr w W) (h2:See W eB v [70,73,82,75,3])=>AVersion_any v [70,73,82,75,3] W h2 (ht.fr h))
 have HN:=hid see_five
 have hl:Hid (x25.length<=1000):=n25.1
 rw [v25]at HA
 clear ht hs0
 generalize x25=X at *
 go_enter Tryz.func10, Tryz.ntmps10
 go_wp2_with fail
 refine(HP.out).mono ?_
 rintro e w1 ⟨u,rfl,hO1,hf1⟩
 have hf01:=hf0.trans hf1
 have HV1:=hid (HV.out u w1 hf01 hO1.see)
 obtain⟨p1,z1,hq1⟩:=hO1.shape'
 subst hq1
 clear HP HV hf0 hf1 hO1
 go_wp2_with fail
 refine(HV1.out).mono ?_
 rintro e w2 ⟨rfl,hf2⟩
 have hf02:=hf01.trans hf2
 clear HV1 hf01 hf2
 go_upto_region 3 with fail
 have hB3:(w2.alloc (.cells #[.int .i64 1,.int .i64 2,.int .i64 1,.int .i64 0,.bool true] 66)).heap[w2.heap.size]?=some (.cells #[.int .i64 1,.int .i64 2,.int .i64 1,.int .i64 0,.bool true] 66 (0,0)):=heap_new _ _ _ rfl
 have hf3:Fr w (w2.alloc (.cells #[.int .i64 1,.int .i64 2,.int .i64 1,.int .i64 0,.bool true] 66)):=hf02.trans ((Fr.refl w2).alloc _)
 generalize w2.alloc (.cells #[.int .i64 1,.int .i64 2,.int .i64 1,.int .i64 0,.bool true] 66)=W3 at *
 have hf34:Fr W3 (W3.alloc (.cells #[.int .u8 70,.int .u8 73,.int .u8 82,.int .u8 75,.int .u8 3] 5 (5,6))):=(Fr.refl W3).alloc _
 have HA1:=hid (HA.out _ _ (hf3.trans hf34) (HN.out W3))
 have hcv:(convert 22 22 (.slice (some ⟨W3.heap.size,0,none⟩) 5 5)).run Tryz.prog (W3.alloc (.cells #[.int .u8 70,.int .u8 73,.int .u8 82,.int .u8 75,.int .u8 3] 5))=.ok (.slice (some ⟨W3.heap.size,0,none⟩) 5 5) (W3.alloc (.cells #[.int .u8 70,.int .u8 73,.int .u8 82,.int .u8 75,.int .u8 3] 5 (5,6))):=
  Go.Joins.run_convert_bytes_const_at W3 22 5 #[.int .u8 70,.int .u8 73,.int .u8 82,.int .u8 75,.int .u8 3] 5 5 W3.heap.size rfl Tryz.underlying22 Tryz.underlying5
 clear HA HN hf02
 go_wp2_with fail
 refine(HA1.out).mono ?_
 rintro e w4 ⟨rfl,hf4⟩
 have hB4:=(hf34.trans hf4).heap hB3
 have hf5:=(hf3.trans hf34).trans hf4
 clear HA1 hf3 hf34 hf4 hB3
 obtain⟨y0,y1,y2,y3,y4⟩:=(show w4.cell? ⟨w2.heap.size,0,none⟩=some (.int .i64 1)/\w4.cell? ⟨w2.heap.size,1,none⟩=some (.int .i64 2)/\w4.cell? ⟨w2.heap.size,2,none⟩=some (.int .i64 1)/\w4.cell? ⟨w2.heap.size,3,none⟩=some (.int .i64 0)/\w4.cell? ⟨w2.heap.size,4,none⟩=some (.bool true)from⟨by rw [cell_of_heap hB4];rfl,by rw [cell_of_heap hB4];rfl,by rw [cell_of_heap hB4];rfl,by rw [cell_of_heap hB4];rfl,by rw [cell_of_heap hB4];rfl⟩)
 go_wp2_with fail
 go_ret
 exact⟨rfl,hf5⟩
theorem ArchVersions_any(v:Value)(l:List UInt8)(w:World)(ht:Crc w)(hs:See w eB v l) :
  Calls Tryz.prog 4 #[v] w fun e w'=>e=.returned (.bool true)/\Fr w w':=by
 have HL:=hid (alive25 w ht)
 have HA:=hid (fun W (h:Fr w W)=>AVersion_any v l W (hs.fr h) (ht.fr h))
 have HR:=hid (fun W (h:Fr w W)=>RVersion_any v l W (hs.fr h))
 generalize versV l=V at *
 obtain⟨a0,cap,hv,_⟩:=hs.shape
 subst hv
 clear hs ht
 go_enter Tryz.func4, Tryz.ntmps4
 go_wp2_with fail
 refine(HL.out).mono ?_
 rintro e w1 ⟨rfl,hf1⟩
 have HA1:=hid (HA.out w1 hf1)
 go_wp2_with fail
 refine(HA1.out).mono ?_
 rintro e w2 ⟨rfl,hf2⟩
 have hf02:=hf1.trans hf2
 have HR1:=hid (HR.out w2 hf02)
 go_wp2_with fail
 refine(HR1.out).mono ?_
 rintro e w3 ⟨rfl,hf3⟩
 go_wp2_with fail
 go_ret
 exact⟨rfl,hf02.trans hf3⟩
set_option maxRecDepth 512
end Go.Proofs.YtghcmindankceaaGreatDoor
