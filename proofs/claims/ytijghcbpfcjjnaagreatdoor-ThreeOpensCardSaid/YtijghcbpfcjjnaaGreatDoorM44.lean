/- Parts of the proof of ThreeOpens: Czd Crb Cr6. -/
import Derived.Test.YtijghcbpfcjjnaaGreatDoorM42
import Derived.Test.YtijghcbpfcjjnaaGreatDoorM28
import Derived.Test.YtijghcbpfcjjnaaGreatDoorM40
import Derived.Test.YtijghcbpfcjjnaaGreatDoorM43
import Derived.Deep.RegionHeld3
import Derived.BigQuiet
set_option linter.unusedVariables false
set_option linter.unusedSectionVars false
set_option linter.unusedSimpArgs false
set_option maxHeartbeats 8000000
namespace Go.Proofs.YtijghcbpfcjjnaaGreatDoor
open Go.RowKit Go.Fk
def openE(b:List UInt8):Nat:=if(bodyR b).1=0 then opEE (optH (headOf b)) (bodyR b).2.1 else(bodyR b).1
def openO(b:List UInt8):Opt:=if openE b=0 then optH (headOf b)else⟨0,false,0,0,0,0⟩
def openK(b:List UInt8):Nat:=if openE b=0 then(bodyR b).2.2 else 0
def openB(b:List UInt8):Bod:=opB (hBu (headOf b)) (bodyR b).2.1
set_option maxRecDepth 100000
theorem TOpen_any (v : Value) (b : List UInt8) (w : World) (hs : See w eB v b) (hl : b.length ≤ 1500) (ht : Crc w) :
    Calls Tryz.prog 5 #[v] w fun e w'=>∃ pv,e=.returned (.tuple #[optV (openO b),pv,N (openK b),.int .i64 (openE b:Int)])/\(openE b=0->∃ g,pv=.pointer (some ⟨g,0,none⟩)/\BodF w' g w.heap.size (openB b))/\(¬openE b=0->pv=.pointer none)/\Fr w w':=by
  have HM:=hid (fun W (h:Fr w W)=>mended_any v b W (hs.fr h) hl (ht.fr h))
  have HTc:=hid (fun W (h:Fr w W)=>ht.fr h)
  have hinf:(Tryz.prog.info? 25).map (·.size)=some optZ.size:=by kernel_rfl
  have hone:optZ.all (·.oneCell')=true:=by rw [List.all_toArray];rfl
  have hR0:(w.alloc (.cells optZ 25)).heap[w.heap.size]?=some (.cells optZ 25 (0,0)):=heap_new _ _ _ rfl
  have hf0:Fr w (w.alloc (.cells optZ 25)):=(Fr.refl w).alloc _
  have hz0:w.heap.size<(w.alloc (.cells optZ 25)).heap.size:=by simp
  obtain⟨a0,cap,hv,_⟩:=hs.shape
  subst hv
  clear hs ht
  have HM0:=hid (HM.out _ hf0)
  generalize hW0:w.alloc (.cells optZ 25)=W0 at *
  have hE:openE b=if(bodyR b).1=0 then opEE (optH (headOf b)) (bodyR b).2.1 else(bodyR b).1:=rfl
  by_cases hm:(bodyR b).1=0
  · obtain⟨ho,hbl,hnl,_⟩:=bodyR_facts b hm
    rw [if_pos hm]at hE
    have hK:openK b=if openE b=0 then(bodyR b).2.2 else 0:=rfl
    have hO:openO b=if openE b=0 then optH (headOf b)else⟨0,false,0,0,0,0⟩:=rfl
    have HOh:Hid (optV (optH (headOf b))=.agg #[N (hSz (headOf b)),.bool (hP (headOf b)),N (hBu (headOf b)),N (hD (headOf b)),N (hQ (headOf b)),N (hC (headOf b))]):=rfl
    have HOp:=hid (fun v W (h:Fr w W) (h2:See W eB v (bodyR b).2.1)=>bopen_any (optH (headOf b)) v (bodyR b).2.1 W h2 (by omega) (HTc.out W h))
    rw [<- hE,HOh.out]at HOp
    have HOB:Hid (opB (optH (headOf b)).bu.toNat (bodyR b).2.1=openB b):=by show opB ((hBu (headOf b):Int)).toNat _=_;rw [Int.toNat_natCast];rfl
    rw [HOB.out]at HOp
    have hm':(((bodyR b).1:Nat):Int)=0:=by omega
    rw [hm']at HM0
    have hM0:=HM0.out
    have HM1:Hid (Calls Tryz.prog 14 #[.slice a0 b.length cap] W0 fun e w'=>∃ g xv u,e=.returned (.tuple #[.pointer (some ⟨g,0,none⟩),u,N (bodyR b).2.2,.int .i64 0])/\Ow w' W0.heap.size eB u (bodyR b).2.1/\Fr W0 w'/\w'.heap[g]?=some (hdB (hSz (headOf b)) (hP (headOf b)) (hBu (headOf b)) (hD (headOf b)) (hQ (headOf b)) (hC (headOf b)) (hN (headOf b)) xv)):=hM0.mono fun e w' h=>by
      obtain⟨hv,u,h1,h2,h3,h4⟩:=h
      obtain⟨g,xv,h5,_,h6⟩:=h4 hm
      exact⟨g,xv,u,by rw [h1,h5],h2,h3,h6⟩
    clear hm' hM0 HM0 HM hE ho hbl hnl HTc HOB
    rw [hK,hO]
    clear hK hO
    generalize openE b=ER at *
    generalize openB b=OB at *
    have hne0:optV (if ER=0 then optH (headOf b)else⟨0,false,0,0,0,0⟩)=.agg (if ER=0 then #[N (hSz (headOf b)),.bool (hP (headOf b)),N (hBu (headOf b)),N (hD (headOf b)),N (hQ (headOf b)),N (hC (headOf b))]else optZ):=by
      split <;> rfl
    rw [hne0]
    generalize hSz (headOf b)=h1 at *
    generalize hP (headOf b)=h2 at *
    generalize hBu (headOf b)=h3 at *
    generalize hD (headOf b)=h4 at *
    generalize hQ (headOf b)=h5 at *
    generalize hC (headOf b)=h6 at *
    generalize hN (headOf b)=h7 at *
    generalize bodyR b=BR at *
    clear hm hne0 HOh
    go_enter Tryz.func5, Tryz.ntmps5
    go_upto_region 1 with fail
    go_wp2_with fail
    refine(HM1.out).mono ?_
    rintro e w1 ⟨g,xv,u,rfl,hU,hf1,hG1⟩
    obtain⟨ua,uc,hu⟩:=hU.shape'
    subst hu
    have hR1:=hf1.heap hR0
    have hf01:=hf0.trans hf1
    have d0:w1.cell? ⟨g,0,none⟩=some (N h1):=by rw [cell_of_heap hG1];rfl
    have d1:w1.cell? ⟨g,1,none⟩=some (.bool h2):=by rw [cell_of_heap hG1];rfl
    have d2:w1.cell? ⟨g,2,none⟩=some (N h3):=by rw [cell_of_heap hG1];rfl
    have d3:w1.cell? ⟨g,3,none⟩=some (N h4):=by rw [cell_of_heap hG1];rfl
    have d4:w1.cell? ⟨g,4,none⟩=some (N h5):=by rw [cell_of_heap hG1];rfl
    have d5:w1.cell? ⟨g,5,none⟩=some (N h6):=by rw [cell_of_heap hG1];rfl
    have HOp1:=hid (HOp.out _ w1 hf01 hU.see)
    clear HM1 HOp hU hR0
    go_wp2_with fail
    refine(HOp1.out).mono ?_
    rintro e w2 ⟨pv,rfl,hok,hno,hf2⟩
    have hR2:=hf2.heap hR1
    have hG2:=hf2.heap hG1
    have hf02:=hf01.trans hf2
    clear HOp1 hG1 hR1 d0 d1 d2 d3 d4 d5
    by_cases he:ER=0
    · obtain⟨q,rfl,hB⟩:=hok he
      subst he
      have d0:w2.cell? ⟨g,0,none⟩=some (N h1):=by rw [cell_of_heap hG2];rfl
      have d1:w2.cell? ⟨g,1,none⟩=some (.bool h2):=by rw [cell_of_heap hG2];rfl
      have d2:w2.cell? ⟨g,2,none⟩=some (N h3):=by rw [cell_of_heap hG2];rfl
      have d3:w2.cell? ⟨g,3,none⟩=some (N h4):=by rw [cell_of_heap hG2];rfl
      have d4:w2.cell? ⟨g,4,none⟩=some (N h5):=by rw [cell_of_heap hG2];rfl
      have d5:w2.cell? ⟨g,5,none⟩=some (N h6):=by rw [cell_of_heap hG2];rfl
      have hoc:(#[N h1,.bool h2,N h3,N h4,N h5,N h6]:Array Value).all (·.oneCell')=true:=by rw [List.all_toArray];rfl
      have hin2:(Tryz.prog.info? 25).map (·.size)=some (#[N h1,.bool h2,N h3,N h4,N h5,N h6]:Array Value).size:=by kernel_rfl
      have hG:=setRow_heap w2 w.heap.size optZ #[N h1,.bool h2,N h3,N h4,N h5,N h6] 25 (0,0) hR2
      have hst:=setRow_chg w2 w.heap.size #[N h1,.bool h2,N h3,N h4,N h5,N h6]
      have hff:Fr w (w2.setRow w.heap.size #[N h1,.bool h2,N h3,N h4,N h5,N h6]):=Chg.below hf02 hst hf02.size (fun k hk=>by omega)
      have hBq:BodF (w2.setRow w.heap.size #[N h1,.bool h2,N h3,N h4,N h5,N h6]) q w.heap.size OB:=by
        obtain⟨⟨cv,sv,tv,lv,xv,yv,fv,av,k0,k1,k2,k3,k4,k5,⟨qs,k6,k7⟩,⟨ps,k8,k9⟩⟩,k10⟩:=hB
        have hw1:=hf01.size
        have hqg:q≠w.heap.size:=by
          have:=k10
          have h0:=(Array.getElem?_eq_some_iff.1 (show w2.heap[w.heap.size]?=_ from hR2)).1
          intro e
          rw [e,hR2]at k0
          have k00:=Option.some.inj k0
          injection k00 with _ k01
          exact absurd k01 (by decide)
        exact ⟨⟨cv, sv, tv, lv, xv, yv, fv, av, hst.heap k0 hqg, ow_g (k1.rebase hw1) hR2 (by decide) hst, ow_g (k2.rebase hw1) hR2 (by decide) hst, ow_g (k3.rebase hw1) hR2 (by decide) hst, ow_g (k4.rebase hw1) hR2 (by decide) hst, ow_g (k5.rebase hw1) hR2 (by decide) hst,
          ⟨qs, ow_g (k6.rebase hw1) hR2 (by decide) hst, owns_g (k7.rebase hw1) hR2 (by decide) hst⟩, ⟨ps, ow_g (k8.rebase hw1) hR2 (by decide) hst, owns_g (k9.rebase hw1) hR2 (by decide) hst⟩⟩, Nat.le_trans hw1 k10⟩
      clear hok hno hB hst
      go_wp2_with (first | (refine wpList_store_row rfl 25 (.tmp 2) (.tmp 38) rfl w.heap.size #[N h1,.bool h2,N h3,N h4,N h5,N h6] rfl rfl 25 _ hR2 hin2 rfl hoc ?_))
      go_wp2_with fail
      (try simp only [Exit.inBlock,Exit.then])
      refine bodyPost_ret (v:=.tuple #[.agg #[N h1,.bool h2,N h3,N h4,N h5,N h6],.pointer (some ⟨q,0,none⟩),N BR.2.2,.int .i64 0]) (results_cell_tmp3 Tryz.results5 _ _ w.heap.size 25 _ (0,0) _ _ _ _ rfl rfl rfl rfl hG Tryz.underlying25 rfl hin2) rfl ?_
      exact⟨_,rfl,⟨q,rfl,hBq⟩,hff⟩
    · have hpn:=hno he
      subst hpn
      have i2:¬(ER:Int)=0:=by omega
      have hG:=setRow_heap w2 w.heap.size optZ optZ 25 (0,0) hR2
      have hff:Fr w (w2.setRow w.heap.size optZ):=Chg.below hf02 (setRow_chg _ _ _) hf02.size (fun k hk=>by omega)
      have HNe:=hid he
      clear hok hno he
      go_wp2_with (first | (refine wpList_store_row rfl 25 (.tmp 2) (.tmp 33) rfl w.heap.size optZ rfl rfl 25 _ hR2 hinf rfl hone ?_))
      go_wp2_with fail
      (try simp only [Exit.inBlock,Exit.then])
      refine bodyPost_ret (v:=.tuple #[.agg optZ,.pointer none,.int .i64 0,.int .i64 (ER:Int)]) (results_cell_tmp3 Tryz.results5 _ _ w.heap.size 25 _ (0,0) _ _ _ _ rfl rfl rfl rfl hG Tryz.underlying25 rfl hinf) rfl ?_
      exact⟨_,rfl,rfl,hff⟩
  · rw [if_neg hm]at hE
    have hne:¬openE b=0:=by rw [hE];exact hm
    have hK:openK b=0:=by unfold openK;rw [if_neg hne]
    have hO:openO b=⟨0,false,0,0,0,0⟩:=by unfold openO;rw [if_neg hne]
    rw [hK,hO,hE]
    rw [hE]at hne
    have i2:¬((bodyR b).1:Int)=0:=by omega
    clear hE hK hO
    generalize bodyR b=BR at *
    have HNe:=hid hne
    clear hm hne HTc
    go_enter Tryz.func5, Tryz.ntmps5
    go_upto_region 1 with fail
    go_wp2_with fail
    refine(HM0.out).mono ?_
    rintro e w1 ⟨hv,u,rfl,hU,hf1,_⟩
    have hR1:=hf1.heap hR0
    have hG:=setRow_heap w1 w.heap.size optZ optZ 25 (0,0) hR1
    have hff:Fr w (w1.setRow w.heap.size optZ):=Chg.below (hf0.trans hf1) (setRow_chg _ _ _) (hf0.trans hf1).size (fun k hk=>by omega)
    clear HM HM0 hR0 hU
    go_wp2_with (first | (refine wpList_store_row rfl 25 (.tmp 2) (.tmp 20) rfl w.heap.size optZ rfl rfl 25 _ hR1 hinf rfl hone ?_))
    go_wp2_with fail
    (try simp only [Exit.inBlock,Exit.then])
    refine bodyPost_ret (v:=.tuple #[.agg optZ,.pointer none,.int .i64 0,.int .i64 (BR.1:Int)]) (results_cell_tmp3 Tryz.results5 _ _ w.heap.size 25 _ (0,0) _ _ _ _ rfl rfl rfl rfl hG Tryz.underlying25 rfl hinf) rfl ?_
    exact⟨_,rfl,fun h=>absurd h HNe.out,fun _=>rfl,hff⟩
set_option maxRecDepth 512
theorem results_cell2_tmp2{P:Program}{fn:Func}{p q r s:Tmp}{ty ty2:TypeId}(h:fn.results=#[.cell p ty,.cell q ty2,.tmp r,.tmp s])(tmps:Array Value)(w:World)(g g2:Nat)(t t2:TypeId)(cs cs2:Array Value)(fr fr2:Nat × Nat)(d d2:TypeDesc)(v1 v2:Value)
  (hp:tmps.getD p undef=.pointer (some ⟨g,0,none⟩)) (hq:tmps.getD q undef=.pointer (some ⟨g2,0,none⟩)) (hr:tmps.getD r undef=v1) (hs:tmps.getD s undef=v2) (hg:w.heap[g]?=some (.cells cs t fr)) (hg2:w.heap[g2]?=some (.cells cs2 t2 fr2))
  (hu:P.underlying ty=some d) (hd:(match d with | .struct _ | .array _ _=>true | _=>false)=true) (hi:(P.info? ty).map (·.size)=some cs.size)
  (hu2:P.underlying ty2=some d2) (hd2:(match d2 with | .struct _ | .array _ _=>true | _=>false)=true) (hi2:(P.info? ty2).map (·.size)=some cs2.size) :
  (results fn tmps).run P w=.ok (.tuple #[.agg cs,.agg cs2,v1,v2]) w:=by
 have hp':tmps[p]?.getD undef=.pointer (some ⟨g,0,none⟩):=by simpa using hp
 have hq':tmps[q]?.getD undef=.pointer (some ⟨g2,0,none⟩):=by simpa using hq
 have hr':tmps[r]?.getD undef=v1:=by simpa using hr
 have hs':tmps[s]?.getD undef=v2:=by simpa using hs
 simp [results,h,hp',hq',hr',hs',asAddr,run_loadVar_row w g t ty cs fr d hg hu hd hi,run_loadVar_row w g2 t2 ty2 cs2 fr2 d2 hg2 hu2 hd2 hi2]
def set6(W:World)(z:Nat)(v0 v1 v2 v3 v4 v5:Value):World:=(((((W.setCell ⟨z,0,none⟩ v0).setCell ⟨z,1,none⟩ v1).setCell ⟨z,2,none⟩ v2).setCell ⟨z,3,none⟩ v3).setCell ⟨z,4,none⟩ v4).setCell ⟨z,5,none⟩ v5
theorem set6_at{T:TypeId}{W:World}{z:Nat}{u0 u1 u2 u3 u4 u5:Value}(v0 v1 v2 v3 v4 v5:Value)(h:W.heap[z]?=some (.cells #[u0,u1,u2,u3,u4,u5] T (0,0))):(set6 W z v0 v1 v2 v3 v4 v5).heap[z]?=some (.cells #[v0,v1,v2,v3,v4,v5] T (0,0))/\Chg (fun k=>k=z) W (set6 W z v0 v1 v2 v3 v4 v5):=by
  unfold set6
  have h0:(W.setCell ⟨z,0,none⟩ v0).heap[z]?=some (.cells #[v0,u1,u2,u3,u4,u5] T (0,0)):=heap_setCell_own h 0 v0
  have c0:=setCell_chg W ⟨z,0,none⟩ v0
  generalize W.setCell ⟨z,0,none⟩ v0=W0 at *
  have h1:(W0.setCell ⟨z,1,none⟩ v1).heap[z]?=some (.cells #[v0,v1,u2,u3,u4,u5] T (0,0)):=heap_setCell_own h0 1 v1
  have c1:=setCell_chg W0 ⟨z,1,none⟩ v1
  generalize W0.setCell ⟨z,1,none⟩ v1=W1 at *
  have h2:(W1.setCell ⟨z,2,none⟩ v2).heap[z]?=some (.cells #[v0,v1,v2,u3,u4,u5] T (0,0)):=heap_setCell_own h1 2 v2
  have c2:=setCell_chg W1 ⟨z,2,none⟩ v2
  generalize W1.setCell ⟨z,2,none⟩ v2=W2 at *
  have h3:(W2.setCell ⟨z,3,none⟩ v3).heap[z]?=some (.cells #[v0,v1,v2,v3,u4,u5] T (0,0)):=heap_setCell_own h2 3 v3
  have c3:=setCell_chg W2 ⟨z,3,none⟩ v3
  generalize W2.setCell ⟨z,3,none⟩ v3=W3 at *
  have h4:(W3.setCell ⟨z,4,none⟩ v4).heap[z]?=some (.cells #[v0,v1,v2,v3,v4,u5] T (0,0)):=heap_setCell_own h3 4 v4
  have c4:=setCell_chg W3 ⟨z,4,none⟩ v4
  generalize W3.setCell ⟨z,4,none⟩ v4=W4 at *
  have h5:(W4.setCell ⟨z,5,none⟩ v5).heap[z]?=some (.cells #[v0,v1,v2,v3,v4,v5] T (0,0)):=heap_setCell_own h4 5 v5
  have c5:=setCell_chg W4 ⟨z,5,none⟩ v5
  generalize W4.setCell ⟨z,5,none⟩ v5=W5 at *
  exact⟨h5,((((c0.trans c1 fun _ _ h=>h).trans c2 fun _ _ h=>h).trans c3 fun _ _ h=>h).trans c4 fun _ _ h=>h).trans c5 fun _ _ h=>h⟩
theorem set66{T1 T2:TypeId}{W:World}{y z:Nat}{u0 u1 u2 u3 u4 u5 t0 t1 t2 t3 t4 t5:Value}(a0 a1 a2 a3 a4 a5 c0 c1 c2 c3 c4 c5:Value)(h1:W.heap[y]?=some (.cells #[u0,u1,u2,u3,u4,u5] T1 (0,0)))(h2:W.heap[z]?=some (.cells #[t0,t1,t2,t3,t4,t5] T2 (0,0)))(hyz:y≠z) :
  ∀ W', (W' = (set6 (set6 W y a0 a1 a2 a3 a4 a5) z c0 c1 c2 c3 c4 c5).drew ∨ W' = (set6 (set6 W z c0 c1 c2 c3 c4 c5) y a0 a1 a2 a3 a4 a5).drew) →
   W'.heap[y]?=some (.cells #[a0,a1,a2,a3,a4,a5] T1 (0,0))/\W'.heap[z]?=some (.cells #[c0,c1,c2,c3,c4,c5] T2 (0,0))/\Chg (fun k=>k=y\/k=z) W W':=by
 intro W' e
 rcases e with e | e
 · obtain⟨g1,k1⟩:=set6_at a0 a1 a2 a3 a4 a5 h1
   generalize set6 W y a0 a1 a2 a3 a4 a5=V at *
   obtain⟨g2,k2⟩:=set6_at c0 c1 c2 c3 c4 c5 (k1.heap h2 (fun e=>hyz e.symm))
   generalize set6 V z c0 c1 c2 c3 c4 c5=V2 at *
   subst e
   exact⟨k2.heap g1 hyz,g2,((k1.mono (G':=fun k=>k=y\/k=z) fun _ _ h=>.inl h).trans k2 fun _ _ h=>.inr h).trans ((Fr.refl V2).drew.chg (fun k=>k=y\/k=z)) fun _ _ h=>h⟩
 · obtain⟨g1,k1⟩:=set6_at c0 c1 c2 c3 c4 c5 h2
   generalize set6 W z c0 c1 c2 c3 c4 c5=V at *
   obtain⟨g2,k2⟩:=set6_at a0 a1 a2 a3 a4 a5 (k1.heap h1 (fun e=>hyz e))
   generalize set6 V y a0 a1 a2 a3 a4 a5=V2 at *
   subst e
   exact⟨g2,k2.heap g1 (fun e=>hyz e.symm),((k1.mono (G':=fun k=>k=y\/k=z) fun _ _ h=>.inr h).trans k2 fun _ _ h=>.inl h).trans ((Fr.refl V2).drew.chg (fun k=>k=y\/k=z)) fun _ _ h=>h⟩
theorem cells6{T:TypeId}{W:World}{z:Nat}{u0 u1 u2 u3 u4 u5:Value}(h:W.heap[z]?=some (.cells #[u0,u1,u2,u3,u4,u5] T (0,0))):W.cell? ⟨z,0,none⟩=some u0/\W.cell? ⟨z,1,none⟩=some u1/\W.cell? ⟨z,2,none⟩=some u2/\W.cell? ⟨z,3,none⟩=some u3/\W.cell? ⟨z,4,none⟩=some u4/\W.cell? ⟨z,5,none⟩=some u5:=
 ⟨(cell_of_heap h 0).trans rfl,(cell_of_heap h 1).trans rfl,(cell_of_heap h 2).trans rfl,(cell_of_heap h 3).trans rfl,(cell_of_heap h 4).trans rfl,(cell_of_heap h 5).trans rfl⟩
theorem frozen6{T:TypeId}{W:World}{z:Nat}{cs:Array Value}(h:W.heap[z]?=some (.cells cs T (0,0))):W.frozen? ⟨z,0,none⟩=false/\W.frozen? ⟨z,1,none⟩=false/\W.frozen? ⟨z,2,none⟩=false/\W.frozen? ⟨z,3,none⟩=false/\W.frozen? ⟨z,4,none⟩=false/\W.frozen? ⟨z,5,none⟩=false:=
 ⟨frozen_of_heap h 0,frozen_of_heap h 1,frozen_of_heap h 2,frozen_of_heap h 3,frozen_of_heap h 4,frozen_of_heap h 5⟩
structure RBo (w:World) (base:Nat) (B:Bod) (cs:Array Value):Prop where
 h:∃ (cv xv yv:Value) (f1 t1 l1:Option Addr) (f2 f3 t2 t3 l2 l3:Nat),cs=#[cv,.slice f1 f2 f3,.slice t1 t2 t3,.slice l1 l2 l3,xv,yv]/\Ow w base eJ cv B.counts/\Ow w base eS xv B.terms/\(∃ qs,Ow w base eHi yv qs/\Owns w base eJ qs B.lists)
theorem RBo.chg{G:Nat->Prop}{w w':World}{base:Nat}{B:Bod}{cs:Array Value}(h:RBo w base B cs)(hc:Chg G w w')(hg:∀ k,G k->k<base):RBo w' base B cs:=by
 obtain⟨cv,xv,yv,f1,t1,l1,f2,f3,t2,t3,l2,l3,e,k1,k2,qs,k3,k4⟩:=h
 exact⟨cv,xv,yv,f1,t1,l1,f2,f3,t2,t3,l2,l3,e,k1.chg hc (fun k hk x=>by have:=(k1.lt k hk).1;have:=hg k x;omega),k2.chg hc (fun k hk x=>by have:=(k2.lt k hk).1;have:=hg k x;omega),qs,k3.chg hc (fun k hk x=>by have:=(k3.lt k hk).1;have:=hg k x;omega),k4.1,fun t x1 x2=>(k4.2 t x1 x2).chg hc (fun k hk x=>by have:=((k4.2 t x1 x2).lt k hk).1;have:=hg k x;omega)⟩
theorem RBo.rebase{w:World}{base b:Nat}{B:Bod}{cs:Array Value}(h:RBo w base B cs)(hb:b<=base):RBo w b B cs:=by
 obtain⟨cv,xv,yv,f1,t1,l1,f2,f3,t2,t3,l2,l3,e,k1,k2,qs,k3,k4⟩:=h
 exact⟨cv,xv,yv,f1,t1,l1,f2,f3,t2,t3,l2,l3,e,k1.rebase hb,k2.rebase hb,qs,k3.rebase hb,k4.rebase hb⟩
set_option maxRecDepth 100000
theorem R24Open_any (v : Value) (b : List UInt8) (w : World) (hs : See w eB v b) (hl : b.length ≤ 1500) :
    Calls Tryz.prog 6 #[v] w fun e w'=>∃ cs,e=.returned (.tuple #[optV (openO b),.agg cs,N (openK b),.int .i64 (openE b:Int)])/\(openE b=0->RBo w' w.heap.size (openB b) cs)/\(¬openE b=0->cs=rbZ)/\Fr w w':=by
  have hinf:(Tryz.prog.info? 38).map (·.size)=some rbZ.size:=by kernel_rfl
  have hone:rbZ.all (·.oneCell')=true:=by rw [List.all_toArray];rfl
  have hinfO:(Tryz.prog.info? 25).map (·.size)=some optZ.size:=by kernel_rfl
  have honeO:optZ.all (·.oneCell')=true:=by rw [List.all_toArray];rfl
  have hf0:Fr w ((w.alloc (.cells optZ 25)).alloc (.cells rbZ 38)):=((Fr.refl w).alloc _).alloc _
  have hA0:((w.alloc (.cells optZ 25)).alloc (.cells rbZ 38)).heap[w.heap.size]?=some (.cells optZ 25 (0,0)):=((Fr.refl _).alloc _).heap (heap_new w (.cells optZ 25) w.heap.size rfl)
  have hB0:((w.alloc (.cells optZ 25)).alloc (.cells rbZ 38)).heap[w.heap.size+1]?=some (.cells rbZ 38 (0,0)):=heap_new (w.alloc (.cells optZ 25)) (.cells rbZ 38) (w.heap.size+1) (by simp)
  have hz0:w.heap.size+2<=((w.alloc (.cells optZ 25)).alloc (.cells rbZ 38)).heap.size:=by simp
  have HBd:=hid (RBody_any v b _ (hs.fr hf0) hl)
  have hE:openE b=if(bodyR b).1=0 then opEE (optH (headOf b)) (bodyR b).2.1 else(bodyR b).1:=rfl
  have hFc:=bodyR_facts b
  obtain⟨a0,cap,hv,_⟩:=hs.shape
  subst hv
  clear hs
  by_cases hm:(bodyR b).1=0
  · obtain⟨ho,hbl,hnl,_⟩:=hFc hm
    rw [if_pos hm]at hE
    have hK:openK b=if openE b=0 then(bodyR b).2.2 else 0:=rfl
    have hO:openO b=if openE b=0 then optH (headOf b)else⟨0,false,0,0,0,0⟩:=rfl
    have HOp:=hid (fun v W (h2:See W eB v (bodyR b).2.1)=>ROpen_any (optH (headOf b)) v (bodyR b).2.1 W h2 (by omega))
    have HOh:Hid (optV (optH (headOf b))=.agg #[N (hSz (headOf b)),.bool (hP (headOf b)),N (hBu (headOf b)),N (hD (headOf b)),N (hQ (headOf b)),N (hC (headOf b))]):=rfl
    have HOB:Hid (opB (optH (headOf b)).bu.toNat (bodyR b).2.1=openB b):=by show opB ((hBu (headOf b):Int)).toNat _=_;rw [Int.toNat_natCast];rfl
    rw [<- hE,HOh.out,HOB.out]at HOp
    have hm':(((bodyR b).1:Nat):Int)=0:=by omega
    rw [hm']at HBd
    have hB2:=HBd.out
    have HB1:Hid (Calls Tryz.prog 16 #[.slice a0 b.length cap] ((w.alloc (.cells optZ 25)).alloc (.cells rbZ 38)) fun e w'=>∃ u,e=.returned (.tuple #[.agg #[N (hSz (headOf b)),.bool (hP (headOf b)),N (hBu (headOf b)),N (hD (headOf b)),N (hQ (headOf b)),N (hC (headOf b))],u,N (bodyR b).2.2,.int .i64 0])/\See w' eB u (bodyR b).2.1/\u.ownBlock=u.ownBlock/\Fr ((w.alloc (.cells optZ 25)).alloc (.cells rbZ 38)) w'):=hB2.mono fun e w' h=>by
      obtain⟨ov,u,k1,k2,k3,k4,_⟩:=h
      exact⟨u,by rw [k1,k4 hm,HOh.out],k2.see,rfl,k3⟩
    clear hm' hB2 HBd ho hbl hnl HOB hE hFc
    rw [hK,hO]
    clear hK hO
    generalize openE b=ER at *
    generalize openB b=OB at *
    have hne0:optV (if ER=0 then optH (headOf b)else⟨0,false,0,0,0,0⟩)=.agg (if ER=0 then #[N (hSz (headOf b)),.bool (hP (headOf b)),N (hBu (headOf b)),N (hD (headOf b)),N (hQ (headOf b)),N (hC (headOf b))]else optZ):=by
      split <;> rfl
    rw [hne0]
    generalize hSz (headOf b)=h1 at *
    generalize hP (headOf b)=h2 at *
    generalize hBu (headOf b)=h3 at *
    generalize hD (headOf b)=h4 at *
    generalize hQ (headOf b)=h5 at *
    generalize hC (headOf b)=h6 at *
    generalize bodyR b=BR at *
    clear hm hne0 HOh
    go_enter Tryz.func6, Tryz.ntmps6
    go_upto_region 1 with fail
    generalize (w.alloc (.cells optZ 25)).alloc (.cells rbZ 38)=W0 at *
    go_wp2_with fail
    refine(HB1.out).mono ?_
    rintro e w1 ⟨u,rfl,hU,_,hf1⟩
    obtain⟨ua,uc,hu,_⟩:=hU.shape
    subst hu
    have hA1:=hf1.heap hA0
    have hB1:=hf1.heap hB0
    have hf01:=hf0.trans hf1
    have hz1:w.heap.size+2<=w1.heap.size:=Nat.le_trans hz0 hf1.size
    obtain⟨X,hXs⟩:∃ X,X=w1.heap.size:=⟨_,rfl⟩
    have hfx:Fr w1 (w1.alloc (.cells #[N h1,.bool h2,N h3,N h4,N h5,N h6] 25)):=(Fr.refl w1).alloc _
    have hX2:=heap_new w1 (.cells #[N h1,.bool h2,N h3,N h4,N h5,N h6] 25) X hXs
    have hA2:=hfx.heap hA1
    have hB2:=hfx.heap hB1
    have hf02:=hf01.trans hfx
    have hz2:X+1<=(w1.alloc (.cells #[N h1,.bool h2,N h3,N h4,N h5,N h6] 25)).heap.size:=by simp [hXs]
    have hwX:w.heap.size+2<=X:=by omega
    have HOp1:=hid (HOp.out _ _ (hU.fr hfx))
    clear HB1 HOp hU hA0 hB0 hA1 hB1 hf01 hfx hf0 hf1 hz0 hz1
    go_upto_region 4 with fail
    rw [<- hXs]
    have HXs:=hid hXs
    clear hXs
    generalize w1.alloc (.cells #[N h1,.bool h2,N h3,N h4,N h5,N h6] 25)=w2 at *
    have hinfC:(Tryz.prog.info? 25).map (·.size)=some (#[N h1,.bool h2,N h3,N h4,N h5,N h6]:Array Value).size:=by kernel_rfl
    go_wp2_with (first | (refine wpList_load_row rfl 25 (.tmp 6) rfl X rfl 25 #[N h1,.bool h2,N h3,N h4,N h5,N h6] (0,0) _ hX2 Tryz.underlying25 rfl hinfC ?_))
    refine(HOp1.out).mono ?_
    rintro e w3 ⟨cs,rfl,hok,hno,hf3⟩
    have hA3:=hf3.heap hA2
    have hB3:=hf3.heap hB2
    have hX3:=hf3.heap hX2
    have hf03:=hf02.trans hf3
    clear HOp1 hA2 hB2 hX2 hf02
    by_cases he:ER=0
    · obtain⟨cv,fv,tv,lv,xv,yv,rfl,k1,k2,k3,k4,⟨qs,k5,k6⟩,⟨ps,k7,-,-⟩⟩:=(hok he).h
      subst he
      obtain⟨c1,d1,hx⟩:=k1.shape'
      subst hx
      obtain⟨c2,d2,hx⟩:=k2.shape'
      subst hx
      obtain⟨c3,d3,hx⟩:=k3.shape'
      subst hx
      obtain⟨c4,d4,hx⟩:=k4.shape'
      subst hx
      obtain⟨c5,d5,hx⟩:=k5.shape'
      subst hx
      obtain⟨c6,d6,hx⟩:=k7.shape'
      subst hx
      have hRo:RBo w3 w2.heap.size OB #[.slice c1 OB.counts.length d1,.slice c6 ps.length d6,.slice c2 OB.times.length d2,.slice c3 OB.levels.length d3,.slice c4 OB.terms.length d4,.slice c5 qs.length d5]:=⟨_,_,_,_,_,_,_,_,_,_,_,_,rfl,k1,k4,qs,k5,k6⟩
      have hzz:X+1<=w3.heap.size:=Nat.le_trans hz2 hf3.size
      clear hok hno k1 k2 k3 k4 k5 k6 k7 hf3
      obtain⟨Y,hYs⟩:∃ Y,Y=w3.heap.size:=⟨_,rfl⟩
      have hfy:Fr w3 (w3.alloc (.cells #[.slice c1 OB.counts.length d1,.slice c6 ps.length d6,.slice c2 OB.times.length d2,.slice c3 OB.levels.length d3,.slice c4 OB.terms.length d4,.slice c5 qs.length d5] 38)):=(Fr.refl w3).alloc _
      have hY4:=heap_new w3 (.cells #[.slice c1 OB.counts.length d1,.slice c6 ps.length d6,.slice c2 OB.times.length d2,.slice c3 OB.levels.length d3,.slice c4 OB.terms.length d4,.slice c5 qs.length d5] 38) Y hYs
      have hA4:=hfy.heap hA3
      have hB4:=hfy.heap hB3
      have hX4:=hfy.heap hX3
      have hf04:=hf03.trans hfy
      have hRo4:=hRo.chg (hfy.chg (fun _=>False)) (fun _ h=>h.elim)
      have hXY:X+1<=Y:=by omega
      have hb2:X+1<=w2.heap.size:=hz2
      clear hA3 hB3 hX3 hf03 hfy hRo
      go_upto_region 7 with fail
      rw [<- hYs]
      have HYs:=hid hYs
      clear hYs
      generalize w3.alloc (.cells #[.slice c1 OB.counts.length d1,.slice c6 ps.length d6,.slice c2 OB.times.length d2,.slice c3 OB.levels.length d3,.slice c4 OB.terms.length d4,.slice c5 qs.length d5] 38)=w4 at *
      have HZ:=hid (set66 (N h1) (.bool h2) (N h3) (N h4) (N h5) (N h6) (.slice c1 OB.counts.length d1) (.slice c6 ps.length d6) (.slice c2 OB.times.length d2) (.slice c3 OB.levels.length d3) (.slice c4 OB.terms.length d4) (.slice c5 qs.length d5) hA4 hB4 (by omega))
      have HRo:=hid (fun W' (h:Chg (fun k=>k=w.heap.size\/k=w.heap.size+1) w4 W')=>(hRo4.chg h (fun k e=>by have e:k=w.heap.size\/k=w.heap.size+1:=e;omega)).rebase (show w.heap.size<=w2.heap.size by omega))
      have HFr:=hid (fun W' (h:Chg (fun k=>k=w.heap.size\/k=w.heap.size+1) w4 W')=>(show Fr w W' from Chg.below hf04 h hf04.size (fun k e=>by have e:k=w.heap.size\/k=w.heap.size+1:=e;omega)))
      obtain⟨x0,x1,x2,x3,x4,x5⟩:=cells6 hX4
      obtain⟨y0,y1,y2,y3,y4,y5⟩:=cells6 hY4
      obtain⟨a0',a1',a2',a3',a4',a5'⟩:=cells6 hA4
      obtain⟨b0,b1,b2,b3,b4,b5⟩:=cells6 hB4
      obtain⟨f0,f1,f2,f3,f4,f5⟩:=frozen6 hA4
      obtain⟨g0,g1,g2,g3,g4,g5⟩:=frozen6 hB4
      clear hX4 hY4 hA4 hB4 hRo4 hf04
      go_cut [4,5]from 34 to 36 (fun nv ev wx=>nv=N BR.2.2/\ev=.int .i64 0/\wx.heap[w.heap.size]?=some (.cells #[N h1,.bool h2,N h3,N h4,N h5,N h6] 25 (0,0))/\wx.heap[w.heap.size+1]?=some (.cells #[.slice c1 OB.counts.length d1,.slice c6 ps.length d6,.slice c2 OB.times.length d2,.slice c3 OB.levels.length d3,.slice c4 OB.terms.length d4,.slice c5 qs.length d5] 38 (0,0))/\RBo wx w.heap.size OB #[.slice c1 OB.counts.length d1,.slice c6 ps.length d6,.slice c2 OB.times.length d2,.slice c3 OB.levels.length d3,.slice c4 OB.terms.length d4,.slice c5 qs.length d5]/\Fr w wx)
      case first=>
        go_region
        all_goals go_wp2_with fail
        all_goals go_meet
        all_goals first
          | (obtain⟨m1,m2,m3⟩:=HZ.out _ (.inl rfl);exact⟨rfl,rfl,m1,m2,HRo.out _ m3,HFr.out _ m3⟩)
          | (obtain⟨m1,m2,m3⟩:=HZ.out _ (.inr rfl);exact⟨rfl,rfl,m1,m2,HRo.out _ m3,HFr.out _ m3⟩)
      case rest=>
        obtain⟨rfl,rfl,hG4,hG3,hRB,hff⟩:=hcut
        clear x0 x1 x2 x3 x4 x5 y0 y1 y2 y3 y4 y5 a0' a1' a2' a3' a4' a5' b0 b1 b2 b3 b4 b5 f0 f1 f2 f3 f4 f5 g0 g1 g2 g3 g4 g5
        go_wp2_with fail
        (try simp only [Exit.inBlock,Exit.then])
        refine bodyPost_ret (v:=.tuple #[.agg #[N h1,.bool h2,N h3,N h4,N h5,N h6],.agg #[.slice c1 OB.counts.length d1,.slice c6 ps.length d6,.slice c2 OB.times.length d2,.slice c3 OB.levels.length d3,.slice c4 OB.terms.length d4,.slice c5 qs.length d5],N BR.2.2,.int .i64 0]) (results_cell2_tmp2 Tryz.results6 _ _ w.heap.size (w.heap.size+1) 25 38 _ _ _ _ _ _ _ _ rfl rfl rfl rfl hG4 hG3 Tryz.underlying25 rfl hinfO Tryz.underlying38 rfl hinf) rfl ?_
        exact⟨_,rfl,hRB,hff⟩
    · obtain rfl:=hno he
      have i2:¬(ER:Int)=0:=by omega
      have HNe:=hid he
      have hfy:Fr w3 (w3.alloc (.cells rbZ 38)):=(Fr.refl w3).alloc _
      have hA4:=hfy.heap hA3
      have hB4:=hfy.heap hB3
      have hf04:=hf03.trans hfy
      clear hok hno he hA3 hB3 hX3 hf03 hfy
      go_upto_region 5 with fail
      generalize w3.alloc (.cells rbZ 38)=w4 at *
      have hG1:=setRow_heap w4 w.heap.size optZ optZ 25 (0,0) hA4
      have hst1:=setRow_chg w4 w.heap.size optZ
      have hG2:=hst1.heap hB4 (by show ¬w.heap.size+1=w.heap.size;omega)
      have hG3:=setRow_heap (w4.setRow w.heap.size optZ) (w.heap.size+1) rbZ rbZ 38 (0,0) hG2
      have hst2:=setRow_chg (w4.setRow w.heap.size optZ) (w.heap.size+1) rbZ
      have hG4:=hst2.heap hG1 (by show ¬w.heap.size=w.heap.size+1;omega)
      have hff1:Fr w (w4.setRow w.heap.size optZ):=Chg.below hf04 hst1 hf04.size (fun k hk=>by omega)
      have hff:Fr w ((w4.setRow w.heap.size optZ).setRow (w.heap.size+1) rbZ):=Chg.below hff1 hst2 hff1.size (fun k hk=>by omega)
      clear hst1 hst2 hff1 hG1
      go_wp2_with (first | (refine wpList_store_row rfl 25 (.tmp 2) (.tmp 31) rfl w.heap.size optZ rfl rfl 25 _ hA4 hinfO rfl honeO ?_) | (refine wpList_store_row rfl 38 (.tmp 3) (.tmp 32) rfl (w.heap.size+1) rbZ rfl rfl 38 _ hG2 hinf rfl hone ?_))
      go_wp2_with fail
      (try simp only [Exit.inBlock,Exit.then])
      refine bodyPost_ret (v:=.tuple #[.agg optZ,.agg rbZ,.int .i64 0,.int .i64 (ER:Int)]) (results_cell2_tmp2 Tryz.results6 _ _ w.heap.size (w.heap.size+1) 25 38 _ _ _ _ _ _ _ _ rfl rfl rfl rfl hG4 hG3 Tryz.underlying25 rfl hinfO Tryz.underlying38 rfl hinf) rfl ?_
      exact⟨_,rfl,rfl,hff⟩
  · rw [if_neg hm]at hE
    have hne:¬openE b=0:=by rw [hE];exact hm
    have hK:openK b=0:=by unfold openK;rw [if_neg hne]
    have hO:openO b=⟨0,false,0,0,0,0⟩:=by unfold openO;rw [if_neg hne]
    rw [hK,hO,hE]
    rw [hE]at hne
    have i2:¬((bodyR b).1:Int)=0:=by omega
    have HM:=hid hm
    clear hE hK hO hFc hm
    generalize bodyR b=BR at *
    have HNe:=hid hne
    clear hne
    go_enter Tryz.func6, Tryz.ntmps6
    go_upto_region 1 with fail
    generalize (w.alloc (.cells optZ 25)).alloc (.cells rbZ 38)=W0 at *
    go_wp2_with fail
    refine(HBd.out).mono ?_
    rintro e w1 ⟨ov,u,rfl,hU,hf1,_,hno⟩
    obtain rfl:=hno HM.out
    obtain⟨ua,uc,hu⟩:=hU.shape'
    subst hu
    have hfx:Fr w1 (w1.alloc (.cells optZ 25)):=(Fr.refl w1).alloc _
    have hA2:=hfx.heap (hf1.heap hA0)
    have hB2:=hfx.heap (hf1.heap hB0)
    have hf02:=(hf0.trans hf1).trans hfx
    clear HBd hU hA0 hB0 hf0 hf1 hno hfx
    go_upto_region 2 with fail
    generalize w1.alloc (.cells optZ 25)=w2 at *
    have hG1:=setRow_heap w2 w.heap.size optZ optZ 25 (0,0) hA2
    have hst1:=setRow_chg w2 w.heap.size optZ
    have hG2:=hst1.heap hB2 (by show ¬w.heap.size+1=w.heap.size;omega)
    have hG3:=setRow_heap (w2.setRow w.heap.size optZ) (w.heap.size+1) rbZ rbZ 38 (0,0) hG2
    have hst2:=setRow_chg (w2.setRow w.heap.size optZ) (w.heap.size+1) rbZ
    have hG4:=hst2.heap hG1 (by show ¬w.heap.size=w.heap.size+1;omega)
    have hff1:Fr w (w2.setRow w.heap.size optZ):=Chg.below hf02 hst1 hf02.size (fun k hk=>by omega)
    have hff:Fr w ((w2.setRow w.heap.size optZ).setRow (w.heap.size+1) rbZ):=Chg.below hff1 hst2 hff1.size (fun k hk=>by omega)
    clear hst1 hst2 hff1 hG1
    go_wp2_with (first | (refine wpList_store_row rfl 25 (.tmp 2) (.tmp 20) rfl w.heap.size optZ rfl rfl 25 _ hA2 hinfO rfl honeO ?_) | (refine wpList_store_row rfl 38 (.tmp 3) (.tmp 21) rfl (w.heap.size+1) rbZ rfl rfl 38 _ hG2 hinf rfl hone ?_))
    go_wp2_with fail
    (try simp only [Exit.inBlock,Exit.then])
    refine bodyPost_ret (v:=.tuple #[.agg optZ,.agg rbZ,.int .i64 0,.int .i64 (BR.1:Int)]) (results_cell2_tmp2 Tryz.results6 _ _ w.heap.size (w.heap.size+1) 25 38 _ _ _ _ _ _ _ _ rfl rfl rfl rfl hG4 hG3 Tryz.underlying25 rfl hinfO Tryz.underlying38 rfl hinf) rfl ?_
    exact⟨_,rfl,fun h=>absurd h HNe.out,fun _=>rfl,hff⟩
set_option maxRecDepth 512
set_option maxRecDepth 100000
theorem RSameJ_eq(v u:Value)(l:List Nat)(w:World)(hv:See w eJ v l)(hu:See w eJ u l)(hl:l.length<=100000000) :
  Calls Tryz.prog 7 #[v,u] w fun e w'=>e=.returned (.bool true)/\Fr w w':=by
 have HV:=hid hv
 have HU:=hid hu
 obtain⟨va,vc,hve,_⟩:=hv.shape
 subst hve
 obtain⟨ua,uc,hue,_⟩:=hu.shape
 subst hue
 clear hv hu
 go_enter Tryz.func7, Tryz.ntmps7
 go_wp2_with fail
 go_loopw [5] (fun iv wr=>∃ i:Nat,i<=l.length/\iv=N i/\Fr w wr) (fun iv _=>l.length - (intOf iv).toNat)
 case atStart=>exact⟨0,Nat.zero_le _,rfl,Fr.refl w⟩
 case round=>
  obtain⟨i,hi,rfl,hf⟩:=hrel
  by_cases hlt:i<l.length
  · obtain⟨b5,o5,p5,hv5,e5⟩:=(HV.out.fr hf).cell1 N rfl i hlt
    cases hv5
    obtain⟨b6,o6,p6,hv6,e6⟩:=(HU.out.fr hf).cell1 N rfl i hlt
    cases hv6
    have c5:wr.cell? ⟨b5,o5+i,none⟩=some (N l[i]):=e5
    have c6:wr.cell? ⟨b6,o6+i,none⟩=some (N l[i]):=e6
    clear e5 e6
    generalize l[i]=x at *
    have i1:(0:Int)<=i:=by omega
    have i2:(i:Int)<l.length:=by omega
    go_upto_region 6 with fail
    go_quiet (fail)
    go_wp2_with fail
    go_roundw
    case rel=>exact⟨i+1,by omega,by go_num,hf.trans (Fr.drewN (Fr.refl wr) _)⟩
    case measure=>simp [intOf];omega
  · obtain rfl:i=l.length:=by omega
    have hnl:¬(l.length:Int)<l.length:=by omega
    go_wp2_with fail
    go_ret
    exact⟨rfl,hf⟩
theorem RSameS_eq(v u:Value)(l:List (List UInt8))(w:World)(hv:See w eS v l)(hu:See w eS u l)(hl:l.length<=100000000) :
  Calls Tryz.prog 19 #[v,u] w fun e w'=>e=.returned (.bool true)/\Fr w w':=by
 have HV:=hid hv
 have HU:=hid hu
 obtain⟨va,vc,hve,_⟩:=hv.shape
 subst hve
 obtain⟨ua,uc,hue,_⟩:=hu.shape
 subst hue
 clear hv hu
 go_enter Tryz.func19, Tryz.ntmps19
 go_wp2_with fail
 go_loopw [5] (fun iv wr=>∃ i:Nat,i<=l.length/\iv=N i/\Fr w wr) (fun iv _=>l.length - (intOf iv).toNat)
 case atStart=>exact⟨0,Nat.zero_le _,rfl,Fr.refl w⟩
 case round=>
  obtain⟨i,hi,rfl,hf⟩:=hrel
  by_cases hlt:i<l.length
  · obtain⟨b5,o5,p5,hv5,e5⟩:=(HV.out.fr hf).cell1 (fun s:List UInt8=>S s) rfl i hlt
    cases hv5
    obtain⟨b6,o6,p6,hv6,e6⟩:=(HU.out.fr hf).cell1 (fun s:List UInt8=>S s) rfl i hlt
    cases hv6
    have c5:wr.cell? ⟨b5,o5+i,none⟩=some (S l[i]):=e5
    have c6:wr.cell? ⟨b6,o6+i,none⟩=some (S l[i]):=e6
    clear e5 e6
    generalize l[i]=x at *
    have i1:(0:Int)<=i:=by omega
    have i2:(i:Int)<l.length:=by omega
    go_upto_region 6 with fail
    go_quiet (fail)
    go_wp2_with fail
    go_roundw
    case rel=>exact⟨i+1,by omega,by go_num,hf.trans (Fr.drewN (Fr.refl wr) _)⟩
    case measure=>simp [intOf];omega
  · obtain rfl:i=l.length:=by omega
    have hnl:¬(l.length:Int)<l.length:=by omega
    go_wp2_with fail
    go_ret
    exact⟨rfl,hf⟩
theorem RSameI_eq (tv lv tu lu : Value) (ts : List (List UInt8)) (ls : List (List Nat)) (ps qs : List Hd) (base base2 : Nat) (w : World) (h1 : See w eS tv ts) (h2 : See w eHi lv ps) (h3 : Owns w base eJ ps ls) (k1 : See w eS tu ts) (k2 : See w eHi lu qs) (k3 : Owns w base2 eJ qs ls) (htl : ts.length ≤ 100000000) (hpl : ps.length ≤ 100000000) (hl : ∀ x ∈ ls, x.length ≤ 100000000) :
    Calls Tryz.prog 9 #[.agg #[tv,lv],.agg #[tu,lu]] w fun e w'=>e=.returned (.bool true)/\Fr w w':=by
  have HS:=hid (fun W (h:Fr w W)=>RSameS_eq tv tu ts W (h1.fr h) (k1.fr h) htl)
  have H2:=hid h2
  have K2:=hid k2
  have H3:=hid h3
  have K3:=hid k3
  have HL:=hid hl
  have HPe:Hid (ps.length=ls.length/\qs.length=ls.length):=⟨h3.1,k3.1⟩
  obtain⟨va,vc,hv,_⟩:=h1.shape
  subst hv
  obtain⟨la,lc,hv,_⟩:=h2.shape
  subst hv
  obtain⟨ua,uc,hv,_⟩:=k1.shape
  subst hv
  obtain⟨ma,mc,hv,_⟩:=k2.shape
  have hqp:qs.length=ps.length:=HPe.out.2.trans HPe.out.1.symm
  rw [hqp]at hv
  subst hv
  have HQp:=hid hqp
  clear h1 h2 h3 k1 k2 k3 hl htl hqp
  have hf1:Fr w (w.alloc (.cells #[.slice va ts.length vc,.slice la ps.length lc] 36)):=(Fr.refl w).alloc _
  have hb1:=heap_new w (.cells #[.slice va ts.length vc,.slice la ps.length lc] 36) w.heap.size rfl
  have hf2:Fr (w.alloc (.cells #[.slice va ts.length vc,.slice la ps.length lc] 36)) ((w.alloc (.cells #[.slice va ts.length vc,.slice la ps.length lc] 36)).alloc (.cells #[.slice ua ts.length uc,.slice ma ps.length mc] 36)):=(Fr.refl _).alloc _
  have hb2:=heap_new (w.alloc (.cells #[.slice va ts.length vc,.slice la ps.length lc] 36)) (.cells #[.slice ua ts.length uc,.slice ma ps.length mc] 36) (w.heap.size+1) (by simp)
  have hb1':=hf2.heap hb1
  have hf12:=hf1.trans hf2
  go_enter Tryz.func9, Tryz.ntmps9
  go_upto_region 1 with fail
  generalize (w.alloc (.cells #[.slice va ts.length vc,.slice la ps.length lc] 36)).alloc (.cells #[.slice ua ts.length uc,.slice ma ps.length mc] 36)=w2 at *
  have c10:w2.cell? ⟨w.heap.size,0,none⟩=some (.slice va ts.length vc):=by rw [cell_of_heap hb1'];rfl
  have c11:w2.cell? ⟨w.heap.size,1,none⟩=some (.slice la ps.length lc):=by rw [cell_of_heap hb1'];rfl
  have c20:w2.cell? ⟨w.heap.size+1,0,none⟩=some (.slice ua ts.length uc):=by rw [cell_of_heap hb2];rfl
  have c21:w2.cell? ⟨w.heap.size+1,1,none⟩=some (.slice ma ps.length mc):=by rw [cell_of_heap hb2];rfl
  have HS2:=hid (HS.out w2 hf12)
  clear hf1 hf2 hb1 HS
  go_wp2_with fail
  refine(HS2.out).mono ?_
  rintro e w3 ⟨rfl,hf3⟩
  have c11':=hf3.cell c11
  have c21':=hf3.cell c21
  have hb13:=hf3.heap hb1'
  have hb23:=hf3.heap hb2
  have hf03:=hf12.trans hf3
  clear HS2 c10 c11 c20 c21 hb1' hb2 hf12 hf3
  go_wp2_with fail
  go_loopw [5] (fun iv wr=>∃ i:Nat,i<=ps.length/\iv=N i/\Fr w3 wr) (fun iv _=>ps.length - (intOf iv).toNat)
  case atStart=>exact⟨0,Nat.zero_le _,rfl,Fr.refl w3⟩
  case round=>
    obtain⟨i,hi,rfl,hf⟩:=hrel
    have c11:=hf.cell c11'
    have c21:=hf.cell c21'
    by_cases hlt:i<ps.length
    · have hff:=hf03.trans hf
      have hlq:i<qs.length:=by have:=HQp.out;omega
      have hll:i<ls.length:=by have:=HPe.out.1;omega
      obtain⟨b5,o5,p5,hv5,e5⟩:=(H2.out.fr hff).cell1 (fun h:Hd=>h.v) rfl i hlt
      cases hv5
      obtain⟨b6,o6,p6,hv6,e6⟩:=(K2.out.fr hff).cell1 (fun h:Hd=>h.v) rfl i hlq
      rw [HQp.out]at hv6
      cases hv6
      have c5:wr.cell? ⟨b5,o5+i,none⟩=some (ps[i].v):=e5
      have c6:wr.cell? ⟨b6,o6+i,none⟩=some (qs[i].v):=e6
      have HJ:=hid (fun W (h:Fr wr W)=>RSameJ_eq ps[i].v qs[i].v ls[i] W (((H3.out.2 i hlt hll).see).fr (hff.trans h)) (((K3.out.2 i hlq hll).see).fr (hff.trans h)) (HL.out _ (List.getElem_mem hll)))
      clear e5 e6 hff
      obtain⟨pv,hpv⟩:∃ pv,pv=ps[i].v:=⟨_,rfl⟩
      obtain⟨qv,hqv⟩:∃ qv,qv=qs[i].v:=⟨_,rfl⟩
      rw [<- hpv]at c5 HJ
      rw [<- hqv]at c6 HJ
      clear hpv hqv hlq hll
      have i1:(0:Int)<=i:=by omega
      have i2:(i:Int)<ps.length:=by omega
      go_upto_region 6 with fail
      go_region_held3 (fun W => W.cell? ⟨w.heap.size, 1, none⟩ = some (.slice (some ⟨b5, o5, none⟩) ps.length lc) ∧ W.cell? ⟨w.heap.size + 1, 1, none⟩ = some (.slice (some ⟨b6, o6, none⟩) ps.length mc) ∧ W.cell? ⟨b5, o5 + i, none⟩ = some pv ∧ W.cell? ⟨b6, o6 + i, none⟩ = some qv)
        (first | exact hkk | go_keep)
        ((go_at_call 7;refine(HJ.out _ (Fr.refl _).drew).mono ?_;rintro e w5 ⟨rfl,hf5⟩;have hkk:=And.intro (hf5.cell (show wr.drew.cell? _=_ from c11)) (And.intro (hf5.cell (show wr.drew.cell? _=_ from c21)) (And.intro (hf5.cell (show wr.drew.cell? _=_ from c5)) (hf5.cell (show wr.drew.cell? _=_ from c6))))))
      go_wp2_with fail
      go_roundw
      case rel=>exact⟨i+1,by omega,by go_num,hf.trans ((Fr.refl wr).drew.trans hf5)⟩
      case measure=>simp [intOf];omega
    · obtain rfl:i=ps.length:=by omega
      have hnl:¬(ps.length:Int)<ps.length:=by omega
      go_wp2_with fail
      go_ret
      exact⟨rfl,hf03.trans hf⟩
set_option maxRecDepth 512
end Go.Proofs.YtijghcbpfcjjnaaGreatDoor
