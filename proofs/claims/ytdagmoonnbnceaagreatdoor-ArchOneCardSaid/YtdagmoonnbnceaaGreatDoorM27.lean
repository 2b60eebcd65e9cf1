/- Parts of the proof of ArchOne: Z3 Z4 Z5 Z6. -/
import Derived.Test.YtdagmoonnbnceaaGreatDoorM24
import Derived.Test.YtdagmoonnbnceaaGreatDoorM26
import Derived.Test.YtdagmoonnbnceaaGreatDoorM05
import Derived.WideKeyArr
set_option linter.unusedVariables false
set_option linter.unusedSectionVars false
set_option linter.unusedSimpArgs false
set_option maxHeartbeats 8000000
set_option maxRecDepth 100000
namespace Go.Proofs.YtdagmoonnbnceaaGreatDoor
open Go.RowKit Go.Fk
theorem zArr:Go.WideMaps.ArrKey Tryz.prog 262 5 3:=⟨Tryz.underlying262,by kernel_rfl,by kernel_rfl,by kernel_rfl⟩
theorem zSz:∃ m,(Tryz.prog).types.size=m+1:=⟨(Tryz.prog).types.size - 1,by kernel_rfl⟩
theorem zZero(w:World):(zeroValue 3).run Tryz.prog w=.ok (.int .i64 0) w:=by kernel_rfl
theorem results_cell1{P:Program}{fn:Func}{p:Tmp}{ty:TypeId}(h:fn.results=#[.cell p ty])(tmps:Array Value)(w:World)(g:Nat)(t:TypeId)(cs:Array Value)(fr:Nat × Nat)(d:TypeDesc)
  (hp:tmps.getD p undef=.pointer (some ⟨g,0,none⟩)) (hg:w.heap[g]? = some (.cells cs t fr))
  (hu:P.underlying ty=some d) (hd:(match d with | .struct _ | .array _ _=>true | _=>false)=true) (hi:(P.info? ty).map (·.size)=some cs.size) :
  (results fn tmps).run P w=.ok (.agg cs) w:=by
 have hp':tmps[p]?.getD undef=.pointer (some ⟨g,0,none⟩):=by simpa using hp
 simp [results,h,hp',asAddr,run_loadVar_row w g t ty cs fr d hg hu hd hi]
theorem trip_at(l:List UInt8)(a:Nat)(h:a+3<=l.length):trip l a=[l[a]'(by omega),l[a+1]'(by omega),l[a+2]'(by omega)]:=by
 unfold trip
 rw [List.drop_eq_getElem_cons (by omega),List.take_succ_cons,List.drop_eq_getElem_cons (by omega),List.take_succ_cons,List.drop_eq_getElem_cons (by omega),List.take_succ_cons,List.take_zero]
theorem key_any (v : Value) (l : List UInt8) (a : Nat) (w : World) (hs : See w eB v l) (hn : l.length ≤ 1000000) (ha : a + 3 ≤ l.length) :
    Calls Tryz.prog 161 #[v,N a] w fun e w'=>e=.returned (v3 (l[a]'(by omega)) (l[a+1]'(by omega)) (l[a+2]'(by omega)))/\Fr w w':=by
  obtain⟨b,off,cap,hv,c0⟩:=bAt hs a (by omega)
  have hcap:=hs.shape
  subst hv
  obtain⟨b1,off1,cap1,hv1,c1⟩:=bAt hs (a+1) (by omega)
  cases hv1
  obtain⟨b2,off2,cap2,hv2,c2⟩:=bAt hs (a+2) (by omega)
  cases hv2
  have hfA:Fr w (w.alloc (.cells #[.int .u8 0,.int .u8 0,.int .u8 0] 262)):=(Fr.refl w).alloc _
  have hgA:(w.alloc (.cells #[.int .u8 0,.int .u8 0,.int .u8 0] 262)).heap[w.heap.size]? = some (.cells #[.int .u8 0,.int .u8 0,.int .u8 0] 262 (0,0)):=heap_new _ _ _ rfl
  have i0:(a:Int)+1=((a+1:Nat):Int):=by omega
  have i1:(a:Int)<l.length:=by omega
  have i2:(a:Int)+1<l.length:=by omega
  have i3:(a:Int)+2<l.length:=by omega
  clear hs i0
  generalize l[a]=x at *
  generalize l[a+1]=y at *
  generalize l[a+2]=z at *
  replace c0:=hfA.cell c0
  replace c1:=hfA.cell c1
  replace c2:=hfA.cell c2
  have e0:(w.alloc (.cells #[.int .u8 0,.int .u8 0,.int .u8 0] 262)).cell? ⟨w.heap.size,0,none⟩=some (.int .u8 0):=by rw [cell_of_heap hgA];rfl
  have e1:(w.alloc (.cells #[.int .u8 0,.int .u8 0,.int .u8 0] 262)).cell? ⟨w.heap.size,1,none⟩=some (.int .u8 0):=by rw [cell_of_heap hgA];rfl
  have e2:(w.alloc (.cells #[.int .u8 0,.int .u8 0,.int .u8 0] 262)).cell? ⟨w.heap.size,2,none⟩=some (.int .u8 0):=by rw [cell_of_heap hgA];rfl
  have f0:=frozen_of_heap hgA 0
  have f1:=frozen_of_heap hgA 1
  have f2:=frozen_of_heap hgA 2
  go_enter Tryz.func161, Tryz.ntmps161
  go_upto_region 1 with fail
  generalize hW:w.alloc (.cells #[.int .u8 0,.int .u8 0,.int .u8 0] 262)=W at *
  go_region
  all_goals go_wp2_with fail
  have h1:(((W.setCell ⟨w.heap.size,0,none⟩ (.int .u8 (x.toNat:Int))).setCell ⟨w.heap.size,1,none⟩ (.int .u8 (y.toNat:Int))).setCell ⟨w.heap.size,2,none⟩ (.int .u8 (z.toNat:Int))).drew.heap[w.heap.size]? = some (.cells #[.int .u8 (x.toNat:Int),.int .u8 (y.toNat:Int),.int .u8 (z.toNat:Int)] 262 (0,0)):=
    heap_setCell_own (heap_setCell_own (heap_setCell_own hgA 0 _) 1 _) 2 _
  have hch:Chg (fun k=>k=w.heap.size) W (((W.setCell ⟨w.heap.size,0,none⟩ (.int .u8 (x.toNat:Int))).setCell ⟨w.heap.size,1,none⟩ (.int .u8 (y.toNat:Int))).setCell ⟨w.heap.size,2,none⟩ (.int .u8 (z.toNat:Int))):=
    ((setCell_chg W ⟨w.heap.size,0,none⟩ _).trans (setCell_chg _ ⟨w.heap.size,1,none⟩ _) (fun _ _ h=>h)).trans (setCell_chg _ ⟨w.heap.size,2,none⟩ _) (fun _ _ h=>h)
  have hfE:Fr w _:=(Chg.below hfA hch hfA.size (fun k hk=>Nat.le_of_eq hk.symm)).drew
  exact bodyPost_ret (v:=v3 x y z) (results_cell1 Tryz.results161 _ _ w.heap.size 262 _ (0,0) _ rfl h1 Tryz.underlying262 rfl (by kernel_rfl)) rfl ⟨rfl,hfE⟩
def eZ:Elt Tryz.prog Int:=⟨3,1,8,0,.int .i64 0,fun n=>[.int .i64 n],by kernel_rfl,by decide,by decide,by simp [Value.cells],fun _=>rfl,by intro x u hu;simp at hu;subst hu;rfl⟩
def prevI(l:List UInt8)(p:Nat):Int:=match prevK l p with | some q=>(q:Int) | none=>-1
def prevs(l:List UInt8)(a:Nat):List Int:=(List.range a).map (prevI l)
theorem prevs_len(l:List UInt8)(a:Nat):(prevs l a).length=a:=by simp [prevs]
theorem prevs_succ(l:List UInt8)(a:Nat):prevs l (a+1)=prevs l a++[prevI l a]:=by simp [prevs,List.range_succ]
theorem prevs_at(l:List UInt8)(a p:Nat)(h:p<a):(prevs l a)[p]'(by rw [prevs_len];exact h)=prevI l p:=by simp [prevs]
theorem prevs_set(l:List UInt8)(a:Nat)(x:Int)(h:x=prevI l a):(prevs l a++[-1]).set a x=prevs l (a+1):=by
 rw [prevs_succ,h,List.set_append];simp [prevs_len]
def lastF(l:List UInt8)(a:Nat)(x y z:UInt8):Option Nat:=lastK l [x,y,z] a
structure ChAt (w:World) (base g mb:Nat) (l:List UInt8) (a n:Nat) (pv:Value):Prop where
 at0:w.heap[g]? = some (.cells #[.map (some mb),pv] 195 (0,0))
 map:MapF w Tryz.prog 262 3 mb n (lastF l a)
 prev:Ow w base eZ pv (prevs l a)
 up:base<=g
 up2:base<=mb
theorem own_ne_map{α:Type}{E:Elt Tryz.prog α}{w:World}{base mb n:Nat}{k e:TypeId}{f:UInt8->UInt8->UInt8->Option Nat}{v:Value}{m:List α}(h:Ow w base E v m)(hm:MapF w Tryz.prog k e mb n f):v.ownBlock≠some mb:=by
 intro he
 obtain⟨D,⟨es,clock,hb,_⟩,_⟩:=hm
 rcases h.2 with⟨hv,_⟩ | ⟨g,cap,cur,hv,_,hg,_⟩
 · rw [hv]at he;cases he
 · rw [hv]at he
   have:g=mb:=by simpa [Value.ownBlock] using he
   rw [this,hb]at hg;cases hg
theorem add_any (v : Value) (l : List UInt8) (base g mb a n : Nat) (pv : Value) (w : World) (hs : See w eB v l) (hn : l.length ≤ 1000000) (ha : a < l.length) (h : ChAt w base g mb l a n pv) (hna : n ≤ a) (hvb : ∀ W, Chg (fun k => k = g ∨ k = mb ∨ pv.ownBlock = some k) w W → See W eB v l) :
    Calls Tryz.prog 114 #[.pointer (some ⟨g,0,none⟩),v,N a] w fun e w'=>e=.returned (.tuple #[])/\∃ pv' n',ChAt w' base g mb l (a+1) n' pv'/\n'<=a+1/\Chg (fun k=>k=g\/k=mb\/pv.ownBlock=some k) w w'/\(∀ b,pv'.ownBlock=some b->pv.ownBlock=some b\/w.heap.size<=b):=by
  obtain⟨a0,cap,rfl,hcap1,hcap2,hnone⟩:=hs.shape
  unfold maxLen at hcap2
  obtain⟨h0,hM,hP,hup,hup2⟩:=h
  obtain⟨pa,pc,hpv⟩:=hP.shape'
  rw [prevs_len]at hpv
  subst hpv
  have e0:=cellx h0 0 rfl
  have e1:=cellx h0 1 rfl
  have hgn:=hP.ne_cells h0 (by decide)
  have hmn:=own_ne_map hP hM
  have hgm:g≠mb:=by
    intro e
    obtain⟨D,⟨es,clock,hb,_⟩,_⟩:=hM
    rw [<- e,h0]at hb;cases hb
  have hsz:base<=w.heap.size:=by have:=(Array.getElem?_eq_some_iff.1 h0).1;omega
  clear hs
  go_enter Tryz.func114, Tryz.ntmps114
  go_wp2_with (at_builtin;refine wpList_app1 eZ rfl (.tmp 13) (.tmp 14) 55 rfl Tryz.underlying55 base rfl hP [-1] _ _ _ rfl rfl rfl (by rw [prevs_len];simp;omega) hsz ?_)
  intro v' w4 hap
  have k0:=hap.chg'.heap h0 (fun e=>hgn e)
  have hO4:=hap.own
  have hf4:=hap.fresh
  have hC4:Chg (fun k=>k=g\/k=mb\/(Value.slice pa a pc).ownBlock=some k) w w4:=hap.chg'.mono (fun k _ h=>.inr (.inr h))
  have hM4:=hM.chg hap.chg' (fun e=>hmn e)
  obtain⟨qa,qc,hv'⟩:=hO4.shape'
  have hlen1:(prevs l a++[(-1:Int)]).length=a+1:=by rw [List.length_append,prevs_len];rfl
  rw [hlen1]at hv'
  subst hv'
  have c0:=cellx k0 0 rfl
  have c1:=cellx k0 1 rfl
  have d1:w4.frozen? ⟨g,1,none⟩=false:=frozen_of_heap k0 1
  clear hP hM hap e0 e1
  go_upto_region 1 with fail
  have h5:(w4.setCell ⟨g,1,none⟩ (.slice qa (a+1) qc)).heap[g]? = some (.cells #[.map (some mb),.slice qa (a+1) qc] 195 (0,0)):=heap_setCell_own k0 1 _
  have hc5:Chg (fun k=>k=g) w4 (w4.setCell ⟨g,1,none⟩ (.slice qa (a+1) qc)):=setCell_chg w4 ⟨g,1,none⟩ _
  have hO5:=hO4.chg hc5 (fun k hk e=>(hO4.ne_cells k0 (by decide)) (by rw [hk,e]))
  have hM5:=hM4.chg hc5 (fun e=>hgm e.symm)
  have hC5:=hC4.trans hc5 (fun _ _ h=>.inl h)
  generalize w4.setCell ⟨g,1,none⟩ (.slice qa (a+1) qc)=W5 at *
  have hS5:=hvb W5 hC5
  have hsz5:base<=W5.heap.size:=Nat.le_trans hsz hC5.size
  clear hO4 hM4 hC4 hc5 k0 c0 c1 d1
  by_cases h3:a+3<=l.length
  · have h3':¬(l.length:Int)<(a:Int)+3:=by omega
    have HKy:=hid (key_any _ l a W5 hS5 hn h3)
    have HTr:=hid (trip_at l a h3)
    generalize l[a]=x at *
    generalize l[a+1]=y at *
    generalize l[a+2]=z at *
    have HPK:Hid (prevK l a=lastF l a x y z):=by show _=_;unfold prevK lastF;rw [if_pos h3,HTr.out]
    have HLF:Hid (∀ x' y' z',(if x'=x/\y'=y/\z'=z then some a else lastF l a x' y' z')=lastF l (a+1) x' y' z'):=fun x' y' z'=>by
      unfold lastF
      show _=if a+3<=l.length/\trip l a=[x',y',z']then some a else _
      rw [HTr.out]
      by_cases hx:x'=x/\y'=y/\z'=z
      · obtain⟨rfl,rfl,rfl⟩:=hx;rw [if_pos ⟨rfl,rfl,rfl⟩,if_pos ⟨h3,rfl⟩]
      · rw [if_neg hx,if_neg (fun h=>hx (by have:=h.2;simp only [List.cons.injEq,and_true]at this;exact⟨this.1.symm,this.2.1.symm,this.2.2.symm⟩))]
    go_wp2_with fail
    refine HKy.out.mono ?_
    rintro e w6 ⟨rfl,hf6⟩
    have h6:=hf6.heap h5
    have hO6:=hO5.fr hf6
    have hM6:=hM5.fr hf6
    have hC6:=hC5.trans (hf6.chg (fun k=>k=g)) (fun _ _ h=>.inl h)
    have hsz6:=Nat.le_trans hsz5 hf6.size
    clear h5 hO5 hM5 hC5 hS5 HKy
    unfold v3
    go_upto_region 2 with fail
    have hf7:Fr w6 (w6.alloc (.cells #[.int .u8 (x.toNat:Int),.int .u8 (y.toNat:Int),.int .u8 (z.toNat:Int)] 262)):=(Fr.refl w6).alloc _
    have hk7:(w6.alloc (.cells #[.int .u8 (x.toNat:Int),.int .u8 (y.toNat:Int),.int .u8 (z.toNat:Int)] 262)).heap[w6.heap.size]? = some (.cells #[.int .u8 (x.toNat:Int),.int .u8 (y.toNat:Int),.int .u8 (z.toNat:Int)] 262 (0,0)):=heap_new _ _ _ rfl
    have h7:=hf7.heap h6
    have hO7:=hO6.fr hf7
    have hM7:=hM6.fr hf7
    have hC7:=hC6.trans (hf7.chg (fun k=>k=g)) (fun _ _ h=>.inl h)
    have hsz7:=Nat.le_trans hsz6 hf7.size
    have hkg:w6.heap.size≠g:=by have:=(Array.getElem?_eq_some_iff.1 h6).1;omega
    have hkm:w6.heap.size≠mb:=by have:=hM6.lt;omega
    generalize w6.alloc (.cells #[.int .u8 (x.toNat:Int),.int .u8 (y.toNat:Int),.int .u8 (z.toNat:Int)] 262)=W7 at *
    clear hf7 hf6 h6 hO6 hM6 hC6 hsz6
    generalize w6.heap.size=kb at *
    have HL:=hid (fun(k:Nat)=>(hM7.fr ((Fr.refl W7).drewN k)).look (t:=193) zArr Tryz.underlying5 zSz Tryz.underlying193 Tryz.underlying3 (zZero _) x y z)
    have HLd:=HL.out 1
    have g0:=cellx h7 0 rfl
    have g1:=cellx h7 1 rfl
    have q0:=cellx hk7 0 rfl
    have q1:=cellx hk7 1 rfl
    have q2:=cellx hk7 2 rfl
    unfold v3 at HLd
    rw [show W7.drewN 1=W7.drew from rfl]at HLd
    have hhd:=hO7.atHead (by simp)
    obtain⟨pg,pcap,hpv,hpg1,hpg2,hpg3,hpg4⟩:=hhd
    rw [hlen1]at hpv
    cases hpv
    have hpgg:pg≠g:=fun e=>hO7.ne_cells h7 (by decide) (by rw [<- e];rfl)
    have hpgk:pg≠kb:=fun e=>hO7.ne_cells hk7 (by decide) (by rw [<- e];rfl)
    have hpgm:pg≠mb:=fun e=>own_ne_map hO7 hM7 (by rw [<- e];rfl)
    have hCq:Chg (fun k=>k=pg) W7 W7->True:=fun _=>trivial
    generalize hlv:lookV (lastF l a x y z)=lv at *
    cases hlk:lastF l a x y z with
    | none=>
      rw [hlk]at hlv
      unfold lookV at hlv
      subst hlv
      have HPI:Hid (prevs l a++[(-1:Int)]=prevs l (a+1)):=by show _=_;rw [prevs_succ];unfold prevI;rw [HPK.out,hlk]
      rw [HPI.out]at hO7
      go_region
      all_goals go_wp2_with fail
      have hfd:Fr W7 W7.drew:=(Fr.refl W7).drew
      have hM8:=hM7.fr hfd
      have hO8:=hO7.fr hfd
      have h8:=hfd.heap h7
      have hk8:=hfd.heap hk7
      have hC8:=hC7.trans (hfd.chg (fun k=>k=g)) (fun _ _ h=>.inl h)
      clear hM7 hO7 h7 hk7 hC7 g0 g1 q0 q1 q2 HLd HL hfd
      generalize W7.drew=W8 at *
      have hM9:=hM8.fr ((Fr.refl W8).drewN 1)
      obtain⟨w9,hrun,hM10,hC10⟩:=hM9.upd (t:=193) (p:=a) zArr Tryz.underlying5 zSz Tryz.underlying193 Tryz.underlying3 (by unfold maxLen;omega) (by omega) x y z
      unfold v3 at hrun
      rw [show W8.drewN 1=W8.drew from rfl]at hrun hC10
      have e0:=cellx h8 0 rfl
      have r0:=cellx hk8 0 rfl
      have r1:=cellx hk8 1 rfl
      have r2:=cellx hk8 2 rfl
      go_upto_region 6 with fail
      go_region
      all_goals go_wp2_with fail
      have hC11:=((Fr.refl W8).drewN 1).chg (fun k=>k=mb)
      have hC12:Chg (fun k=>k=mb) W8 w9:=hC11.trans hC10 (fun _ _ h=>h)
      have h9:=hC12.heap h8 hgm
      have hO9:=hO8.chg hC12 (fun k hk e=>(own_ne_map hO8 hM8) (by rw [hk,e]))
      go_end0
      exact⟨rfl,_,n+1,⟨h9,hM10.congr HLF.out,hO9,hup,hup2⟩,by omega,hC8.trans hC12 (fun _ _ h=>.inr (.inl h)),hf4⟩
    | some p=>
      rw [hlk]at hlv
      unfold lookV at hlv
      subst hlv
      have HPI:Hid ((prevs l a++[(-1:Int)]).set a (p:Int)=prevs l (a+1)):=prevs_set l a _ (by unfold prevI;rw [HPK.out,hlk])
      have hset:=(hO7.set (fun n:Int=>Value.int .i64 n) rfl a (by rw [hlen1];omega) (p:Int) (.int .i64 (p:Int)) rfl).drew
      rw [HPI.out]at hset
      have hca:=hO7.cellAt (fun n:Int=>Value.int .i64 n) rfl a (by rw [hlen1];omega)
      have hcs:Chg (fun k=>k=pg) W7 (W7.setCell ⟨pg,a,none⟩ (.int .i64 (p:Int))).drew:=(setCell_chg W7 ⟨pg,a,none⟩ (.int .i64 (p:Int))).trans (((Fr.refl _).drew).chg (fun k=>k=pg)) (fun _ _ h=>h)
      have hM8:=hM7.chg hcs (fun e=>hpgm e.symm)
      have h8:=hcs.heap h7 (fun e=>hpgg e.symm)
      have hk8:=hcs.heap hk7 (fun e=>hpgk e.symm)
      have hC8 := hC7.trans hcs (fun i hi h => by
        have h' : i = pg := h
        rcases hf4 pg rfl with h1 | h1
        · exact .inr (.inr (by rw [h1, h']))
        · omega)
      have ca:W7.cell? ⟨pg,a,none⟩=some _:=hca.1
      have cf:W7.frozen? ⟨pg,a,none⟩=false:=hca.2
      have ia:(a:Int)<(a:Int)+1:=by omega
      have ia2:(0:Int)<=a:=by omega
      have hO8:=hset
      go_region
      all_goals go_wp2_with fail
      clear hM7 hO7 h7 hk7 hC7 g0 g1 q0 q1 q2 HLd HL hset ca cf hca ia
      clear hcs
      generalize (W7.setCell ⟨pg,a,none⟩ (.int .i64 (p:Int))).drew=W8 at *
      have hM9:=hM8.fr ((Fr.refl W8).drewN 1)
      obtain⟨w9,hrun,hM10,hC10⟩:=hM9.upd (t:=193) (p:=a) zArr Tryz.underlying5 zSz Tryz.underlying193 Tryz.underlying3 (by unfold maxLen;omega) (by omega) x y z
      unfold v3 at hrun
      rw [show W8.drewN 1=W8.drew from rfl]at hrun hC10
      have e0:=cellx h8 0 rfl
      have r0:=cellx hk8 0 rfl
      have r1:=cellx hk8 1 rfl
      have r2:=cellx hk8 2 rfl
      go_upto_region 6 with fail
      go_region
      all_goals go_wp2_with fail
      have hC11:=((Fr.refl W8).drewN 1).chg (fun k=>k=mb)
      have hC12:Chg (fun k=>k=mb) W8 w9:=hC11.trans hC10 (fun _ _ h=>h)
      have h9:=hC12.heap h8 hgm
      have hO9:=hO8.chg hC12 (fun k hk e=>(own_ne_map hO8 hM8) (by rw [hk,e]))
      go_end0
      exact⟨rfl,_,n+1,⟨h9,hM10.congr HLF.out,hO9,hup,hup2⟩,by omega,hC8.trans hC12 (fun _ _ h=>.inr (.inl h)),hf4⟩
  · have h3':(l.length:Int)<(a:Int)+3:=by omega
    have HLF:Hid (∀ x y z,lastF l a x y z=lastF l (a+1) x y z):=fun x y z=>by
      unfold lastF;show _=if a+3<=l.length/\_ then _ else _;rw [if_neg (fun h=>h3 h.1)]
    have HPI:Hid (prevs l a++[(-1:Int)]=prevs l (a+1)):=by show _=_;rw [prevs_succ];unfold prevI prevK;rw [if_neg h3]
    go_wp2_with fail
    refine bodyPost_ret (results_none rfl _ _ _) rfl ?_
    exact⟨rfl,_,n,⟨h5,hM5.congr HLF.out,by rw [<- HPI.out];exact hO5,hup,hup2⟩,by omega,hC5,hf4⟩
def optI(o:Option Nat):Int:=match o with | some q=>(q:Int) | none=>-1
theorem prevI_opt(l:List UInt8)(p:Nat):prevI l p=optI (prevK l p):=rfl
theorem chain_full(l:List UInt8)(a d:Nat)(t:Nat × Nat)(ha:a<=l.length)(h:chainIs (bestTo l a d) t)(ht:257<=t.1):(bestTo l a d).1=257:=by
 by_cases h3:3<=(bestTo l a d).1
 · have:=h.1 h3
   have h4:=(bestTo_le l a ha d).1
   rw [this]at ht;omega
 · have:=h.2 (by omega)
   rw [this]at ht;simp at ht
theorem longest_any(v:Value)(l:List UInt8)(base g mb a n:Nat)(pv:Value)(w:World)(hs:See w eB v l)(hn:l.length<=1000000)(ha:a<l.length)(h:ChAt w base g mb l a n pv) :
  Calls Tryz.prog 113 #[.pointer (some ⟨g,0,none⟩),v,N a] w fun e w'=>∃ t:Nat × Nat,e=.returned (.tuple #[N t.1,N t.2])/\chainIs (bestK l a) t/\t.1<=257/\t.2<=a/\Fr w w':=by
 have HS:=hid (fun W (hf:Fr w W)=>hs.fr hf)
 obtain⟨a0,cap,rfl,hcap1,hcap2,hnone⟩:=hs.shape
 unfold maxLen at hcap2
 obtain⟨h0,hM,hP,hup,hup2⟩:=h
 obtain⟨pa,pc,hpv⟩:=hP.shape'
 rw [prevs_len]at hpv
 subst hpv
 have HC0:=hid (fun W (hf:Fr w W)=>(by rw [cell_of_heap (hf.heap h0)];rfl:W.cell? ⟨g,0,none⟩=some (.map (some mb))))
 have HC1:=hid (fun W (hf:Fr w W)=>(by rw [cell_of_heap (hf.heap h0)];rfl:W.cell? ⟨g,1,none⟩=some (.slice pa a pc)))
 have HL:=hid (fun W (hf:Fr w W) x y z=>(hM.fr hf).look (t:=193) zArr Tryz.underlying5 zSz Tryz.underlying193 Tryz.underlying3 (zZero _) x y z)
 have HPc:=hid (fun W (hf:Fr w W) p (hp:p<a)=>(hP.fr hf).see.cell1 (fun n:Int=>Value.int .i64 n) rfl p (by rw [prevs_len];exact hp))
 have HAl:=hid (fun W (hf:Fr w W) f (hf2:f<a)=>lalike_any _ l f a W (HS.out W hf) hn hf2 (by omega))
 clear hs hP hM h0
 by_cases h3:a+3<=l.length
 · have h3':¬(l.length:Int)<(a:Int)+3:=by omega
   have HKy:=hid (fun W (hf:Fr w W)=>key_any _ l a W (HS.out W hf) hn h3)
   have HTr:=hid (trip_at l a h3)
   have hfd:Fr w w.drew:=(Fr.refl w).drew
   have HLF:Hid (lastF l a (l[a]'(by omega)) (l[a+1]'(by omega)) (l[a+2]'(by omega))=lastK l (trip l a) a):=by show _=_;unfold lastF;rw [HTr.out]
   generalize l[a]=x at *
   generalize l[a+1]=y at *
   generalize l[a+2]=z at *
   have e0:=HC0.out w (Fr.refl w)
   have hv3:v3 x y z=.agg #[.int .u8 (x.toNat:Int),.int .u8 (y.toNat:Int),.int .u8 (z.toNat:Int)]:=rfl
   go_enter Tryz.func113, Tryz.ntmps113
   go_upto_region 3 with fail
   go_cut [8,9]from 16 to 26 (fun sv ov wx=>Fr w wx/\Hid (match lastK l (trip l a) a with | some p=>sv=N p/\ov=.bool true | none=>sv=N 0/\ov=.bool false))
   case first=>
    cases hlk:lastF l a x y z with
    | none=>
     go_region_with (go_at_call 161;refine((HKy.out _ hfd).mono ?_);rintro e w1 ⟨rfl,hf1⟩;have hf01:=hfd.trans hf1;have c0:=HC0.out w1 hf01;have hl1:=HL.out w1 hf01 x y z;rw [hlk]at hl1;unfold lookV at hl1;rw [hv3]at hl1;rw [hv3])
     all_goals go_wp2_with fail
     all_goals go_meet
     all_goals exact⟨hf01,by show match lastK l (trip l a) a with | some p=>_ | none=>_;rw [<- HLF.out,hlk];exact⟨rfl,rfl⟩⟩
    | some p=>
     go_region_with (go_at_call 161;refine((HKy.out _ hfd).mono ?_);rintro e w1 ⟨rfl,hf1⟩;have hf01:=hfd.trans hf1;have c0:=HC0.out w1 hf01;have hl1:=HL.out w1 hf01 x y z;rw [hlk]at hl1;unfold lookV at hl1;rw [hv3]at hl1;rw [hv3])
     all_goals go_wp2_with fail
     all_goals go_meet
     all_goals exact⟨hf01,by show match lastK l (trip l a) a with | some p=>_ | none=>_;rw [<- HLF.out,hlk];exact⟨rfl,rfl⟩⟩
   case rest=>
    generalize hwc1:wc=wd at *
    clear hwc1 HKy e0 hv3
    obtain⟨hfc,HP0⟩:=hcut
    cases hlk:lastK l (trip l a) a with
    | none=>
     have HP1:=HP0.out
     rw [hlk]at HP1
     obtain⟨rfl,rfl⟩:=HP1
     have hb:chainIs (bestK l a) (0,0):=chain_done l a 0 (0,0) (Nat.zero_le _) ⟨fun h=>absurd h (by simp [bestTo]),fun _=>rfl⟩ (.inr fun q hq _=>lastK_none l _ a hlk q (by omega) (by omega))
     clear HP0
     go_wp2_with fail
     go_loopw [6,7,8] (fun nv dv pv wr=>nv=N 0/\dv=N 0/\Fr w wr) (fun _ _ _ _=>0)
     case atStart=>exact⟨rfl,rfl,hfc⟩
     case round=>
      obtain⟨rfl,rfl,hf⟩:=hrel
      go_wp2_with fail
      go_ret2
      exact⟨(0,0),rfl,hb,by simp,by simp,hf⟩
    | some p0=>
     have HP1:=HP0.out
     rw [hlk]at HP1
     obtain⟨rfl,rfl⟩:=HP1
     clear HP0
     have HST:Hid (optI (lastK l (trip l a) (a - 0))=(p0:Int)):=by show _=_;rw [Nat.sub_zero,hlk];rfl
     go_wp2_with fail
     go_loopw [6,7,8] (fun nv dv pv wr=>∃ (d:Nat) (t:Nat × Nat) (pi:Int),pv=.int .i64 pi/\nv=N t.1/\dv=N t.2/\d<=min 4095 a/\Hid (pi=optI (lastK l (trip l a) (a - d)))/\-1<=pi/\pi<a/\Hid (chainIs (bestTo l a d) t)/\t.1<=257/\t.2<=a/\Fr w wr) (fun _ _ pv _=>(intOf pv+1).toNat)
     case atStart=>exact⟨0,(0,0),p0,rfl,rfl,rfl,Nat.zero_le _,HST.out.symm,by omega,by have:=(lastK_some _ _ _ _ hlk).1;omega,⟨fun h=>absurd h (by simp [bestTo]),fun _=>rfl⟩,by simp,by simp,hfc⟩
     case round=>
      clear hfc hlk HST
      obtain⟨d,t,pi,rfl,rfl,rfl,hd,HPi,hp1,hp2,HCh,ht1,ht2,hf⟩:=hrel
      obtain⟨tn,td⟩:=t
      simp only at ht1 ht2
      go_upto_region 4 with fail
      go_cut [41]from 27 to 41 (fun cv wx=>∃ gb,cv=.bool gb/\Hid (gb=true->∃ q:Nat,pi=q/\lastK l (trip l a) (a - d)=some q/\a<=4095+q/\tn<257)/\Hid (gb=false->chainIs (bestK l a) (tn,td))/\wr=wx)
      case first=>
       cases hq:lastK l (trip l a) (a - d)with
       | none=>
        have hp:=HPi.out
        rw [hq]at hp
        have hp1':pi=-1:=hp
        have hb:chainIs (bestK l a) (tn,td):=chain_done l a d (tn,td) hd HCh.out (.inr fun q hq1 _=>lastK_none l _ _ hq q hq1 (by omega))
        subst hp1'
        go_wp2_with fail
        go_meet
        exact⟨false,rfl,(fun h=>by cases h),fun _=>hb,rfl⟩
       | some q=>
        have hp:=HPi.out
        rw [hq]at hp
        have hp1':pi=(q:Int):=hp
        have hls:=lastK_some _ _ _ _ hq
        have n1:¬(q:Int)=-1:=by omega
        have n2:((q:Int) == -1)=false:=by simp
        have n3:((q:Int) != -1)=true:=by rw [bne,n2];rfl
        subst hp1'
        by_cases w1:a<=4095+q
        · have w1':(a:Int) - q<=4095:=by omega
          by_cases w2:tn<257
          · have w2':(tn:Int)<257:=by omega
            go_wp2_with fail
            go_meet
            exact⟨true,rfl,fun _=>⟨q,rfl,hq,w1,w2⟩,(fun h=>by cases h),rfl⟩
          · have w2':¬(tn:Int)<257:=by omega
            have hb:chainIs (bestK l a) (tn,td):=chain_done l a d (tn,td) hd HCh.out (.inl (chain_full l a d (tn,td) (by omega) HCh.out (by show 257<=tn;omega)))
            go_wp2_with fail
            go_meet
            exact⟨false,rfl,(fun h=>by cases h),fun _=>hb,rfl⟩
        · have w1':¬(a:Int) - q<=4095:=by omega
          have hb:chainIs (bestK l a) (tn,td):=chain_done l a d (tn,td) hd HCh.out (.inr fun r hr1 hr2=>hls.2.2.2 r (by omega) hr1 (by omega))
          go_wp2_with fail
          go_meet
          exact⟨false,rfl,(fun h=>by cases h),fun _=>hb,rfl⟩
      case rest=>
       obtain⟨gb,rfl,HT,HF,rfl⟩:=hcut
       cases gb with
       | false=>
        have hb:=HF.out rfl
        clear HT HF HPi HCh
        go_wp2_with fail
        go_ret2
        exact⟨(tn,td),rfl,hb,ht1,ht2,hf⟩
       | true=>
        obtain⟨q,rfl,hq,w1,w2⟩:=HT.out rfl
        have hg:=chain_go l a d q (tn,td) h3 (by omega) hq HCh.out
        have hls:=lastK_some _ _ _ _ hq
        have hqa:q<a:=by omega
        obtain⟨hg1,hg2,hg3⟩:=hg
        have HAq:=hid (HAl.out wr hf q hqa)
        have hst:stepB l a (tn,td) (a - q)=if tn<alikeK l q a then(alikeK l q a,a - q)else(tn,td):=by
         unfold stepB;rw [show a - (a - q)=q by omega]
        rw [hst]at hg1
        have HG1:=hid hg1
        have hal:=alikeN_le l 257 q a
        rw [show alikeN l q a 257=alikeK l q a from rfl]at hal
        have HG3:=hid hg3
        have hmw:(a:Int) - q=((a - q:Nat):Int):=by omega
        clear HT HF HPi HCh hst hg1 hg3 hq hls hmw
        generalize hk:alikeK l q a=k at *
        clear hk
        go_wp2_with fail
        refine HAq.out.mono ?_
        rintro e w5 ⟨rfl,m5,hw5⟩
        have hf5:Fr w w5:=by rw [hw5];exact hf.drewN m5
        clear hw5
        have c1:=HC1.out w5 hf5
        obtain⟨pb,poff,pcap,hpv',cp⟩:=HPc.out w5 hf5 q hqa
        rw [prevs_len]at hpv'
        cases hpv'
        rw [prevs_at l a q hqa,prevI_opt]at cp
        have i1:(0:Int)<=q:=by omega
        have i2:(q:Int)<a:=by omega
        have hpq:-1<=optI (prevK l q)/\optI (prevK l q)<q:=by
         cases hpk:prevK l q with
         | none=>exact⟨Int.le_refl _,by show(-1:Int)<_;omega⟩
         | some r=>
          unfold prevK at hpk
          split at hpk
          · have:=(lastK_some _ _ _ _ hpk).1
            exact⟨by show(-1:Int)<=(r:Int);omega,by show(r:Int)<_;omega⟩
          · cases hpk
        have HG4:Hid (optI (prevK l q)=optI (lastK l (trip l a) (a - (a - q)))):=by show _=_;rw [HG3.out]
        clear HG3
        generalize optI (prevK l q)=np at *
        obtain⟨hpq1,hpq2⟩:=hpq
        by_cases hlt:tn<k
        · have hlt':(tn:Int)<k:=by omega
          have HG2:=HG1.out
          rw [if_pos hlt]at HG2
          have HG:=hid HG2
          clear HG2 HG1
          go_wp2_with fail
          go_roundw
          case rel=>exact⟨a - q,(k,a - q),np,rfl,rfl,by go_num,by omega,HG4,hpq1,by omega,HG,by show k<=257;omega,by show a - q<=a;omega,hf5⟩
          case measure=>simp [intOf];omega
        · have hlt':¬(tn:Int)<k:=by omega
          have HG2:=HG1.out
          rw [if_neg hlt]at HG2
          have HG:=hid HG2
          clear HG2 HG1
          go_wp2_with fail
          go_roundw
          case rel=>exact⟨a - q,(tn,td),np,rfl,rfl,rfl,by omega,HG4,hpq1,by omega,HG,ht1,ht2,hf5⟩
          case measure=>simp [intOf];omega
 · have h3':(l.length:Int)<(a:Int)+3:=by omega
   go_enter Tryz.func113, Tryz.ntmps113
   go_wp2_with fail
   go_ret2
   exact⟨(0,0),rfl,⟨fun h=>absurd h (by have:=best_short l a (by omega) (by omega);omega),fun _=>rfl⟩,by simp,by simp,Fr.refl w⟩
section
variable {w0 w W:World} {base g mb a n B:Nat} {l:List UInt8} {pv:Value}
theorem ch_keep(h:ChAt w base g mb l a n pv)(hf:Below B w0 w)(hB:B<=w.heap.size)(hb:B<=base)(hc:Chg (fun k=>k=g\/k=mb\/pv.ownBlock=some k) w W):Below B w0 W:=
 Chg.below hf hc hB fun i hi=>by
  rcases hi with rfl | rfl | hi
  · exact Nat.le_trans hb h.up
  · exact Nat.le_trans hb h.up2
  · exact Nat.le_trans hb (h.prev.lt i hi).1
theorem ch_out{α:Type}{E:Elt Tryz.prog α}{b2:Nat}{v:Value}{m:List α}(h:ChAt w base g mb l a n pv)(hO:Ow w b2 E v m)(hT:195≠E.e/\(eZ:Elt Tryz.prog Int).e≠E.e)(hc:Chg (fun k=>k=g\/k=mb\/pv.ownBlock=some k) w W):Ow W b2 E v m:=
 hO.chg hc fun k hk e=>by
  rcases e with rfl | rfl | e
  · exact hO.ne_cells h.at0 hT.1 hk
  · exact own_ne_map hO h.map hk
  · rcases own_ne hO h.prev hT.2 with h1 | h1
    · rw [h1]at hk;cases hk
    · exact h1 (hk.trans e.symm)
theorem ChAt.fr(h:ChAt w base g mb l a n pv)(hf:Fr w W):ChAt W base g mb l a n pv:=⟨hf.heap h.at0,h.map.fr hf,h.prev.fr hf,h.up,h.up2⟩
theorem ChAt.chg{G:Nat->Prop}(h:ChAt w base g mb l a n pv)(hc:Chg G w W)(h1:¬G g)(h2:¬G mb)(h3:∀ k,pv.ownBlock=some k->¬G k):ChAt W base g mb l a n pv:=⟨hc.heap h.at0 h1,h.map.chg hc h2,h.prev.chg hc h3,h.up,h.up2⟩
theorem ChAt.app{α:Type}{E:Elt Tryz.prog α}{b2:Nat}{v v':Value}{m m':List α}(h:ChAt w base g mb l a n pv)(hO:Ow w b2 E v m)(hT:195≠E.e/\E.e≠(eZ:Elt Tryz.prog Int).e)(hap:App b2 E m' w v v' W):ChAt W base g mb l a n pv:=
 h.chg hap.chg' (fun e=>hO.ne_cells h.at0 hT.1 e) (fun e=>own_ne_map hO h.map e) fun k hk e=>by
  rcases own_ne h.prev hO hT.2 with h1 | h1
  · rw [h1]at hk;cases hk
  · exact h1 (hk.trans e.symm)
end
theorem LFind_any (v : Value) (l : List UInt8) (w : World) (hs : See w eB v l) (hn : l.length ≤ 1000000) :
    Calls Tryz.prog 78 #[v] w fun e w'=>∃ v',e=.returned v'/\Ow w' w.heap.size eTk v' (findK l)/\Fr w w':=by
  have HS:=hid (fun W (h:Fr w W)=>hs.fr h)
  obtain⟨a0,cap,rfl,hcap1,hcap2,hnone⟩:=hs.shape
  unfold maxLen at hcap2
  have HB:=hid (fun W (h:Fr w W) k hk=>bAt (HS.out W h) k hk)
  have HLo:=hid (fun W (hf:Fr w W) g mb a n pv (ha:a<l.length) (hc:ChAt W w.heap.size g mb l a n pv)=>longest_any _ l w.heap.size g mb a n pv W (HS.out W hf) hn ha hc)
  have HAdd:=hid (fun W a n pv (hf:Fr w W) (ha:a<l.length) (hc:ChAt W w.heap.size (w.heap.size+1) w.heap.size l a n pv) (hna:n<=a)=>add_any _ l w.heap.size (w.heap.size+1) w.heap.size a n pv W (HS.out W hf) hn ha hc hna (fun W' hc'=>HS.out W' (ch_keep hc hf (by have:=hf.size;omega) (Nat.le_refl _) hc')))
  have hmm:=@run_makeMap Tryz.prog
  have hf0:Fr w (w.alloc (.map #[] 0)):=(Fr.refl w).alloc _
  have hM0:=MapF.made w Tryz.prog 262 3
  clear hs
  go_enter Tryz.func78, Tryz.ntmps78
  go_wp2_with fail
  have hg0:((w.alloc (.map #[] 0)).alloc (.cells #[.map (some w.heap.size),.slice none 0 0] 195)).heap[w.heap.size+1]? = some (.cells #[.map (some w.heap.size),.slice none 0 0] 195 (0,0)):=by
    exact heap_new (w.alloc (.map #[] 0)) _ (w.heap.size+1) (by rw [size_alloc])
  have hf1:Fr (w.alloc (.map #[] 0)) ((w.alloc (.map #[] 0)).alloc (.cells #[.map (some w.heap.size),.slice none 0 0] 195)):=(Fr.refl _).alloc _
  have hCh0:ChAt ((w.alloc (.map #[] 0)).alloc (.cells #[.map (some w.heap.size),.slice none 0 0] 195)) w.heap.size (w.heap.size+1) w.heap.size l 0 0 (.slice none 0 0):=
    ⟨hg0,hM0.fr hf1,Ow.nil,by omega,Nat.le_refl _⟩
  have hf2:=hf0.trans hf1
  generalize (w.alloc (.map #[] 0)).alloc (.cells #[.map (some w.heap.size),.slice none 0 0] 195)=W0 at *
  clear hf0 hf1 hg0 hM0 hmm
  go_loopw [4,5] (fun ov av wr=>∃ (a n:Nat) (pv:Value) (m:List Tok),a<=l.length/\av=N a/\Ow wr w.heap.size eTk ov m/\m.length<=a/\Hid (findK l=m++findGo l a)/\ChAt wr w.heap.size (w.heap.size+1) w.heap.size l a n pv/\n<=a/\Fr w wr) (fun _ av _=>l.length - (intOf av).toNat)
  case atStart=>exact⟨0,0,_,[],Nat.zero_le _,rfl,Ow.nil,Nat.zero_le _,rfl,hCh0,Nat.le_refl _,hf2⟩
  case round=>
    clear hCh0 hf2
    obtain⟨a,n,pv,m,ha,rfl,hO,hml,HE,hCh,hna,hf⟩:=hrel
    obtain⟨va,vc,hO'⟩:=hO.shape'
    subst hO'
    by_cases hlt:a<l.length
    · have hlt':(a:Int)<l.length:=by omega
      obtain⟨b,off,cap',hv,cA⟩:=HB.out wr hf a hlt
      cases hv
      have HM:=hid (findGo_match l a hlt)
      have HL:=hid (findGo_lit l a hlt)
      have hbt:=bestTo_le l a ha (min 4095 a)
      rw [show bestTo l a (min 4095 a)=bestK l a from rfl]at hbt
      generalize hx:l[a]=x at *
      replace cA:wr.cell? ⟨b,off+a,none⟩=some (.int .u8 ((x.toNat:Nat):Int)):=cA
      have hfA:Fr wr (wr.alloc (.cells #[.int .u8 (x.toNat:Int),.int .i64 0,.int .i64 0] 188)):=(Fr.refl wr).alloc _
      have htA:(wr.alloc (.cells #[.int .u8 (x.toNat:Int),.int .i64 0,.int .i64 0] 188)).heap[wr.heap.size]? = some (.cells #[.int .u8 (x.toNat:Int),.int .i64 0,.int .i64 0] 188 (0,0)):=heap_new _ _ _ rfl
      have hgt:w.heap.size+1<wr.heap.size:=(Array.getElem?_eq_some_iff.1 hCh.at0).1
      have hpt:∀ k,pv.ownBlock=some k->k<wr.heap.size:=fun k hk=>(hCh.prev.lt k hk).2
      have hot:∀ k,(Value.slice va m.length vc).ownBlock=some k->k<wr.heap.size:=fun k hk=>(hO.lt k hk).2
      have hChA:=hCh.fr hfA
      have hOA:=hO.fr hfA
      have hfwA:=hf.trans hfA
      have HLg:=hid (HLo.out _ hfwA _ _ a n pv hlt hChA)
      go_upto_region 5 with fail
      go_wp2_with fail
      generalize wr.alloc (.cells #[.int .u8 (x.toNat:Int),.int .i64 0,.int .i64 0] 188)=WA at *
      refine HLg.out.mono ?_
      rintro e WC ⟨⟨tn,td⟩,rfl,hch,ht1,ht2,hfC⟩
      simp only at ht1 ht2
      have hCh3:=hChA.fr hfC
      have hO3:=hOA.fr hfC
      have hf3:=hfwA.trans hfC
      have htC:=hfC.heap htA
      clear hCh hO hf hfA htA hChA hOA hfwA HLg cA
      generalize hbn:bestK l a=bk at *
      clear hbn
      generalize wr.heap.size=tb at *
      have j0:=cellx htC 0 rfl
      have j1:=cellx htC 1 rfl
      have j2:=cellx htC 2 rfl
      have f0:=frozen_of_heap htC 0
      have f1:=frozen_of_heap htC 1
      have f2:=frozen_of_heap htC 2
      by_cases h3:3<=bk.1
      · have hbk:=hch.1 h3
        have hb1:bk.1=tn:=by rw [<- hbk]
        have hb2:bk.2=td:=by rw [<- hbk]
        rw [hb1]at h3 hbt
        have h3':(3:Int)<=tn:=by omega
        have HE2:Hid (findK l=(m++[⟨0,tn,td⟩])++findGo l (a+tn)):=by show _=_;rw [HE.out,HM.out (by omega),hb1,hb2];simp
        have hcs:Chg (fun k=>k=tb) WC (((WC.setCell ⟨tb,0,none⟩ (.int .u8 0)).setCell ⟨tb,1,none⟩ (N tn)).setCell ⟨tb,2,none⟩ (N td)):=
          ((setCell_chg WC ⟨tb,0,none⟩ _).trans (setCell_chg _ ⟨tb,1,none⟩ _) (fun _ _ h=>h)).trans (setCell_chg _ ⟨tb,2,none⟩ _) (fun _ _ h=>h)
        have hCh4:=hCh3.chg hcs (by omega) (by omega) (fun k hk e=>by have:=hpt k hk;omega)
        have hO4:=hO3.chg hcs (fun k hk e=>by have:=hot k hk;omega)
        have hf4:Fr w _:=Chg.below hf3 hcs hf3.size (fun i e=>by omega)
        have hEN:Hid (eTk.enc (⟨0,tn,td⟩:Tok)=[.int .u8 0,N tn,N td]):=rfl
        clear hCh3 hO3 hf3 HM HL HE hch hbk hb1 hb2
        go_upto_region 11 with fail
        have htk:(((WC.setCell ⟨tb,0,none⟩ (.int .u8 0)).setCell ⟨tb,1,none⟩ (N tn)).setCell ⟨tb,2,none⟩ (N td)).heap[tb]? = some (.cells #[.int .u8 0,N tn,N td] 188 (0,0)):=
          heap_setCell_own (heap_setCell_own (heap_setCell_own htC 0 _) 1 _) 2 _
        clear hcs j0 j1 j2 f0 f1 f2 htC hEN
        generalize ((WC.setCell ⟨tb,0,none⟩ (.int .u8 0)).setCell ⟨tb,1,none⟩ (N tn)).setCell ⟨tb,2,none⟩ (N td)=W5 at *
        have j0:=cellx htk 0 rfl
        have j1:=cellx htk 1 rfl
        have j2:=cellx htk 2 rfl
        go_wp2_with (at_builtin;refine wpList_app1 eTk rfl (.tmp 35) (.tmp 37) 130 rfl Tryz.underlying130 w.heap.size rfl hO4 [⟨0,tn,td⟩] _ _ _ rfl rfl rfl (by simp;omega) hf4.size ?_)
        intro v' w6 hap
        have hCh6:=hCh4.app hO4 (by decide) hap
        have hO6:=hap.own
        have hf6:=hap.below hO4 hf4 (Nat.le_refl _) hf4.size
        clear hap hCh4 hO4 hf4
        go_wp2_with fail
        go_loopw [5,40] (fun av jv wx=>∃ (j n':Nat) (pv':Value),j<=tn/\jv=N j/\av=N (a+j)/\ChAt wx w.heap.size (w.heap.size+1) w.heap.size l (a+j) n' pv'/\n'<=a+j/\Ow wx w.heap.size eTk v' (m++[⟨0,tn,td⟩])/\Fr w wx) (fun _ jv _=>tn - (intOf jv).toNat)
        case atStart=>exact⟨0,n,pv,Nat.zero_le _,rfl,rfl,hCh6,hna,hO6,hf6⟩
        case round=>
          obtain⟨j,n',pv',hj,rfl,rfl,hCh,hnj,hO,hf⟩:=hrel
          by_cases hlt2:j<tn
          · have hlt2':(j:Int)<tn:=by omega
            have HAd:=hid (HAdd.out wr (a+j) n' pv' hf (by omega) hCh hnj)
            have HKp:=hid (fun W hc=>ch_keep (W:=W) hCh hf (by have:=hf.size;omega) (Nat.le_refl _) hc)
            have HKo:=hid (fun W hc=>ch_out (W:=W) hCh hO (by decide) hc)
            clear hCh hO
            go_wp2_with fail
            refine HAd.out.mono ?_
            rintro e w5 ⟨rfl,pv5,n5,hCh5,hn5,hC5,_⟩
            have hf5:=HKp.out w5 hC5
            have hO5:=HKo.out w5 hC5
            go_wp2_with fail
            go_roundw
            case rel=>exact⟨j+1,n5,pv5,by omega,by go_num,by go_num,hCh5,hn5,hO5,hf5⟩
            case measure=>simp [intOf];omega
          · obtain rfl:tn=j:=by omega
            have hnl2:¬(tn:Int)<tn:=by omega
            go_wp2_with fail
            go_roundw
            case rel=>exact⟨a+tn,n',pv',(m++[⟨0,tn,td⟩]),by omega,by go_num,hO,by simp;omega,HE2,hCh,hnj,hf⟩
            case measure=>simp [intOf];omega
      · have hbk:=hch.2 (by omega)
        have hb1:tn=0:=by have:=congrArg Prod.fst hbk;exact this
        have hb2:td=0:=by have:=congrArg Prod.snd hbk;exact this
        subst hb1
        subst hb2
        have HE2:Hid (findK l=(m++[⟨x,0,0⟩])++findGo l (a+1)):=by show _=_;rw [HE.out,HL.out h3];simp
        have hCh4:=hCh3
        have hO4:=hO3
        have hf4:=hf3
        clear hCh3 hO3 hf3 HM HL HE hch hbk f0 f1 f2
        obtain⟨st,hst⟩:∃ st,st=1:=⟨1,rfl⟩
        go_upto_region 11 with fail
        go_wp2_with (at_builtin;refine wpList_app1 eTk rfl (.tmp 35) (.tmp 37) 130 rfl Tryz.underlying130 w.heap.size rfl hO4 [⟨x,0,0⟩] _ _ _ rfl rfl rfl (by simp;omega) hf4.size ?_)
        intro v' w6 hap
        have hCh6:=hCh4.app hO4 (by decide) hap
        have hO6:=hap.own
        have hf6:=hap.below hO4 hf4 (Nat.le_refl _) hf4.size
        clear hap hCh4 hO4 hf4
        go_wp2_with fail
        go_loopw [5,40] (fun av jv wx=>∃ (j n':Nat) (pv':Value),j<=1/\jv=N j/\av=N (a+j)/\ChAt wx w.heap.size (w.heap.size+1) w.heap.size l (a+j) n' pv'/\n'<=a+j/\Ow wx w.heap.size eTk v' (m++[⟨x,0,0⟩])/\Fr w wx) (fun _ jv _=>1 - (intOf jv).toNat)
        case atStart=>exact⟨0,n,pv,Nat.zero_le _,rfl,rfl,hCh6,hna,hO6,hf6⟩
        case round=>
          obtain⟨j,n',pv',hj,rfl,rfl,hCh,hnj,hO,hf⟩:=hrel
          by_cases hlt2:j<1
          · have hlt2':(j:Int)<1:=by omega
            have HAd:=hid (HAdd.out wr (a+j) n' pv' hf (by omega) hCh hnj)
            have HKp:=hid (fun W hc=>ch_keep (W:=W) hCh hf (by have:=hf.size;omega) (Nat.le_refl _) hc)
            have HKo:=hid (fun W hc=>ch_out (W:=W) hCh hO (by decide) hc)
            clear hCh hO
            go_wp2_with fail
            refine HAd.out.mono ?_
            rintro e w5 ⟨rfl,pv5,n5,hCh5,hn5,hC5,_⟩
            have hf5:=HKp.out w5 hC5
            have hO5:=HKo.out w5 hC5
            go_wp2_with fail
            go_roundw
            case rel=>exact⟨j+1,n5,pv5,by omega,by go_num,by go_num,hCh5,hn5,hO5,hf5⟩
            case measure=>simp [intOf];omega
          · obtain rfl:1=j:=by omega
            have hnl2:¬(1:Int)<1:=by omega
            go_wp2_with fail
            go_roundw
            case rel=>exact⟨a+1,n',pv',(m++[⟨x,0,0⟩]),by omega,by go_num,hO,by simp;omega,HE2,hCh,hnj,hf⟩
            case measure=>simp [intOf];omega
    · obtain rfl:a=l.length:=by omega
      have hnl:¬(l.length:Int)<l.length:=by omega
      have HE2:Hid (m=findK l):=by show _=_;rw [HE.out,findGo_end l _ (Nat.le_refl _),List.append_nil]
      go_wp2_with fail
      go_ret
      exact⟨_,rfl,by rw [<- HE2.out];exact hO,hf⟩
end Go.Proofs.YtdagmoonnbnceaaGreatDoor
