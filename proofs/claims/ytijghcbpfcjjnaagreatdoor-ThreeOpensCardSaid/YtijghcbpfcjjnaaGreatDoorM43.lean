/- Parts of the proof of ThreeOpens: Cra. -/
import Derived.Test.YtijghcbpfcjjnaaGreatDoorM41
import Derived.Test.YtijghcbpfcjjnaaGreatDoorM18
import Derived.Test.YtijghcbpfcjjnaaGreatDoorM42
import Derived.Test.YtijghcbpfcjjnaaGreatDoorM12
set_option linter.unusedVariables false
set_option linter.unusedSectionVars false
set_option linter.unusedSimpArgs false
set_option maxHeartbeats 8000000
namespace Go.Proofs.YtijghcbpfcjjnaaGreatDoor
open Go.RowKit Go.Fk
abbrev rbZ:Array Value:=#[.slice none 0 0,.slice none 0 0,.slice none 0 0,.slice none 0 0,.slice none 0 0,.slice none 0 0]
structure RB (z:Nat) (W:World) (oc:Array Value):Prop where
 h1:W.heap[z]?=some (.cells oc 25 (0,0))
 h2:W.heap[z+1]?=some (.cells rbZ 38 (0,0))
 h3:W.heap[z+2]?=some (.cells rbZ 38 (0,0))
theorem RB.chg{z:Nat}{W W':World}{oc:Array Value}{G:Nat->Prop}(h:RB z W oc)(hc:Chg G W W')(hg:∀ k,G k->z+3<=k):RB z W' oc:=
 ⟨hc.heap h.h1 (fun e=>by have:=hg _ e;omega),hc.heap h.h2 (fun e=>by have:=hg _ e;omega),hc.heap h.h3 (fun e=>by have:=hg _ e;omega)⟩
theorem RB.fr{z:Nat}{W W':World}{oc:Array Value}(h:RB z W oc)(hf:Fr W W'):RB z W' oc:=⟨hf.heap h.h1,hf.heap h.h2,hf.heap h.h3⟩
theorem RB.cells{z:Nat}{W:World}{oc:Array Value}(h:RB z W oc) :
  (W.cell? ⟨z+1+1,0,none⟩=some (.slice none 0 0)/\W.cell? ⟨z+1+1,1,none⟩=some (.slice none 0 0)/\W.cell? ⟨z+1+1,2,none⟩=some (.slice none 0 0)/\W.cell? ⟨z+1+1,3,none⟩=some (.slice none 0 0)/\W.cell? ⟨z+1+1,4,none⟩=some (.slice none 0 0)/\W.cell? ⟨z+1+1,5,none⟩=some (.slice none 0 0)) /\
  (W.cell? ⟨z+1,0,none⟩=some (.slice none 0 0)/\W.cell? ⟨z+1,1,none⟩=some (.slice none 0 0)/\W.cell? ⟨z+1,2,none⟩=some (.slice none 0 0)/\W.cell? ⟨z+1,3,none⟩=some (.slice none 0 0)/\W.cell? ⟨z+1,4,none⟩=some (.slice none 0 0)/\W.cell? ⟨z+1,5,none⟩=some (.slice none 0 0)) /\
  (W.frozen? ⟨z+1,0,none⟩=false/\W.frozen? ⟨z+1,1,none⟩=false/\W.frozen? ⟨z+1,2,none⟩=false/\W.frozen? ⟨z+1,3,none⟩=false/\W.frozen? ⟨z+1,4,none⟩=false/\W.frozen? ⟨z+1,5,none⟩=false):=by
 have h2:=h.h2
 have h3:W.heap[z+1+1]?=some (.cells rbZ 38 (0,0)):=h.h3
 exact⟨⟨(cell_of_heap h3 0).trans rfl,(cell_of_heap h3 1).trans rfl,(cell_of_heap h3 2).trans rfl,(cell_of_heap h3 3).trans rfl,(cell_of_heap h3 4).trans rfl,(cell_of_heap h3 5).trans rfl⟩,⟨(cell_of_heap h2 0).trans rfl,(cell_of_heap h2 1).trans rfl,(cell_of_heap h2 2).trans rfl,(cell_of_heap h2 3).trans rfl,(cell_of_heap h2 4).trans rfl,(cell_of_heap h2 5).trans rfl⟩,frozen_of_heap h2 0,frozen_of_heap h2 1,frozen_of_heap h2 2,frozen_of_heap h2 3,frozen_of_heap h2 4,frozen_of_heap h2 5⟩
def zer6(W:World)(z:Nat):World:=(((((W.setCell ⟨z,0,none⟩ (.slice none 0 0)).setCell ⟨z,1,none⟩ (.slice none 0 0)).setCell ⟨z,2,none⟩ (.slice none 0 0)).setCell ⟨z,3,none⟩ (.slice none 0 0)).setCell ⟨z,4,none⟩ (.slice none 0 0)).setCell ⟨z,5,none⟩ (.slice none 0 0)
theorem set_same{z i:Nat}{W:World}(h:W.heap[z]?=some (.cells rbZ 38 (0,0)))(hi:i<6):(W.setCell ⟨z,i,none⟩ (.slice none 0 0)).heap[z]?=some (.cells rbZ 38 (0,0))/\Chg (fun k=>k=z) W (W.setCell ⟨z,i,none⟩ (.slice none 0 0)):=by
 refine⟨?_,setCell_chg W ⟨z,i,none⟩ _⟩
 have h0:=heap_setCell_own h i (.slice none 0 0)
 obtain rfl | rfl | rfl | rfl | rfl | rfl:i=0\/i=1\/i=2\/i=3\/i=4\/i=5:=by omega
 all_goals exact h0
theorem zer6_at{z:Nat}{W:World}(h:W.heap[z]?=some (.cells rbZ 38 (0,0))):(zer6 W z).heap[z]?=some (.cells rbZ 38 (0,0))/\Chg (fun k=>k=z) W (zer6 W z):=by
  unfold zer6
  obtain⟨h0,c0⟩:=set_same (i:=0) h (by decide)
  generalize W.setCell ⟨z,0,none⟩ (.slice none 0 0)=W0 at *
  obtain⟨h1,c1⟩:=set_same (i:=1) h0 (by decide)
  generalize W0.setCell ⟨z,1,none⟩ (.slice none 0 0)=W1 at *
  obtain⟨h2,c2⟩:=set_same (i:=2) h1 (by decide)
  generalize W1.setCell ⟨z,2,none⟩ (.slice none 0 0)=W2 at *
  obtain⟨h3,c3⟩:=set_same (i:=3) h2 (by decide)
  generalize W2.setCell ⟨z,3,none⟩ (.slice none 0 0)=W3 at *
  obtain⟨h4,c4⟩:=set_same (i:=4) h3 (by decide)
  generalize W3.setCell ⟨z,4,none⟩ (.slice none 0 0)=W4 at *
  obtain⟨h5,c5⟩:=set_same (i:=5) h4 (by decide)
  exact⟨h5,((((c0.trans c1 fun _ _ h=>h).trans c2 fun _ _ h=>h).trans c3 fun _ _ h=>h).trans c4 fun _ _ h=>h).trans c5 fun _ _ h=>h⟩
theorem zer6_ok{z:Nat}{w W:World}(h:W.heap[z]?=some (.cells rbZ 38 (0,0)))(hf:Fr w W)(hz:w.heap.size<=z):∀ W',W'=(zer6 W z).drew->W'.heap[z]?=some (.cells rbZ 38 (0,0))/\Fr w W':=by
 intro W' e
 obtain⟨hG,hcz⟩:=zer6_at h
 generalize zer6 W z=V at *
 subst e
 exact⟨hG,(Chg.below hf hcz hf.size (fun k hk=>by rw [hk];exact hz)).drew⟩
theorem mid_eq(b:List UInt8)(a z r:Nat)(h:a+z<=r):(b.take (a+z)).drop a=((b.take r).drop a).take z:=by
 rw [List.drop_take,List.drop_take,List.take_take]
 congr 1
 omega
theorem sees_snoc{w:World}{ps:List Hd}{ls ms:List (List UInt8)}{x:Hd}{l:List UInt8}(hl:ls.length=ps.length)(h:∀ t (h1:t<ps.length) (h2:t<ls.length),See w eB ps[t].v ls[t])(hm:ms=ls++[l])(hx:See w eB x.v l) :
  ∀ t (h1:t<(ps++[x]).length) (h2:t<ms.length),See w eB (ps++[x])[t].v ms[t]:=by
 subst hm
 intro t h1 h2
 by_cases ht:t<ps.length
 · rw [List.getElem_append_left ht,List.getElem_append_left (by omega)]
   exact h t ht (by omega)
 · have e:t=ps.length:=by simp at h1;omega
   subst e
   rw [List.getElem_append_right (Nat.le_refl _),List.getElem_append_right (by omega)]
   simp only [hl,Nat.sub_self,List.getElem_cons_zero]
   exact hx
def ldF2:Op:=Op.load 31 (.tmp 149)
attribute [local go_sem] ldF2
structure RBod (w:World) (base:Nat) (B:Bod) (cs:Array Value):Prop where
 h : ∃ cv fv tv lv xv yv, cs = #[cv, fv, tv, lv, xv, yv] ∧ Ow w base eJ cv B.counts ∧ Ow w base eQ tv B.times ∧ Ow w base eB lv B.levels ∧ Ow w base eS xv B.terms ∧
  (∃ qs,Ow w base eHi yv qs/\Owns w base eJ qs B.lists)/\(∃ ps,Ow w base eHB fv ps/\ps.length=B.frames.length/\∀ i (h1:i<ps.length) (h2:i<B.frames.length),See w eB ps[i].v B.frames[i])
theorem int_bad(s:Cs)(b:List UInt8)(m:Nat)(h:¬s.er=0):s.int b m=(0,s):=by
 unfold Cs.int Cs.val Cs.step
 simp [h]
theorem dirE_err(b:List UInt8)(room:Nat)(h:¬(dirG b).2.2.er=0):dirE b room=(dirG b).2.2.er:=by
 have h1:dirP b=(0,(dirG b).2.2):=int_bad _ _ _ h
 have h2:dirQ b=(0,(dirG b).2.2):=by unfold dirQ;rw [h1];exact int_bad _ _ _ h
 have h3:((dirG b).2.2.fin b)=(dirG b).2.2:=by unfold Cs.fin;rw [if_neg (fun e=>h e.1)]
 rw [dirE_eq,h2,h3,if_neg h]
theorem zero_snoc(cs:List Nat)(x:Nat):(decide (0∈cs) || decide (x=0))=decide (0∈cs++[x]):=by
 rw [Bool.eq_iff_iff]
 simp only [Bool.or_eq_true,decide_eq_true_eq,List.mem_append,List.mem_singleton]
 constructor
 · rintro(h | h)
   · exact .inl h
   · exact .inr h.symm
 · rintro(h | h)
   · exact .inl h
   · exact .inr h.symm
theorem int_pos(s:Cs)(b:List UInt8)(m:Nat)(h:0<(s.int b m).1):(s.int b m).2.er=0:=by
 by_cases h0:s.er=0
 · have h1:0<s.val (limL m (b.drop s.at_)):=h
   unfold Cs.val at h1
   split at h1
   · rename_i hc
     show(s.step _).er=0
     unfold Cs.step
     rw [if_pos hc.1,if_pos hc.2]
   · exact absurd h1 (Nat.lt_irrefl 0)
 · rw [int_bad s b m h0]at h;exact absurd h (Nat.lt_irrefl 0)
set_option maxRecDepth 100000
theorem ROpen_any (o : Opt) (v : Value) (b : List UInt8) (w : World) (hs : See w eB v b) (hl : b.length ≤ 1000000) :
    Calls Tryz.prog 17 #[optV o,v] w fun e w'=>∃ cs,e=.returned (.tuple #[.agg cs,.int .i64 (opEE o b:Int)])/\(opEE o b=0->RBod w' w.heap.size (opB o.bu.toNat b) cs)/\(¬opEE o b=0->cs=rbZ)/\Fr w w':=by
  have HC:=hid (fun W=>rbcheck_any o W)
  obtain⟨a0,cap,hv,_⟩:=hs.shape
  subst hv
  obtain⟨ob,opl,obu,od,opp,occ⟩:=o
  have HC:Hid (∀ W,Calls Tryz.prog 44 #[.agg #[.int .i64 ob,.bool opl,.int .i64 obu,.int .i64 od,.int .i64 opp,.int .i64 occ]] W fun e w'=>e=.returned (.int .i64 (if opt2 ⟨ob,opl,obu,od,opp,occ⟩then 0 else 9))/\Fr W w'):=HC.out
  show Calls Tryz.prog 17 #[.agg #[.int .i64 ob,.bool opl,.int .i64 obu,.int .i64 od,.int .i64 opp,.int .i64 occ],.slice a0 b.length cap] w _
  show Calls _ _ _ _ fun e w'=>∃ cs,e=.returned (.tuple #[.agg cs,.int .i64 (opEE ⟨ob,opl,obu,od,opp,occ⟩ b:Int)])/\(opEE ⟨ob,opl,obu,od,opp,occ⟩ b=0->RBod w' w.heap.size (opB obu.toNat b) cs)/\(¬opEE ⟨ob,opl,obu,od,opp,occ⟩ b=0->cs=rbZ)/\Fr w w'
  have hinf:(Tryz.prog.info? 38).map (·.size)=some rbZ.size:=by kernel_rfl
  have hone:rbZ.all (·.oneCell')=true:=by rw [List.all_toArray];rfl
  have hinfO:(Tryz.prog.info? 25).map (·.size)=some (#[.int .i64 ob,.bool opl,.int .i64 obu,.int .i64 od,.int .i64 opp,.int .i64 occ]:Array Value).size:=by kernel_rfl
  have hf0:Fr w (((w.alloc (.cells #[.int .i64 ob,.bool opl,.int .i64 obu,.int .i64 od,.int .i64 opp,.int .i64 occ] 25)).alloc (.cells rbZ 38)).alloc (.cells rbZ 38)):=(((Fr.refl w).alloc _).alloc _).alloc _
  have hB0:RB w.heap.size (((w.alloc (.cells #[.int .i64 ob,.bool opl,.int .i64 obu,.int .i64 od,.int .i64 opp,.int .i64 occ] 25)).alloc (.cells rbZ 38)).alloc (.cells rbZ 38)) #[.int .i64 ob,.bool opl,.int .i64 obu,.int .i64 od,.int .i64 opp,.int .i64 occ]:=by
    have h1:=heap_new w (.cells #[.int .i64 ob,.bool opl,.int .i64 obu,.int .i64 od,.int .i64 opp,.int .i64 occ] 25) w.heap.size rfl
    have h2:=heap_new (w.alloc (.cells #[.int .i64 ob,.bool opl,.int .i64 obu,.int .i64 od,.int .i64 opp,.int .i64 occ] 25)) (.cells rbZ 38) (w.heap.size+1) (by simp)
    have h3:=heap_new ((w.alloc (.cells #[.int .i64 ob,.bool opl,.int .i64 obu,.int .i64 od,.int .i64 opp,.int .i64 occ] 25)).alloc (.cells rbZ 38)) (.cells rbZ 38) (w.heap.size+2) (by simp)
    exact⟨(((Fr.refl _).alloc _).alloc _).heap h1,((Fr.refl _).alloc _).heap h2,h3⟩
  have hz0:w.heap.size+3=(((w.alloc (.cells #[.int .i64 ob,.bool opl,.int .i64 obu,.int .i64 od,.int .i64 opp,.int .i64 occ] 25)).alloc (.cells rbZ 38)).alloc (.cells rbZ 38)).heap.size:=by simp
  cases ho:opt2 ⟨ob,opl,obu,od,opp,occ⟩with
  | false=>
    have HE:Hid (opEE ⟨ob,opl,obu,od,opp,occ⟩ b=9):=by show _=_;unfold opEE;rw [ho];rfl
    rw [HE.out]
    rw [ho]at HC
    clear ho
    go_enter Tryz.func17, Tryz.ntmps17
    go_upto_region 2 with fail
    generalize ((w.alloc (.cells #[.int .i64 ob,.bool opl,.int .i64 obu,.int .i64 od,.int .i64 opp,.int .i64 occ] 25)).alloc (.cells rbZ 38)).alloc (.cells rbZ 38)=W0 at *
    go_wp2_with (first | (refine wpList_load_row rfl 25 (.tmp 2) rfl w.heap.size rfl 25 #[.int .i64 ob,.bool opl,.int .i64 obu,.int .i64 od,.int .i64 opp,.int .i64 occ] (0,0) _ hB0.h1 Tryz.underlying25 rfl hinfO ?_))
    refine(HC.out _).mono ?_
    rintro e w1 ⟨rfl,hf1⟩
    have hB1:=hB0.fr hf1
    have hf01:=hf0.trans hf1
    have hz1:w.heap.size+3<=w1.heap.size:=by rw [hz0];exact hf1.size
    clear HC hB0 hf0 hf1 hz0
    have hG:=setRow_heap w1 (w.heap.size+1) rbZ rbZ 38 (0,0) hB1.h2
    have hfe:Fr w (w1.setRow (w.heap.size+1) rbZ):=Chg.below hf01 (setRow_chg _ _ _) hf01.size (fun k hk=>by omega)
    go_wp2_with (first | (refine wpList_load_row rfl 38 (.tmp 6) rfl (w.heap.size+2) rfl 38 rbZ (0,0) _ hB1.h3 Tryz.underlying38 rfl hinf ?_) | (refine wpList_store_row rfl 38 (.tmp 4) (.tmp 33) rfl (w.heap.size+1) rbZ rfl rfl 38 _ hB1.h2 hinf rfl hone ?_))
    go_wp2_with fail
    (try simp only [Exit.inBlock,Exit.then])
    refine bodyPost_ret (v:=.tuple #[.agg rbZ,.int .i64 9]) (results_cell_tmp1 Tryz.results17 _ _ (w.heap.size+1) 38 _ (0,0) _ _ rfl rfl hG Tryz.underlying38 rfl hinf) rfl ?_
    exact⟨_,rfl,fun h=>absurd h (by omega),fun _=>rfl,hfe⟩
  | true=>
    have hE:opEE ⟨ob,opl,obu,od,opp,occ⟩ b=opE obu.toNat b:=by unfold opEE;rw [ho];rfl
    obtain⟨_,_,hbu1,hbu2⟩:=(opt2_iff _).1 ho
    have hbu1:1<=obu:=hbu1
    have hbu2:obu<=64:=hbu2
    rw [ho]at HC
    rw [hE]
    clear hE ho
    obtain⟨bu,hbu⟩:∃ bu,bu=obu.toNat:=⟨_,rfl⟩
    obtain rfl:obu=(bu:Int):=by omega
    rw [Int.toNat_natCast]
    have hb1:1<=bu:=by omega
    have hb2:bu<=64:=by omega
    have HE:=hid (opE_eq bu b)
    clear hbu hbu1 hbu2
    generalize opE bu b=ER at *
    obtain⟨OB,hOB⟩:∃ OB,OB=opB bu b:=⟨_,rfl⟩
    rw [<- hOB]
    have HOB:=hid hOB
    clear hOB
    go_enter Tryz.func17, Tryz.ntmps17
    go_upto_region 2 with fail
    generalize ((w.alloc (.cells #[.int .i64 ob,.bool opl,.int .i64 (bu:Int),.int .i64 od,.int .i64 opp,.int .i64 occ] 25)).alloc (.cells rbZ 38)).alloc (.cells rbZ 38)=W0 at *
    go_wp2_with (first | (refine wpList_load_row rfl 25 (.tmp 2) rfl w.heap.size rfl 25 #[.int .i64 ob,.bool opl,.int .i64 (bu:Int),.int .i64 od,.int .i64 opp,.int .i64 occ] (0,0) _ hB0.h1 Tryz.underlying25 rfl hinfO ?_))
    refine(HC.out _).mono ?_
    rintro e w1 ⟨rfl,hf1⟩
    have hB1:=hB0.fr hf1
    have hf01:=hf0.trans hf1
    have hz1:w.heap.size+3<=w1.heap.size:=by rw [hz0];exact hf1.size
    clear HC hB0 hf0 hf1 hz0
    by_cases h4:b.length<4
    · have i4:(b.length:Int)<4:=by omega
      have HE2:Hid (ER=1):=by
        have hft:ftE b=1:=by unfold ftE;rw [if_pos h4]
        show _=_;rw [HE.out,hft];rfl
      clear h4
      have hG:=setRow_heap w1 (w.heap.size+1) rbZ rbZ 38 (0,0) hB1.h2
      have hfe:Fr w (w1.setRow (w.heap.size+1) rbZ):=Chg.below hf01 (setRow_chg _ _ _) hf01.size (fun k hk=>by omega)
      go_wp2_with (first | (refine wpList_load_row rfl 38 (.tmp 6) rfl (w.heap.size+2) rfl 38 rbZ (0,0) _ hB1.h3 Tryz.underlying38 rfl hinf ?_) | (refine wpList_store_row rfl 38 (.tmp 4) (.tmp 37) rfl (w.heap.size+1) rbZ rfl rfl 38 _ hB1.h2 hinf rfl hone ?_))
      go_wp2_with fail
      (try simp only [Exit.inBlock,Exit.then])
      refine bodyPost_ret (v:=.tuple #[.agg rbZ,.int .i64 1]) (results_cell_tmp1 Tryz.results17 _ _ (w.heap.size+1) 38 _ (0,0) _ _ rfl rfl hG Tryz.underlying38 rfl hinf) rfl ?_
      rw [HE2.out]
      exact⟨_,rfl,fun h=>absurd h (by omega),fun _=>rfl,hfe⟩
    · obtain⟨n,hn4⟩:∃ n,n=b.length - 4:=⟨_,rfl⟩
      have i4:¬(b.length:Int)<4:=by omega
      have hw:IntKind.i64.wrap ((b.length:Int) - 4)=(n:Int):=by rw [IntWalk.i64_in _ (by omega)];omega
      have hdl:(b.drop n).length=4:=by rw [List.length_drop];omega
      have hFt:ftE b=if n<ftK b then 1 else errCut (ftD b):=by unfold ftE;rw [if_neg h4,hn4]
      have hD:ftD b=(b.take n).drop (n - ftK b):=by unfold ftD;rw [hn4]
      have hRe:bdRest b=b.take (n - ftK b):=by unfold bdRest;rw [hn4]
      have hKe:ftK b=leN (((b.drop n).drop 0).take 4):=by unfold ftK;rw [<- hn4,List.drop_zero,List.take_of_length_le (by omega)]
      have hk4:ftK b<4294967296:=by unfold ftK;rw [<- hn4];exact leN_four _ hdl
      obtain⟨f1,f2,hfr,hfs⟩:=run_from eB 22 Tryz.underlying22 hs n (by omega)
      have HNew:=hid (RNew_any _ (b.drop n) w1 (hfs.fr hf01) (by omega))
      have HFx:=hid (fun B base W (hc:CurF W 99 B base (b.drop n) 0 0) (hb:base<=W.heap.size)=>RFixed_yes B base 0 4 (b.drop n) W hc (by omega) (by omega) (by omega) (by omega) hb)
      rw [<- hKe]at HFx
      have HS:=hid hs
      have HHn:=hid hn4
      clear h4 hs hfs hKe hdl hn4
      generalize ftK b=k at *
      generalize b.length - n=m0 at *
      have hcv:IntKind.i64.wrap (k:Int)=k:=IntWalk.i64_in _ (by omega)
      go_wp2_with fail
      refine(HNew.out).mono ?_
      rintro e w2 ⟨B0,rfl,hC2,hf2,hBz⟩
      have HF2:=hid (HFx.out B0 _ w2 hC2 hf2.size)
      have hB2:=hB1.fr hf2
      have hf02:=hf01.trans hf2
      clear HNew HFx hC2 hB1
      go_wp2_with fail
      refine(HF2.out).mono ?_
      rintro e w3 ⟨rfl,_,hc3⟩
      have hB3:=hB2.chg hc3 (fun k e=>by have e:k=B0:=e;omega)
      have hf03:Fr w w3:=((hf02.chg (fun b=>b=B0)).trans hc3 fun _ _ h=>h).fr (fun k hk e=>by have e:k=B0:=e;omega)
      have hz3:w.heap.size+3<=w3.heap.size:=Nat.le_trans hz1 (Nat.le_trans hf2.size hc3.size)
      clear HF2 hB2 hc3 hf2 hf02 hf01 hz1 hBz
      by_cases hkn:n<k
      · have t1:(n:Int)<k:=by omega
        have HE2:Hid (ER=1):=by
          have hft:ftE b=1:=by rw [hFt,if_pos hkn]
          show _=_;rw [HE.out,hft];rfl
        clear hkn hFt hD hRe
        have hG:=setRow_heap w3 (w.heap.size+1) rbZ rbZ 38 (0,0) hB3.h2
        have hfe:Fr w (w3.setRow (w.heap.size+1) rbZ):=Chg.below hf03 (setRow_chg _ _ _) hf03.size (fun k hk=>by omega)
        go_wp2_with (first | (refine wpList_load_row rfl 38 (.tmp 6) rfl (w.heap.size+2) rfl 38 rbZ (0,0) _ hB3.h3 Tryz.underlying38 rfl hinf ?_) | (refine wpList_store_row rfl 38 (.tmp 4) (.tmp 50) rfl (w.heap.size+1) rbZ rfl rfl 38 _ hB3.h2 hinf rfl hone ?_))
        go_wp2_with fail
        (try simp only [Exit.inBlock,Exit.then])
        refine bodyPost_ret (v:=.tuple #[.agg rbZ,.int .i64 1]) (results_cell_tmp1 Tryz.results17 _ _ (w.heap.size+1) 38 _ (0,0) _ _ rfl rfl hG Tryz.underlying38 rfl hinf) rfl ?_
        rw [HE2.out]
        exact⟨_,rfl,fun h=>absurd h (by omega),fun _=>rfl,hfe⟩
      · have t1:¬(n:Int)<k:=by omega
        rw [if_neg hkn]at hFt
        obtain⟨r,hr⟩:∃ r,r=n - k:=⟨_,rfl⟩
        rw [<- hr]at hD hRe
        have hnb:n<=b.length:=by have:=HHn.out;omega
        have hw2:IntKind.i64.wrap ((n:Int) - k)=(r:Int):=by rw [IntWalk.i64_in _ (by omega)];omega
        obtain⟨m1,m2,hmr,hms⟩:=run_mid eB 22 Tryz.underlying22 HS.out r n (by omega) hnb
        have hql:((b.take n).drop r).length<=1000000:=by rw [List.length_drop,List.length_take];omega
        have HCut:=hid (RCut_any _ ((b.take n).drop r) w3 (hms.fr hf03) hql)
        have hrn:r<=n:=by omega
        have HHr:=hid hr
        rw [<- hD]at HCut
        have hql2:(cutB (ftD b)).length<=1000000:=Nat.le_trans (cutB_le _) (by rw [hD];exact hql)
        have HHd:Hid (bdDir b=cutB (ftD b)):=rfl
        have HRe:=hid hRe
        have HFt:=hid hFt
        clear hkn hr hql hD hRe hFt hms
        generalize errCut (ftD b)=fE at *
        generalize n - r=nr at *
        go_wp2_with fail
        refine(HCut.out).mono ?_
        rintro e w4 ⟨u,rfl,hO4,hf4⟩
        obtain⟨p4,z4,hq4⟩:=hO4.shape'
        subst hq4
        have hB4:=hB3.fr hf4
        have hf04:=hf03.trans hf4
        have hz4:=Nat.le_trans hz3 hf4.size
        clear HCut hB3 hf03 hz3 hf4
        by_cases hfe0:fE=0
        · have hft:ftE b=0:=by rw [HFt.out,hfe0]
          rw [if_pos hft,HHd.out]at HE
          have HB_:Hid (OB=⟨(dirG (bdDir b)).1,(dirG (bdDir b)).2.1,(dirP (bdDir b)).1,(dirQ (bdDir b)).1,cutsL (dirG (bdDir b)).2.1 (bdRest b),(colR (dirN (bdDir b)).1 (cutB (bdCol b))).1,(colR (dirN (bdDir b)).1 (cutB (bdCol b))).2.1,(postR bu (dirN (bdDir b)).1 (cutB (bdIdx b))).1,(postR bu (dirN (bdDir b)).1 (cutB (bdIdx b))).2.1⟩):=HOB.out
          have HCol:Hid (bdCol b=((bdRest b).drop (dirG (bdDir b)).2.1.sum).take (dirP (bdDir b)).1):=rfl
          have HIdx:Hid (bdIdx b=(bdRest b).drop ((dirG (bdDir b)).2.1.sum+(dirP (bdDir b)).1)):=rfl
          rw [HHd.out]at HB_ HCol HIdx
          have hrl:(bdRest b).length=r:=by rw [HRe.out,List.length_take];omega
          rw [hrl]at HE
          subst hfe0
          clear hrl HOB
          generalize bdCol b=col at *
          generalize bdIdx b=idx at *
          generalize bdRest b=rest at *
          clear HHd
          generalize cutB (ftD b)=dir at *
          have HNw:=hid (RNew_any _ dir w4 hO4.see hql2)
          have HInt:=hid (fun most (hm:most<9223372036854775808) B base s W h=>RInt_cur most hm B base s dir W h hql2)
          clear hft HFt
          obtain⟨r1,r2,r3,r4,r5,r6,r7,r8⟩:=dir_room dir
          have HDE:=hid (dirE_eq dir r)
          have HDr:=hid (dirE_err dir r)
          have HN:Hid (dirN dir=(⟨0,0⟩:Cs).int dir 20000):=rfl
          have HK:Hid (dirK dir=(dirN dir).2.int dir (dirN dir).1):=rfl
          have HP:Hid (dirP dir=(dirG dir).2.2.int dir 8388608):=rfl
          have HQ:Hid (dirQ dir=(dirP dir).2.int dir 8388608):=rfl
          have HG:Hid (dirG dir=dirGo dir (dirN dir).1 ((dirK dir).1 - 0) (dirK dir).2 [] []):=rfl
          have HSt:=hid (dirGo_step dir (dirN dir).1 (dirK dir).1)
          have HNil:=hid (dirGo_nil dir (dirN dir).1)
          have HKp:=hid (int_pos (dirN dir).2 dir (dirN dir).1)
          rw [<- HK.out]at HKp
          generalize dirE dir r=dE at *
          generalize dirG dir=Z at *
          generalize hDN:dirN dir=DN at *
          generalize hDK:dirK dir=DK at *
          generalize hDP:dirP dir=DP at *
          generalize hDQ:dirQ dir=DQ at *
          obtain⟨n1,s1⟩:=DN
          obtain⟨K,s2⟩:=DK
          obtain⟨p,s4⟩:=DP
          obtain⟨q,s5⟩:=DQ
          have r1:n1<=20000:=r1
          have r2:K<=20000:=r2
          have r7:p<=8388608:=r7
          have r8:q<=8388608:=r8
          have HKp:Hid (0<K->s2.er=0):=HKp.out
          clear hDN hDK hDP hDQ hO4
          go_wp2_with fail
          refine(HNw.out).mono ?_
          rintro e w5 ⟨B,rfl,hC5,hf5,hBz⟩
          have hB5:=hB4.fr hf5
          have hf05:=hf04.trans hf5
          have hz5:=Nat.le_trans hz4 hf5.size
          obtain⟨X,hXs⟩:∃ X,X=w5.heap.size:=⟨_,rfl⟩
          have hfx:Fr w5 (w5.alloc (.cells rbZ 38)):=(Fr.refl w5).alloc _
          have hX6:=heap_new w5 (.cells rbZ 38) X hXs
          have hBX:B<X:=by rw [hXs];exact hC5.lt
          have hwB:w.heap.size+3<=B:=by omega
          have hB6:=hB5.fr hfx
          have hf06:=hf05.trans hfx
          have hC6:=hC5.fr hfx
          have hz6:X+1<=(w5.alloc (.cells rbZ 38)).heap.size:=by simp [hXs]
          have HIa:=hid (HInt.out 20000 (by omega) B _ ⟨0,0⟩ _ hC6)
          clear HNw hB4 hB5 hf04 hf05 hz4 hf5 hC5 hC6 hfx
          go_upto_region 15 with fail
          rw [<- hXs]
          have HXs:=hid hXs
          clear hXs
          generalize w5.alloc (.cells rbZ 38)=w6 at *
          rw [<- HN.out]at HIa
          go_wp2_with fail
          refine(HIa.out).mono ?_
          rintro e w7 ⟨rfl,hC7,hc7⟩
          have HIb:=hid (HInt.out n1 (by omega) B _ s1 w7 hC7)
          rw [<- HK.out]at HIb
          clear HIa hC7
          go_wp2_with fail
          refine(HIb.out).mono ?_
          rintro e w8 ⟨rfl,hC8,hc8⟩
          have hc68:=hc7.trans hc8 fun _ _ h=>h
          have hB8:=hB6.chg hc68 (fun k e=>by have e:k=B:=e;omega)
          have hX8:=hc68.heap hX6 (fun e=>by have e:X=B:=e;omega)
          have hf08:Fr w w8:=((hf06.chg (fun b=>b=B)).trans hc68 fun _ _ h=>h).fr (fun k hk e=>by have e:k=B:=e;omega)
          have hz8:=Nat.le_trans hz6 hc68.size
          clear HIb hc7 hc8 hc68 hB6 hX6 hf06 hz6 HN HK
          go_wp2_with fail
          go_loopw [15, 16, 17, 18, 19] (fun sv tv hv zv iv wr => ∃ (j tz th : Nat) (zb : Bool) (s : Cs) (cs zs : List Nat), j ≤ K ∧ iv = N j ∧ tv = N tz ∧ hv = N th ∧ zv = .bool zb ∧ Hid (tz = zs.sum) ∧ Hid (th = cs.sum) ∧ Hid (zb = decide (0 ∈ cs)) ∧ tz ≤ j * 8388608 ∧ th ≤ j * 20000 ∧ Hid (cs.length = j) ∧ Hid (zs.length = j) ∧ Hid (j < K → s.er = 0) ∧
            (∃ cv, wr.heap[X]? = some (.cells #[cv, .slice none 0 0, .slice none 0 0, .slice none 0 0, .slice none 0 0, .slice none 0 0] 38 (0, 0)) ∧ Ow wr (X + 1) eJ cv cs ∧ (cv.ownBlock = none ∨ cv.ownBlock ≠ sv.ownBlock)) ∧ Ow wr (X + 1) eJ sv zs ∧ CurF wr 99 B w4.heap.size dir s.at_ s.er ∧ Chg (fun k => k = B ∨ X ≤ k) w8 wr ∧ Hid (Z = dirGo dir n1 (K - j) s cs zs)) (fun _ _ _ _ iv _ => K - (intOf iv).toNat)
          case atStart=>exact⟨0,0,0,false,s2,[],[],Nat.zero_le _,rfl,rfl,rfl,rfl,rfl,rfl,rfl,by omega,by omega,rfl,rfl,HKp.out,⟨_,hX8,Ow.nil,.inl rfl⟩,Ow.nil,hC8,Chg.refl _ _,HG.out⟩
          case round=>
            clear hX8 hC8 HG HKp
            obtain⟨j,tz,th,zb,s,cs,zs,hj,rfl,rfl,rfl,rfl,HTz,HTh,HZb,htz,hth,HCl,HZl,HSe,⟨cv,hX,hO1,hne⟩,hO2,hC,hch,HZk⟩:=hrel
            have hB:=hB8.chg hch (fun k e=>by have e:k=B\/X<=k:=e;omega)
            have hf:Fr w wr:=((hf08.chg (fun k=>k=B\/X<=k)).trans hch fun _ _ h=>h).fr (fun k hk e=>by have e:k=B\/X<=k:=e;omega)
            have hz:=Nat.le_trans hz8 hch.size
            obtain⟨ca,cc,hcv⟩:=hO1.shape'
            subst hcv
            obtain⟨sa,sc,hsv⟩:=hO2.shape'
            subst hsv
            by_cases hlt:j<K
            · have i1:(j:Int)<K:=by omega
              have HZ2:=hid (HZk.out.trans (HSt.out j s cs zs hlt (HSe.out hlt)))
              have HIc:=hid (HInt.out n1 (by omega) B _ s wr hC)
              have HId:=hid (fun W h=>HInt.out 8388608 (by omega) B w4.heap.size (s.int dir n1).2 W h)
              have hx1:=int_val_le s dir n1
              have hy1:=int_val_le (s.int dir n1).2 dir 8388608
              obtain⟨bcs,hbx⟩:=hC.cbox
              clear HZk hC
              generalize ((s.int dir n1).2.int dir 8388608).2=s7 at *
              generalize ((s.int dir n1).2.int dir 8388608).1=y at *
              generalize (s.int dir n1).1=x at *
              generalize (s.int dir n1).2=s6 at *
              go_wp2_with fail
              refine(HIc.out).mono ?_
              rintro e wa ⟨rfl,hCa,hca⟩
              have HIe:=hid (HId.out wa hCa)
              clear HIc HId hCa
              go_wp2_with fail
              refine(HIe.out).mono ?_
              rintro e wb ⟨rfl,hCb,hcb⟩
              have hcr:=hca.trans hcb fun _ _ h=>h
              have hXb:=hcr.heap hX (fun e=>by have e:X=B:=e;omega)
              have hO1b:=hO1.chg hcr (fun k hk e=>hO1.ne_cells hbx (by decide) (by rw [hk,show k=B from e]))
              have hO2b:=hO2.chg hcr (fun k hk e=>hO2.ne_cells hbx (by decide) (by rw [hk,show k=B from e]))
              have hBb:=hB.chg hcr (fun k e=>by have e:k=B:=e;omega)
              have hfb:Fr w wb:=((hf.chg (fun b=>b=B)).trans hcr fun _ _ h=>h).fr (fun k hk e=>by have e:k=B:=e;omega)
              have hchb:Chg (fun k=>k=B\/X<=k) w8 wb:=hch.trans (G':=fun k=>k=B) hcr fun k _ e=>.inl e
              have hzb:=Nat.le_trans hz hcr.size
              obtain⟨_,e2,_,_⟩:=hCb.cells
              clear HIe hca hcb hcr hX hO1 hO2 hbx hB hf hch hz
              by_cases he:s7.er=0
              · have e2':wb.cell? ⟨B,2,none⟩=some (.int .i64 0):=by rw [e2,he];rfl
                have HSe':=hid he
                have HZn:Hid (Z=dirGo dir n1 (K - (j+1)) s7 (cs++[x]) (zs++[y])):=HZ2.out
                have HC1:Hid (cs.length+[x].length<=2147483648):=by have:=HCl.out;show _<=_;simp;omega
                have HC2:Hid (zs.length+[y].length<=2147483648):=by have:=HZl.out;show _<=_;simp;omega
                have d0:wb.cell? ⟨X,0,none⟩=some (.slice ca cs.length cc):=by rw [cell_of_heap hXb];rfl
                have hBX2:B≠X:=by omega
                clear e2 he HZ2
                go_wp2_with (at_builtin;refine wpList_app1 eJ rfl (.tmp 94) (.tmp 96) 30 rfl Tryz.underlying30 (X+1) rfl hO1b [x] _ _ _ rfl rfl rfl HC1.out hzb ?_)
                intro v1 wd hap
                obtain⟨va,vc,hv1⟩:=hap.own.shape'
                rw [show(cs++[x]).length=cs.length+1 from by simp]at hv1
                subst hv1
                have hXd:=hap.chg'.heap hXb (fun e=>by have:=(hO1b.lt _ e).1;omega)
                have x1:wd.cell? ⟨X,0,none⟩=some (.slice ca cs.length cc):=by rw [cell_of_heap hXd];rfl
                have x2:=frozen_of_heap hXd 0
                have hst:=setCell_chg wd ⟨X,0,none⟩ (.slice va (cs.length+1) vc)
                have hXe:=heap_setCell_own hXd 0 (.slice va (cs.length+1) vc)
                have hO1e:=own_set_other (i:=0) (u:=.slice va (cs.length+1) vc) hap.own (Nat.lt_succ_self X)
                have hO2e:=own_set_other (i:=0) (u:=.slice va (cs.length+1) vc) (hap.other hO2b (ne_sym hne)) (Nat.lt_succ_self X)
                have hnee:=ne_sym (hap.apart hO2b (ne_sym hne))
                have hCe:=(hCb.app hO1b hap (by decide) (by decide)).box hXd (by decide) hBX2 hst
                have hcbe:Chg (fun k=>X<=k) wb (wd.setCell ⟨X,0,none⟩ (.slice va (cs.length+1) vc)):=(hap.chg'.mono (G':=fun k=>X<=k) fun k _ e=>by have:=(hO1b.lt k e).1;show X<=k;omega).trans hst fun k _ e=>by have e:k=X:=e;show X<=k;omega
                have hze:=Nat.le_trans hzb hcbe.size
                clear hap hXd hst hXb hO1b hO2b hne hCb d0
                go_upto_region 28 with fail
                generalize wd.setCell ⟨X,0,none⟩ (.slice va (cs.length+1) vc)=we at *
                go_wp2_with (at_builtin;refine wpList_app1 eJ rfl (.tmp 99) (.tmp 101) 30 rfl Tryz.underlying30 (X+1) rfl hO2e [y] _ _ _ rfl rfl rfl HC2.out hze ?_)
                intro v2 wg hap
                obtain⟨vb,vd,hv2⟩:=hap.own.shape'
                rw [show(zs++[y]).length=zs.length+1 from by simp]at hv2
                subst hv2
                have hXg:=hap.chg'.heap hXe (fun e=>by have:=(hO2e.lt _ e).1;omega)
                have hO1g:=hap.other hO1e hnee
                have hneg:=hap.apart hO1e hnee
                have hCg:=hCe.app hO2e hap (by decide) (by decide)
                have hchg:Chg (fun k=>k=B\/X<=k) w8 wg:=(hchb.trans (G':=fun k=>X<=k) hcbe fun k _ e=>.inr e).trans hap.chg' fun k _ e=>.inr (by have:=(hO2e.lt k e).1;omega)
                have hO2g:=hap.own
                have hCn:Hid ((cs++[x]).length=j+1):=by have:=HCl.out;show _=_;rw [List.length_append,this];rfl
                have hZn:Hid ((zs++[y]).length=j+1):=by have:=HZl.out;show _=_;rw [List.length_append,this];rfl
                have HTz':Hid (tz+y=(zs++[y]).sum):=by show _=_;rw [HTz.out];simp
                have HTh':Hid (th+x=(cs++[x]).sum):=by show _=_;rw [HTh.out];simp
                have HZb':Hid ((zb || decide (x=0))=decide (0∈cs++[x])):=by show _=_;rw [HZb.out];exact zero_snoc cs x
                have htz':tz+y<=(j+1)*8388608:=by omega
                have hth':th+x<=(j+1)*20000:=by omega
                have hw3:IntKind.i64.wrap ((tz:Int)+y)=(tz:Int)+y:=IntWalk.i64_in _ (by omega)
                have hw4:IntKind.i64.wrap ((th:Int)+x)=(th:Int)+x:=IntWalk.i64_in _ (by omega)
                clear hap hXe hO1e hO2e hnee hCe hcbe hchb hze hzb hBb hfb
                go_upto_region 31 with fail
                cases zb
                · by_cases x0:x=0
                  · have HZb':Hid (true=decide (0∈cs++[x])):=by show _=_;rw [<- HZb'.out,x0];rfl
                    have x3:(x:Int)=0:=by omega
                    clear x0
                    go_wp2_with fail
                    go_roundw
                    case rel=>exact⟨j+1,tz+y,th+x,true,s7,cs++[x],zs++[y],by omega,by go_num,by go_num,by go_num,rfl,HTz'.out,HTh'.out,HZb'.out,htz',hth',hCn.out,hZn.out,fun _=>HSe'.out,⟨_,hXg,hO1g,hneg⟩,hO2g,hCg,hchg,HZn.out⟩
                    case measure=>simp [intOf];omega
                  · have HZb':Hid (false=decide (0∈cs++[x])):=by show _=_;rw [<- HZb'.out,decide_eq_false x0];rfl
                    have x3:¬(x:Int)=0:=by omega
                    have x4:((x:Int) == 0)=false:=by rw [beq_eq_false_iff_ne];exact x3
                    clear x0
                    go_wp2_with fail
                    go_roundw
                    case rel=>exact⟨j+1,tz+y,th+x,false,s7,cs++[x],zs++[y],by omega,by go_num,by go_num,by go_num,rfl,HTz'.out,HTh'.out,HZb'.out,htz',hth',hCn.out,hZn.out,fun _=>HSe'.out,⟨_,hXg,hO1g,hneg⟩,hO2g,hCg,hchg,HZn.out⟩
                    case measure=>simp [intOf];omega
                · have HZb':Hid (true=decide (0∈cs++[x])):=HZb'.out
                  go_wp2_with fail
                  go_roundw
                  case rel=>exact⟨j+1,tz+y,th+x,true,s7,cs++[x],zs++[y],by omega,by go_num,by go_num,by go_num,rfl,HTz'.out,HTh'.out,HZb'.out,htz',hth',hCn.out,hZn.out,fun _=>HSe'.out,⟨_,hXg,hO1g,hneg⟩,hO2g,hCg,hchg,HZn.out⟩
                  case measure=>simp [intOf];omega
              · have i2:¬(s7.er:Int)=0:=by omega
                have HE2:Hid (ER=s7.er):=by
                  have hZe:Z.2.2=s7:=by rw [HZ2.out,HNil.out _ _ _ _ he]
                  have hd:dE=s7.er:=by rw [<- hZe];exact HDr.out (by rw [hZe];exact he)
                  show _=_;rw [HE.out,hd,if_neg he]
                clear he HZ2
                obtain⟨⟨y0,y1,y2,y3,y4,y5⟩,⟨z0,z1,z2,z3,z4',z5⟩,q0,q1,q2,q3,q4,q5⟩:=hBb.cells
                have KZ:=hid (zer6_ok hBb.h2 hfb (Nat.le_succ _))
                go_upto_region 26 with fail
                go_cut [5]from 88 to 92 (fun ev wx=>ev=.int .i64 (s7.er:Int)/\wx.heap[w.heap.size+1]?=some (.cells rbZ 38 (0,0))/\Fr w wx)
                case first=>
                  go_region
                  go_wp2_with fail
                  go_meet
                  exact⟨rfl,KZ.out _ rfl⟩
                case rest=>
                  clear y0 y1 y2 y3 y4 y5 z0 z1 z2 z3 z4' z5 q0 q1 q2 q3 q4 q5
                  obtain⟨rfl,hG,hfe⟩:=hcut
                  go_wp2_with fail
                  (try simp only [Exit.inBlock,Exit.then])
                  refine bodyPost_ret (v:=.tuple #[.agg rbZ,.int .i64 (s7.er:Int)]) (results_cell_tmp1 Tryz.results17 _ _ (w.heap.size+1) 38 _ (0,0) _ _ rfl rfl hG Tryz.underlying38 rfl hinf) rfl ?_
                  rw [HE2.out]
                  exact⟨_,rfl,fun h=>absurd h (by omega),fun _=>rfl,hfe⟩
            · obtain rfl:j=K:=by omega
              have i1:¬(j:Int)<j:=by omega
              have hZe:Z=(cs,zs,s):=by rw [HZk.out,Nat.sub_self];rfl
              subst hZe
              have HIp:=hid (HInt.out 8388608 (by omega) B _ s wr hC)
              rw [show s.int dir 8388608=(p,s4)from HP.out.symm]at HIp
              have HIq:=hid (fun W h=>HInt.out 8388608 (by omega) B w4.heap.size s4 W h)
              rw [show s4.int dir 8388608=(q,s5)from HQ.out.symm]at HIq
              have HEd:=hid (fun W h=>REnd_cur B w4.heap.size s5 dir W h hql2)
              have HDE2:Hid (dE=if(s5.fin dir).er=0 then(if 0∈cs\/¬cs.sum=n1\/¬zs.sum+p+q=r then 2 else 0)else(s5.fin dir).er):=HDE.out
              have HCol:Hid (col=(rest.drop zs.sum).take p):=HCol.out
              have HIdx:Hid (idx=rest.drop (zs.sum+p)):=HIdx.out
              have HOB:Hid (OB=⟨cs,zs,p,q,cutsL zs rest,(colR n1 (cutB col)).1,(colR n1 (cutB col)).2.1,(postR bu n1 (cutB idx)).1,(postR bu n1 (cutB idx)).2.1⟩):=HB_.out
              have r4:zs.length<=20000:=r4
              have r6:zs.sum<=167772160000:=r6
              obtain⟨bcs,hbx⟩:=hC.cbox
              have HSt2:=hid i1
              clear HZk hC HP HQ HDE HDr HNil HSt HInt r3 r5 HB_ HSe
              generalize s5.fin dir=s8 at *
              go_wp2_with fail
              refine(HIp.out).mono ?_
              rintro e wa ⟨rfl,hCa,hca⟩
              have HI2:=hid (HIq.out wa hCa)
              clear HIp HIq hCa
              go_wp2_with fail
              refine(HI2.out).mono ?_
              rintro e wb ⟨rfl,hCb,hcb⟩
              have HE3:=hid (HEd.out wb hCb)
              clear HI2 HEd hCb
              go_wp2_with fail
              refine(HE3.out).mono ?_
              rintro e we ⟨rfl,hCe,hce⟩
              have hcr:=(hca.trans hcb fun _ _ h=>h).trans hce fun _ _ h=>h
              have hXe:=hcr.heap hX (fun e=>by have e:X=B:=e;omega)
              have hO1e:=hO1.chg hcr (fun k hk e=>hO1.ne_cells hbx (by decide) (by rw [hk,show k=B from e]))
              have hO2e:=hO2.chg hcr (fun k hk e=>hO2.ne_cells hbx (by decide) (by rw [hk,show k=B from e]))
              have hBe:=hB.chg hcr (fun k e=>by have e:k=B:=e;omega)
              have hfe0:Fr w we:=((hf.chg (fun b=>b=B)).trans hcr fun _ _ h=>h).fr (fun k hk e=>by have e:k=B:=e;omega)
              have hze:=Nat.le_trans hz hcr.size
              obtain⟨_,e2,_,_⟩:=hCe.cells
              clear HE3 hca hcb hce hcr hX hO1 hO2 hbx hB hf hch hz hCe
              by_cases he:s8.er=0
              · have HDE3:Hid (dE=if 0∈cs\/¬cs.sum=n1\/¬zs.sum+p+q=r then 2 else 0):=by show _=_;rw [HDE2.out,if_pos he]
                rw [he]
                clear he HDE2 e2
                obtain⟨bad,hbad⟩:∃ bad:Bool,bad=decide (0∈cs\/¬cs.sum=n1\/¬zs.sum+p+q=r):=⟨_,rfl⟩
                have HBad:=hid hbad
                have HTzl:Hid (tz<=167772160000):=by show _<=_;rw [HTz.out];exact r6
                clear hbad r6 htz
                go_upto_region 36 with fail
                go_cut [142]from 126 to 142 (fun cv wx=>cv=.bool bad/\we=wx)
                case first=>
                  cases zb
                  · have hz0:¬0∈cs:=fun h=>by have:=HZb.out;rw [decide_eq_true h]at this;cases this
                    by_cases ht:th=n1
                    · subst ht
                      obtain⟨a1,ha1⟩:∃ a1,a1=tz+p:=⟨_,rfl⟩
                      obtain⟨a2,ha2⟩:∃ a2,a2=a1+q:=⟨_,rfl⟩
                      have htl:=HTzl.out
                      have ww1:IntKind.i64.wrap ((tz:Int)+p)=(a1:Int):=by rw [IntWalk.i64_in _ (by omega)];omega
                      have ww2:IntKind.i64.wrap ((a1:Int)+q)=(a2:Int):=by rw [IntWalk.i64_in _ (by omega)];omega
                      by_cases ha:a2=r
                      · have hb:Hid (bad=false):=by
                          show _=_;rw [HBad.out,decide_eq_false]
                          rintro(h | h | h)
                          · exact hz0 h
                          · exact h HTh.out.symm
                          · exact h (by rw [<- HTz.out,<- ha1,<- ha2];exact ha)
                        have ha3:(a2:Int)=r:=by omega
                        clear ha1 ha2 htl hz0
                        rw [ha]at ww2
                        clear ha ha3
                        go_wp2_with fail
                        go_meet
                        exact⟨by rw [hb.out],rfl⟩
                      · have hb:Hid (bad=true):=by
                          show _=_;rw [HBad.out,decide_eq_true]
                          exact .inr (.inr (fun h=>ha (by rw [ha2,ha1,HTz.out];exact h)))
                        have ha3:¬(a2:Int)=r:=by omega
                        clear ha1 ha2 htl hz0 ha
                        go_wp2_with fail
                        go_meet
                        exact⟨by rw [hb.out,show((a2:Int) != r)=true from bne_iff_ne.2 ha3],rfl⟩
                    · have hb:Hid (bad=true):=by
                        show _=_;rw [HBad.out,decide_eq_true]
                        exact .inr (.inl (fun h=>ht (by rw [HTh.out];exact h)))
                      have ht3:¬(th:Int)=n1:=by omega
                      clear ht hz0
                      go_wp2_with fail
                      go_meet
                      exact⟨by rw [hb.out],rfl⟩
                  · have hb:Hid (bad=true):=by
                      show _=_;rw [HBad.out,decide_eq_true]
                      exact .inl (of_decide_eq_true HZb.out.symm)
                    go_wp2_with fail
                    go_meet
                    exact⟨by rw [hb.out],rfl⟩
                case rest=>
                  obtain⟨rfl,rfl⟩:=hcut
                  have HXB:=hid (And.intro HTz.out HTh.out)
                  clear HZb HTzl HTh HTz hth
                  cases bad
                  · have hnbd:=of_decide_eq_false HBad.out.symm
                    have hroom:zs.sum+p+q=r:=Classical.byContradiction fun h=>hnbd (.inr (.inr h))
                    have HE4:Hid (ER=if colE n1 col=0 then(if errCut idx=0 then(postR bu n1 (cutB idx)).2.2 else errCut idx)else colE n1 col):=by
                      have hd:dE=0:=by rw [HDE3.out,if_neg hnbd]
                      show _=_;rw [HE.out,if_pos hd]
                    have HTk:=hid (groups_sum_le zs)
                    have HSn:=hid (sum_snoc zs)
                    have HAl:Hid ((zs.take j).sum=zs.sum):=by show _=_;rw [<- HZl.out,List.take_length]
                    have HCt:=hid (cutsL_take zs rest)
                    have HCe:Hid (cutsL (zs.take j) rest=cutsL zs rest):=by show _=_;rw [<- HZl.out,List.take_length]
                    have hrb:r<=b.length:=by omega
                    have HRm:=hid hroom
                    have hrs:zs.sum<=r:=by omega
                    clear hnbd hroom HE HDE3 HBad HSt2
                    obtain⟨wo,rfl⟩:∃ wo:World,wo=wr:=⟨_,rfl⟩
                    go_wp2_with fail
                    go_loopw [24, 25] (fun av iv wr => ∃ (i a : Nat) (ps : List Hd), i ≤ j ∧ iv = N i ∧ av = N a ∧ Hid (a = (zs.take i).sum) ∧ a ≤ zs.sum ∧ Hid (ps.length = i) ∧ (∃ fv, wr.heap[X]? = some (.cells #[.slice ca cs.length cc, fv, .slice none 0 0, .slice none 0 0, .slice none 0 0, .slice none 0 0] 38 (0, 0)) ∧ Ow wr (X + 1) eHB fv ps) ∧
                      Hid (∀ t (h1 : t < ps.length) (h2 : t < (cutsL (zs.take i) rest).length), See w eB ps[t].v (cutsL (zs.take i) rest)[t]) ∧ Ow wr (X + 1) eJ (.slice ca cs.length cc) cs ∧ Ow wr (X + 1) eJ (.slice sa zs.length sc) zs ∧ Chg (fun k => X ≤ k) we wr) (fun _ iv _ => j - (intOf iv).toNat)
                    case atStart=>exact⟨0,0,[],Nat.zero_le _,rfl,rfl,rfl,Nat.zero_le _,rfl,⟨_,hXe,Ow.nil⟩,fun t h1=>absurd h1 (Nat.not_lt_zero _),hO1e,hO2e,Chg.refl _ _⟩
                    case round=>
                      clear hXe hO1e hO2e
                      obtain⟨i,a,ps,hi,rfl,rfl,HA,ha,HPl,⟨fv,hX,hF⟩,HSee,hO1,hO2,hch⟩:=hrel
                      have hz:=Nat.le_trans hze hch.size
                      obtain⟨fa,fc,hfv⟩:=hF.shape'
                      subst hfv
                      by_cases hlt:i<j
                      · have i1:(i:Int)<j:=by omega
                        have hlz:i<zs.length:=by have:=HZl.out;omega
                        have i2:(0:Int)<=i:=by omega
                        have i3:(i:Int)<zs.length:=by omega
                        obtain⟨b5,o5,p5,hv5,e5⟩:=hO2.see.cell1 N rfl i hlz
                        cases hv5
                        have hn1:=HTk.out (i+1)
                        rw [HSn.out i hlz,<- HA.out]at hn1
                        have HA2:Hid (a+zs[i]=(zs.take (i+1)).sum):=by show _=_;rw [HSn.out i hlz,<- HA.out]
                        have HC2:Hid (cutsL (zs.take (i+1)) rest=cutsL (zs.take i) rest++[(rest.drop a).take zs[i]]):=by show _=_;rw [HCt.out i hlz,<- HA.out]
                        have HI3:Hid (∀ (h:i<zs.length) W,Ow W (X+1) eJ (.slice (some ⟨b5,o5,none⟩) zs.length sc) zs->W.cell? ⟨b5,o5+i,none⟩=some (N zs[i])):=fun h W ho=>by
                          obtain⟨b6,o6,p6,hv6,e6⟩:=ho.see.cell1 N rfl i h
                          cases hv6
                          exact e6
                        have HI4:Hid (∀ W,Ow W (X+1) eJ (.slice (some ⟨b5,o5,none⟩) zs.length sc) zs->W.cell? ⟨b5,o5+i,none⟩=some (N zs[i])):=HI3.out hlz
                        have e6:wr.cell? ⟨b5,o5+i,none⟩=some (N zs[i]):=e5
                        clear e5 HI3
                        generalize zs[i]=z at *
                        clear hlz
                        have hmid:=mid_eq b a z r (by omega)
                        obtain⟨az,haz⟩:∃ az,az=a+z:=⟨_,rfl⟩
                        rw [<- haz,<- HRe.out]at hmid
                        obtain⟨g1,g2,hgr,hgs⟩:=run_mid eB 22 Tryz.underlying22 HS.out a az (by omega) (by omega)
                        rw [hmid]at hgs
                        have hzz:az - a=z:=by omega
                        rw [hzz]at hgr hgs
                        have ww:IntKind.i64.wrap ((a:Int)+z)=(az:Int):=by rw [IntWalk.i64_in _ (by omega)];omega
                        have haz2:(a:Int)<=az:=by omega
                        have haz3:(az:Int)<=b.length:=by omega
                        have hazS:az<=zs.sum:=by omega
                        have HAz:Hid (az=a+z):=haz
                        have HGs:=hid hgs
                        have HC1:Hid (ps.length+[(⟨none,0,0⟩:Hd)].length<=2147483648):=by have:=HPl.out;show _<=_;simp;omega
                        have c1:wr.cell? ⟨X,1,none⟩=some (.slice fa ps.length fc):=by rw [cell_of_heap hX];rfl
                        have d1:=((Fr.refl wr).alloc (.cells #[.slice g1 z g2] 22)).cell c1
                        clear hmid haz hgs hzz
                        go_upto_region 42 with fail
                        go_cut []from 149 to 162 (fun wx=>(∃ fv,wx.heap[X]?=some (.cells #[.slice ca cs.length cc,fv,.slice none 0 0,.slice none 0 0,.slice none 0 0,.slice none 0 0] 38 (0,0))/\Ow wx (X+1) eHB fv (ps++[⟨g1,z,g2⟩]))/\Ow wx (X+1) eJ (.slice ca cs.length cc) cs/\Ow wx (X+1) eJ (.slice (some ⟨b5,o5,none⟩) zs.length sc) zs/\Chg (fun k=>X<=k) we wx)
                        case first=>
                          rw [show Op.load 31 (.tmp 149)=ldF2 from rfl]
                          go_region_held_law (fun W => W.cell? ⟨b5, o5 + i, none⟩ = some (N z)) (first | exact e6 | exact e7 | exact e8 | go_keep) (((first
                            | (refine step_app1d eHB rfl (.tmp 150) (.tmp 160) 31 rfl Tryz.underlying31 (X + 1) rfl hF [⟨g1, z, g2⟩] _ _ _ rfl rfl rfl HC1.out hz ?_
                               intro v' w7 hap
                               obtain ⟨va, vc, hv'⟩ := hap.own.shape'
                               rw [show (ps ++ [(⟨g1, z, g2⟩ : Hd)]).length = ps.length + 1 from by simp] at hv'
                               subst hv'
                               have hX7 := hap.chg'.heap hX (fun e => by have := (hF.lt _ e).1; omega)
                               have hO17 := own_app hO1 hF hap (by decide)
                               have hO27 := own_app hO2 hF hap (by decide)
                               have e7 := HI4.out w7 hO27
                               have e8 := HI4.out _ (own_set_other (i := 1) (u := .slice va (ps.length + 1) vc) hO27 (Nat.lt_succ_self X))
                               have e3 : w7.cell? ⟨X, 1, none⟩ = some (.slice fa ps.length fc) := by rw [cell_of_heap hX7]; rfl
                               have e4 : w7.frozen? ⟨X, 1, none⟩ = false := frozen_of_heap hX7 1))))
                          all_goals go_wp2_with fail
                          all_goals go_meet
                          all_goals exact⟨⟨_,heap_setCell_own hX7 1 _,own_set_other (i:=1) hap.own (Nat.lt_succ_self X)⟩,own_set_other (i:=1) hO17 (Nat.lt_succ_self X),own_set_other (i:=1) hO27 (Nat.lt_succ_self X),(hch.trans hap.chg' fun k _ e=>by have:=(hF.lt k e).1;show X<=k;omega).trans (setCell_chg w7 ⟨X,1,none⟩ _) fun k _ e=>by have e:k=X:=e;show X<=k;omega⟩
                        case rest=>
                          obtain⟨hXF,hO1',hO2',hch'⟩:=hcut
                          have e9:=HI4.out wc hO2'
                          have HSn2:Hid (∀ t (h1:t<(ps++[(⟨g1,z,g2⟩:Hd)]).length) (h2:t<(cutsL (zs.take (i+1)) rest).length),See w eB (ps++[(⟨g1,z,g2⟩:Hd)])[t].v (cutsL (zs.take (i+1)) rest)[t]):=by
                            have hcl:(cutsL (zs.take i) rest).length=ps.length:=by rw [cutsL_len,List.length_take,HPl.out];have:=HZl.out;omega
                            exact sees_snoc hcl HSee.out HC2.out HGs.out
                          have HPl2:Hid ((ps++[(⟨g1,z,g2⟩:Hd)]).length=i+1):=by show _=_;rw [List.length_append,HPl.out];rfl
                          have HA3:Hid (az=(zs.take (i+1)).sum):=HAz.out.trans HA2.out
                          clear hX hF hO1 hO2 hch HSee HGs HC2 HCt e6 c1 d1 hz hn1 haz2 haz3
                          generalize ps++[(⟨g1,z,g2⟩:Hd)]=ps2 at *
                          go_wp2_with fail
                          go_roundw
                          case rel=>exact⟨i+1,az,ps2,by omega,by go_num,rfl,HA3.out,hazS,HPl2.out,hXF,HSn2.out,hO1',hO2',hch'⟩
                          case measure=>simp [intOf];omega
                      · obtain rfl:i=j:=by omega
                        have i1:¬(i:Int)<i:=by omega
                        have HAe:Hid (a=zs.sum):=HA.out.trans HAl.out
                        rw [HCe.out]at HSee
                        have hBr:=hBe.chg hch (fun k e=>by have e:X<=k:=e;omega)
                        have hfr2:Fr w wr:=((hfe0.chg (fun k=>X<=k)).trans hch fun _ _ h=>h).fr (fun k hk e=>by have e:X<=k:=e;omega)
                        have hra:a+p+q=r:=by rw [HAe.out];exact HRm.out
                        obtain⟨ap,hap⟩:∃ ap,ap=a+p:=⟨_,rfl⟩
                        have hm1:(b.take ap).drop a=col:=by rw [hap,mid_eq b a p r (by omega),<- HRe.out,HAe.out];exact HCol.out.symm
                        have hm2:(b.take r).drop ap=idx:=by rw [<- HRe.out,hap,HAe.out];exact HIdx.out.symm
                        obtain⟨k1,k2,hkr,hks⟩:=run_mid eB 22 Tryz.underlying22 HS.out a ap (by omega) (by omega)
                        obtain⟨k3,k4,hlr,hls⟩:=run_mid eB 22 Tryz.underlying22 HS.out ap r (by omega) (by omega)
                        rw [hm1]at hks
                        rw [hm2]at hls
                        have ww1:IntKind.i64.wrap ((a:Int)+p)=(ap:Int):=by rw [IntWalk.i64_in _ (by omega)];omega
                        have ww2:IntKind.i64.wrap ((ap:Int)+q)=(r:Int):=by rw [IntWalk.i64_in _ (by omega)];omega
                        have t2:(a:Int)<=ap:=by omega
                        have t3:(ap:Int)<=b.length:=by omega
                        have t4:(ap:Int)<=r:=by omega
                        have t5:(r:Int)<=b.length:=by omega
                        have hcl:col.length<=1000000:=by rw [<- hm1,List.length_drop,List.length_take];omega
                        have hil:idx.length<=1000000:=by rw [<- hm2,List.length_drop,List.length_take];omega
                        have HIs:=hid hls
                        have HCc:=hid (RCut_any _ col wr (hks.fr hfr2) hcl)
                        have HCo:Hid (colE n1 col=if errCut col=0 then(if(colR n1 (cutB col)).2.2.2=0 then(if(colR n1 (cutB col)).2.2.1<(cutB col).length then 2 else 0)else(colR n1 (cutB col)).2.2.2)else errCut col):=rfl
                        have hcq:(cutB col).length<=1000000:=Nat.le_trans (cutB_le col) hcl
                        have hxq:(cutB idx).length<=1000000:=Nat.le_trans (cutB_le idx) hil
                        have HIc:=hid (fun v W (h:See W eB v idx)=>RCut_any v idx W h hil)
                        have HRd:=hid (fun v W (h:See W eB v (cutB col))=>RRdCols_any n1 r1 v (cutB col) W h hcq)
                        have HPo:=hid (fun v W (h:See W eB v (cutB idx))=>RPRead_any bu n1 hb1 hb2 r1 v (cutB idx) W h hxq)
                        clear hra hap hm1 hm2 hks hls hcl hil hcq hxq HCol HIdx HAe HRm HA HAl HCe HTk HSn HCt HXB hze hBe hfe0
                        generalize ap - a=nk at *
                        generalize r - ap=nl at *
                        generalize colE n1 col=CE at *
                        generalize errCut col=cE at *
                        generalize errCut idx=xE at *
                        generalize cutB col=cq at *
                        generalize cutB idx=xq at *
                        generalize colR n1 cq=CR at *
                        generalize postR bu n1 xq=PR at *
                        go_wp2_with fail
                        refine(HCc.out).mono ?_
                        rintro e wa ⟨u,rfl,hU,hfa⟩
                        obtain⟨ua,uc,hu⟩:=hU.shape'
                        subst hu
                        have hXa:=hfa.heap hX
                        have hFa:=hF.fr hfa
                        have hO1a:=hO1.fr hfa
                        have hBa:=hBr.fr hfa
                        have hf0a:=hfr2.trans hfa
                        have hza:=Nat.le_trans hz hfa.size
                        clear HCc hX hF hO1 hO2 hBr hfr2 hch hz hfa
                        by_cases hc0:cE=0
                        · rw [if_pos hc0]at HCo
                          subst hc0
                          have HR1:=hid (HRd.out _ wa hU.see)
                          have hTk:=HRd
                          clear HRd hTk
                          go_wp2_with fail
                          refine(HR1.out).mono ?_
                          rintro e wb ⟨v2,v3,rfl,hQ,hL,hfb⟩
                          obtain⟨qa,qc,hq⟩:=hQ.shape'
                          subst hq
                          obtain⟨la,lc,hl2⟩:=hL.shape'
                          subst hl2
                          have hXb:=hfb.heap hXa
                          have hFb:=hFa.fr hfb
                          have hO1b:=hO1a.fr hfb
                          have hBb:=hBa.fr hfb
                          have hf0b:=hf0a.trans hfb
                          have hzb:=Nat.le_trans hza hfb.size
                          have hQb:=hQ.rebase hza
                          have hLb:=hL.rebase hza
                          have x2:wb.cell? ⟨X,2,none⟩=some (.slice none 0 0):=by rw [cell_of_heap hXb];rfl
                          have x3:wb.cell? ⟨X,3,none⟩=some (.slice none 0 0):=by rw [cell_of_heap hXb];rfl
                          have y2:=frozen_of_heap hXb 2
                          have y3:=frozen_of_heap hXb 3
                          have hX1:=heap_setCell_own hXb 2 (.slice qa CR.1.length qc)
                          have x4:(wb.setCell ⟨X,2,none⟩ (.slice qa CR.1.length qc)).cell? ⟨X,3,none⟩=some (.slice none 0 0):=by rw [cell_of_heap hX1];rfl
                          have y4:=frozen_of_heap hX1 3
                          have hX2:=heap_setCell_own hX1 3 (.slice la CR.2.1.length lc)
                          have hst1:=setCell_chg wb ⟨X,2,none⟩ (.slice qa CR.1.length qc)
                          have hst2:=setCell_chg (wb.setCell ⟨X,2,none⟩ (.slice qa CR.1.length qc)) ⟨X,3,none⟩ (.slice la CR.2.1.length lc)
                          have hst:Chg (fun k=>k=X) wb ((wb.setCell ⟨X,2,none⟩ (.slice qa CR.1.length qc)).setCell ⟨X,3,none⟩ (.slice la CR.2.1.length lc)):=hst1.trans hst2 fun _ _ h=>h
                          have hFc:=ow_g hFb hXb (by decide) hst
                          have hO1c:=ow_g hO1b hXb (by decide) hst
                          have hQc:=ow_g hQb hXb (by decide) hst
                          have hLc:=ow_g hLb hXb (by decide) hst
                          have hBc:=hBb.chg hst (fun k e=>by have e:k=X:=e;omega)
                          have hf0c:Fr w ((wb.setCell ⟨X,2,none⟩ (.slice qa CR.1.length qc)).setCell ⟨X,3,none⟩ (.slice la CR.2.1.length lc)):=((hf0b.chg (fun k=>k=X)).trans hst fun _ _ h=>h).fr (fun k hk e=>by have e:k=X:=e;omega)
                          have hzc:=Nat.le_trans hzb hst.size
                          have HX2:=hid (And.intro hX2 True.intro)
                          clear HR1 hX1 hst1 hst2 hst hXa hFa hO1a hBa hf0a hza hXb hFb hO1b hBb hf0b hzb hQb hLb hQ hL hU hfb hX2
                          go_upto_region 49 with fail
                          generalize (wb.setCell ⟨X,2,none⟩ (.slice qa CR.1.length qc)).setCell ⟨X,3,none⟩ (.slice la CR.2.1.length lc)=wd at *
                          have hXd:wd.heap[X]?=some (.cells #[.slice ca cs.length cc,.slice fa ps.length fc,.slice qa CR.1.length qc,.slice la CR.2.1.length lc,.slice none 0 0,.slice none 0 0] 38 (0,0)):=HX2.out.1
                          clear HX2 x2 x3 y2 y3 x4 y4
                          by_cases hr0:CR.2.2.2=0
                          · rw [if_pos hr0]at HCo
                            rw [hr0]
                            clear hr0
                            by_cases htk:CR.2.2.1<cq.length
                            · rw [if_pos htk]at HCo
                              have HE2:Hid (ER=2):=by show _=_;rw [HE4.out,HCo.out,if_neg (by decide)]
                              have t6:(CR.2.2.1:Int)<cq.length:=by omega
                              clear htk
                              have hG:=setRow_heap wd (w.heap.size+1) rbZ rbZ 38 (0,0) hBc.h2
                              have hfe:Fr w (wd.setRow (w.heap.size+1) rbZ):=Chg.below hf0c (setRow_chg _ _ _) hf0c.size (fun k hk=>by omega)
                              go_wp2_with (first | (refine wpList_load_row rfl 38 (.tmp 6) rfl (w.heap.size+2) rfl 38 rbZ (0,0) _ hBc.h3 Tryz.underlying38 rfl hinf ?_) | (refine wpList_store_row rfl 38 (.tmp 4) (.tmp 201) rfl (w.heap.size+1) rbZ rfl rfl 38 _ hBc.h2 hinf rfl hone ?_))
                              go_wp2_with fail
                              (try simp only [Exit.inBlock,Exit.then])
                              refine bodyPost_ret (v:=.tuple #[.agg rbZ,.int .i64 2]) (results_cell_tmp1 Tryz.results17 _ _ (w.heap.size+1) 38 _ (0,0) _ _ rfl rfl hG Tryz.underlying38 rfl hinf) rfl ?_
                              rw [HE2.out]
                              exact⟨_,rfl,fun h=>absurd h (by omega),fun _=>rfl,hfe⟩
                            · rw [if_neg htk]at HCo
                              have t6:¬(CR.2.2.1:Int)<cq.length:=by omega
                              have HE5:Hid (ER=if xE=0 then PR.2.2 else xE):=by show _=_;rw [HE4.out,HCo.out,if_pos rfl]
                              have HI2:=hid (HIc.out _ wd (HIs.out.fr hf0c))
                              clear htk HE4 HCo HIc HIs
                              go_wp2_with fail
                              refine(HI2.out).mono ?_
                              rintro e wf ⟨u4,rfl,hU4,hff⟩
                              obtain⟨xa,xc,hu4⟩:=hU4.shape'
                              subst hu4
                              have hXf:=hff.heap hXd
                              have hFf:=hFc.fr hff
                              have hO1f:=hO1c.fr hff
                              have hQf:=hQc.fr hff
                              have hLf:=hLc.fr hff
                              have hBf:=hBc.fr hff
                              have hf0f:=hf0c.trans hff
                              have hzf:=Nat.le_trans hzc hff.size
                              clear HI2 hXd hFc hO1c hQc hLc hBc hf0c hzc hff
                              by_cases hx0:xE=0
                              · rw [if_pos hx0]at HE5
                                subst hx0
                                have o2:wf.cell? ⟨w.heap.size,2,none⟩=some (.int .i64 (bu:Int)):=by rw [cell_of_heap hBf.h1];rfl
                                have HP2:=hid (HPo.out _ wf hU4.see)
                                clear HPo hU4
                                go_wp2_with fail
                                refine(HP2.out).mono ?_
                                rintro e wg ⟨v4,v5,rfl,hT,⟨qs,hY,hYs⟩,hfg⟩
                                obtain⟨ta,tc,ht⟩:=hT.shape'
                                subst ht
                                obtain⟨ya,yc,hy⟩:=hY.shape'
                                subst hy
                                have hXg:=hfg.heap hXf
                                have hFg:=hFf.fr hfg
                                have hO1g:=hO1f.fr hfg
                                have hQg:=hQf.fr hfg
                                have hLg:=hLf.fr hfg
                                have hBg:=hBf.fr hfg
                                have hf0g:=hf0f.trans hfg
                                have hTg:=hT.rebase hzf
                                have hYg:=hY.rebase hzf
                                have hYsg:=hYs.rebase hzf
                                have x2:wg.cell? ⟨X,4,none⟩=some (.slice none 0 0):=by rw [cell_of_heap hXg];rfl
                                have x3:wg.cell? ⟨X,5,none⟩=some (.slice none 0 0):=by rw [cell_of_heap hXg];rfl
                                have y2:=frozen_of_heap hXg 4
                                have y3:=frozen_of_heap hXg 5
                                have hX1:=heap_setCell_own hXg 4 (.slice ta PR.1.length tc)
                                have x4:(wg.setCell ⟨X,4,none⟩ (.slice ta PR.1.length tc)).cell? ⟨X,5,none⟩=some (.slice none 0 0):=by rw [cell_of_heap hX1];rfl
                                have y4:=frozen_of_heap hX1 5
                                have hX2:=heap_setCell_own hX1 5 (.slice ya qs.length yc)
                                have hst:Chg (fun k=>k=X) wg ((wg.setCell ⟨X,4,none⟩ (.slice ta PR.1.length tc)).setCell ⟨X,5,none⟩ (.slice ya qs.length yc)):=(setCell_chg wg ⟨X,4,none⟩ (.slice ta PR.1.length tc)).trans (setCell_chg (wg.setCell ⟨X,4,none⟩ (.slice ta PR.1.length tc)) ⟨X,5,none⟩ (.slice ya qs.length yc)) fun _ _ h=>h
                                have hFh:=ow_g hFg hXg (by decide) hst
                                have hO1h:=ow_g hO1g hXg (by decide) hst
                                have hQh:=ow_g hQg hXg (by decide) hst
                                have hLh:=ow_g hLg hXg (by decide) hst
                                have hTh:=ow_g hTg hXg (by decide) hst
                                have hYh:=ow_g hYg hXg (by decide) hst
                                have hYsh:=owns_g hYsg hXg (by decide) hst
                                have hBh:=hBg.chg hst (fun k e=>by have e:k=X:=e;omega)
                                have hf0h:Fr w ((wg.setCell ⟨X,4,none⟩ (.slice ta PR.1.length tc)).setCell ⟨X,5,none⟩ (.slice ya qs.length yc)):=((hf0g.chg (fun k=>k=X)).trans hst fun _ _ h=>h).fr (fun k hk e=>by have e:k=X:=e;omega)
                                have HX2:=hid (And.intro hX2 True.intro)
                                clear HP2 hX1 hst hXf hFf hO1f hQf hLf hBf hf0f hzf hXg hFg hO1g hQg hLg hBg hf0g hTg hYg hYsg hT hY hYs hfg hX2 o2
                                go_upto_region 57 with fail
                                generalize (wg.setCell ⟨X,4,none⟩ (.slice ta PR.1.length tc)).setCell ⟨X,5,none⟩ (.slice ya qs.length yc)=wh at *
                                clear x2 x3 y2 y3 x4 y4
                                by_cases hp0:PR.2.2=0
                                · have HE6:Hid (ER=0):=by show _=_;rw [HE5.out];exact hp0
                                  rw [hp0]
                                  clear hp0 HE5
                                  obtain⟨RC,hRC⟩:∃ RC:Array Value,RC=#[.slice ca cs.length cc,.slice fa ps.length fc,.slice qa CR.1.length qc,.slice la CR.2.1.length lc,.slice ta PR.1.length tc,.slice ya qs.length yc]:=⟨_,rfl⟩
                                  have HXh:Hid (wh.heap[X]?=some (.cells RC 38 (0,0))/\True):=⟨by rw [hRC];exact HX2.out.1,trivial⟩
                                  have hXh:=HXh.out.1
                                  have hone4:RC.all (·.oneCell')=true:=by rw [hRC,List.all_toArray];rfl
                                  have hinf4:(Tryz.prog.info? 38).map (·.size)=some RC.size:=by rw [hRC];kernel_rfl
                                  have hszR:rbZ.size=RC.size:=by rw [hRC];rfl
                                  have hG:=setRow_heap wh (w.heap.size+1) rbZ RC 38 (0,0) hBh.h2
                                  have hst:=setRow_chg wh (w.heap.size+1) RC
                                  have hfe:Fr w (wh.setRow (w.heap.size+1) RC):=Chg.below hf0h hst hf0h.size (fun k hk=>by omega)
                                  have hwb:w.heap.size<=X+1:=by omega
                                  have hRB:RBod (wh.setRow (w.heap.size+1) RC) w.heap.size OB RC:=by
                                    rw [HOB.out]
                                    refine⟨_,_,_,_,_,_,hRC,ow_g (hO1h.rebase hwb) hBh.h2 (by decide) hst,ow_g (hQh.rebase hwb) hBh.h2 (by decide) hst,ow_g (hLh.rebase hwb) hBh.h2 (by decide) hst,ow_g (hTh.rebase hwb) hBh.h2 (by decide) hst,⟨qs,ow_g (hYh.rebase hwb) hBh.h2 (by decide) hst,owns_g (hYsh.rebase hwb) hBh.h2 (by decide) hst⟩,⟨ps,ow_g (hFh.rebase hwb) hBh.h2 (by decide) hst,?_,fun t h1 h2=>(HSee.out t h1 h2).fr hfe⟩⟩
                                    show ps.length=(cutsL zs rest).length
                                    rw [cutsL_len,HPl.out];exact HZl.out.symm
                                  have HRB:=hid hRB
                                  clear hRB hst hwb HX2 hRC hFh hO1h hQh hLh hTh hYh hYsh HSee HOB HXh
                                  go_wp2_with (first | (refine wpList_load_row rfl 38 (.tmp 12) rfl X rfl 38 RC (0,0) _ hXh Tryz.underlying38 rfl hinf4 ?_) | (refine wpList_store_row rfl 38 (.tmp 4) (.tmp 233) rfl (w.heap.size+1) RC rfl rfl 38 _ hBh.h2 hinf4 hszR hone4 ?_))
                                  go_wp2_with fail
                                  (try simp only [Exit.inBlock,Exit.then])
                                  refine bodyPost_ret (v:=.tuple #[.agg RC,.int .i64 0]) (results_cell_tmp1 Tryz.results17 _ _ (w.heap.size+1) 38 _ (0,0) _ _ rfl rfl hG Tryz.underlying38 rfl hinf4) rfl ?_
                                  rw [HE6.out]
                                  exact⟨_,rfl,fun _=>HRB.out,fun h=>absurd rfl h,hfe⟩
                                · have HE6:Hid (ER=PR.2.2):=HE5.out
                                  have i6:¬(PR.2.2:Int)=0:=by omega
                                  clear hp0 HE5
                                  have hG:=setRow_heap wh (w.heap.size+1) rbZ rbZ 38 (0,0) hBh.h2
                                  have hfe:Fr w (wh.setRow (w.heap.size+1) rbZ):=Chg.below hf0h (setRow_chg _ _ _) hf0h.size (fun k hk=>by omega)
                                  go_wp2_with (first | (refine wpList_load_row rfl 38 (.tmp 6) rfl (w.heap.size+2) rfl 38 rbZ (0,0) _ hBh.h3 Tryz.underlying38 rfl hinf ?_) | (refine wpList_store_row rfl 38 (.tmp 4) (.tmp 231) rfl (w.heap.size+1) rbZ rfl rfl 38 _ hBh.h2 hinf rfl hone ?_))
                                  go_wp2_with fail
                                  (try simp only [Exit.inBlock,Exit.then])
                                  refine bodyPost_ret (v:=.tuple #[.agg rbZ,.int .i64 (PR.2.2:Int)]) (results_cell_tmp1 Tryz.results17 _ _ (w.heap.size+1) 38 _ (0,0) _ _ rfl rfl hG Tryz.underlying38 rfl hinf) rfl ?_
                                  rw [HE6.out]
                                  exact⟨_,rfl,fun h=>absurd h (by omega),fun _=>rfl,hfe⟩
                              · rw [if_neg hx0]at HE5
                                have i6:¬(xE:Int)=0:=by omega
                                clear hx0
                                have hG:=setRow_heap wf (w.heap.size+1) rbZ rbZ 38 (0,0) hBf.h2
                                have hfe:Fr w (wf.setRow (w.heap.size+1) rbZ):=Chg.below hf0f (setRow_chg _ _ _) hf0f.size (fun k hk=>by omega)
                                go_wp2_with (first | (refine wpList_load_row rfl 38 (.tmp 6) rfl (w.heap.size+2) rfl 38 rbZ (0,0) _ hBf.h3 Tryz.underlying38 rfl hinf ?_) | (refine wpList_store_row rfl 38 (.tmp 4) (.tmp 218) rfl (w.heap.size+1) rbZ rfl rfl 38 _ hBf.h2 hinf rfl hone ?_))
                                go_wp2_with fail
                                (try simp only [Exit.inBlock,Exit.then])
                                refine bodyPost_ret (v:=.tuple #[.agg rbZ,.int .i64 (xE:Int)]) (results_cell_tmp1 Tryz.results17 _ _ (w.heap.size+1) 38 _ (0,0) _ _ rfl rfl hG Tryz.underlying38 rfl hinf) rfl ?_
                                rw [HE5.out]
                                exact⟨_,rfl,fun h=>absurd h (by omega),fun _=>rfl,hfe⟩
                          · rw [if_neg hr0]at HCo
                            have HE2:Hid (ER=CR.2.2.2):=by show _=_;rw [HE4.out,HCo.out,if_neg hr0]
                            have i6:¬(CR.2.2.2:Int)=0:=by omega
                            clear hr0
                            have hG:=setRow_heap wd (w.heap.size+1) rbZ rbZ 38 (0,0) hBc.h2
                            have hfe:Fr w (wd.setRow (w.heap.size+1) rbZ):=Chg.below hf0c (setRow_chg _ _ _) hf0c.size (fun k hk=>by omega)
                            go_wp2_with (first | (refine wpList_load_row rfl 38 (.tmp 6) rfl (w.heap.size+2) rfl 38 rbZ (0,0) _ hBc.h3 Tryz.underlying38 rfl hinf ?_) | (refine wpList_store_row rfl 38 (.tmp 4) (.tmp 195) rfl (w.heap.size+1) rbZ rfl rfl 38 _ hBc.h2 hinf rfl hone ?_))
                            go_wp2_with fail
                            (try simp only [Exit.inBlock,Exit.then])
                            refine bodyPost_ret (v:=.tuple #[.agg rbZ,.int .i64 (CR.2.2.2:Int)]) (results_cell_tmp1 Tryz.results17 _ _ (w.heap.size+1) 38 _ (0,0) _ _ rfl rfl hG Tryz.underlying38 rfl hinf) rfl ?_
                            rw [HE2.out]
                            exact⟨_,rfl,fun h=>absurd h (by omega),fun _=>rfl,hfe⟩
                        · rw [if_neg hc0]at HCo
                          have HE2:Hid (ER=cE):=by show _=_;rw [HE4.out,HCo.out,if_neg hc0]
                          have i6:¬(cE:Int)=0:=by omega
                          clear hc0
                          have hG:=setRow_heap wa (w.heap.size+1) rbZ rbZ 38 (0,0) hBa.h2
                          have hfe:Fr w (wa.setRow (w.heap.size+1) rbZ):=Chg.below hf0a (setRow_chg _ _ _) hf0a.size (fun k hk=>by omega)
                          go_wp2_with (first | (refine wpList_load_row rfl 38 (.tmp 6) rfl (w.heap.size+2) rfl 38 rbZ (0,0) _ hBa.h3 Tryz.underlying38 rfl hinf ?_) | (refine wpList_store_row rfl 38 (.tmp 4) (.tmp 181) rfl (w.heap.size+1) rbZ rfl rfl 38 _ hBa.h2 hinf rfl hone ?_))
                          go_wp2_with fail
                          (try simp only [Exit.inBlock,Exit.then])
                          refine bodyPost_ret (v:=.tuple #[.agg rbZ,.int .i64 (cE:Int)]) (results_cell_tmp1 Tryz.results17 _ _ (w.heap.size+1) 38 _ (0,0) _ _ rfl rfl hG Tryz.underlying38 rfl hinf) rfl ?_
                          rw [HE2.out]
                          exact⟨_,rfl,fun h=>absurd h (by omega),fun _=>rfl,hfe⟩
                  · have HE2:Hid (ER=2):=by
                      have hd:dE=2:=by rw [HDE3.out,if_pos (of_decide_eq_true HBad.out.symm)]
                      show _=_;rw [HE.out,hd,if_neg (by decide)]
                    have hG:=setRow_heap we (w.heap.size+1) rbZ rbZ 38 (0,0) hBe.h2
                    have hfe:Fr w (we.setRow (w.heap.size+1) rbZ):=Chg.below hfe0 (setRow_chg _ _ _) hfe0.size (fun k hk=>by omega)
                    go_wp2_with (first | (refine wpList_load_row rfl 38 (.tmp 6) rfl (w.heap.size+2) rfl 38 rbZ (0,0) _ hBe.h3 Tryz.underlying38 rfl hinf ?_) | (refine wpList_store_row rfl 38 (.tmp 4) (.tmp 143) rfl (w.heap.size+1) rbZ rfl rfl 38 _ hBe.h2 hinf rfl hone ?_))
                    go_wp2_with fail
                    (try simp only [Exit.inBlock,Exit.then])
                    refine bodyPost_ret (v:=.tuple #[.agg rbZ,.int .i64 2]) (results_cell_tmp1 Tryz.results17 _ _ (w.heap.size+1) 38 _ (0,0) _ _ rfl rfl hG Tryz.underlying38 rfl hinf) rfl ?_
                    rw [HE2.out]
                    exact⟨_,rfl,fun h=>absurd h (by omega),fun _=>rfl,hfe⟩
              · have i2:¬(s8.er:Int)=0:=by omega
                have HE2:Hid (ER=s8.er):=by
                  have hd:dE=s8.er:=by rw [HDE2.out,if_neg he]
                  show _=_;rw [HE.out,hd,if_neg he]
                clear he HDE2 hO1e hO2e hXe
                obtain⟨⟨y0,y1,y2,y3,y4,y5⟩,⟨z0,z1,z2,z3,z4',z5⟩,q0,q1,q2,q3,q4,q5⟩:=hBe.cells
                have KZ:=hid (zer6_ok hBe.h2 hfe0 (Nat.le_succ _))
                go_upto_region 35 with fail
                go_cut [5]from 121 to 125 (fun ev wx=>ev=.int .i64 (s8.er:Int)/\wx.heap[w.heap.size+1]?=some (.cells rbZ 38 (0,0))/\Fr w wx)
                case first=>
                  go_region
                  go_wp2_with fail
                  go_meet
                  exact⟨rfl,KZ.out _ rfl⟩
                case rest=>
                  clear y0 y1 y2 y3 y4 y5 z0 z1 z2 z3 z4' z5 q0 q1 q2 q3 q4 q5
                  obtain⟨rfl,hG,hfe⟩:=hcut
                  go_wp2_with fail
                  (try simp only [Exit.inBlock,Exit.then])
                  refine bodyPost_ret (v:=.tuple #[.agg rbZ,.int .i64 (s8.er:Int)]) (results_cell_tmp1 Tryz.results17 _ _ (w.heap.size+1) 38 _ (0,0) _ _ rfl rfl hG Tryz.underlying38 rfl hinf) rfl ?_
                  rw [HE2.out]
                  exact⟨_,rfl,fun h=>absurd h (by omega),fun _=>rfl,hfe⟩
        · have HE2:Hid (ER=fE):=by
            have hft:ftE b=fE:=HFt.out
            show _=_;rw [HE.out,hft,if_neg hfe0]
          have i5:¬(fE:Int)=0:=by omega
          clear HFt hO4
          have hG:=setRow_heap w4 (w.heap.size+1) rbZ rbZ 38 (0,0) hB4.h2
          have hfe:Fr w (w4.setRow (w.heap.size+1) rbZ):=Chg.below hf04 (setRow_chg _ _ _) hf04.size (fun k hk=>by omega)
          go_wp2_with (first | (refine wpList_load_row rfl 38 (.tmp 6) rfl (w.heap.size+2) rfl 38 rbZ (0,0) _ hB4.h3 Tryz.underlying38 rfl hinf ?_) | (refine wpList_store_row rfl 38 (.tmp 4) (.tmp 63) rfl (w.heap.size+1) rbZ rfl rfl 38 _ hB4.h2 hinf rfl hone ?_))
          go_wp2_with fail
          (try simp only [Exit.inBlock,Exit.then])
          refine bodyPost_ret (v:=.tuple #[.agg rbZ,.int .i64 (fE:Int)]) (results_cell_tmp1 Tryz.results17 _ _ (w.heap.size+1) 38 _ (0,0) _ _ rfl rfl hG Tryz.underlying38 rfl hinf) rfl ?_
          rw [HE2.out]
          exact⟨_,rfl,fun h=>absurd h (by omega),fun _=>rfl,hfe⟩
set_option maxRecDepth 512
end Go.Proofs.YtijghcbpfcjjnaaGreatDoor
