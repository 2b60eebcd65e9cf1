/- Parts of the proof of ThreeOpens: Mr3 R6. -/
import Derived.Test.YtijghcbpfcjjnaaGreatDoorM32
import Derived.Test.YtijghcbpfcjjnaaGreatDoorM31
import Derived.Deep.RegionHeldLaw
import Derived.Test.YtijghcbpfcjjnaaGreatDoorM30
import Derived.Test.YtijghcbpfcjjnaaGreatDoorM20
import Derived.Test.YtijghcbpfcjjnaaGreatDoorM15
set_option linter.unusedVariables false
set_option linter.unusedSectionVars false
set_option linter.unusedSimpArgs false
set_option maxHeartbeats 8000000
namespace Go.Proofs.YtijghcbpfcjjnaaGreatDoor
open Go.RowKit Go.Fk
def ldPick:Op:=.load 22 (.tmp 50)
attribute [local go_sem] ldPick
def rowL(M:List UInt8)(C a:Nat):List UInt8:=(M.take ((a+1)*C)).drop (a*C)
theorem rowL_len(M:List UInt8)(R C a:Nat)(hM:M.length=R*C)(ha:a<R):(rowL M C a).length=C:=by
 have h2:(a+1)*C<=R*C:=Nat.mul_le_mul_right C ha
 unfold rowL
 rw [List.length_drop,List.length_take]
 rw [Nat.add_mul]at h2 ⊢
 omega
theorem rowL_at(M:List UInt8)(C a j:Nat)(h:j<(rowL M C a).length)(h2:a*C+j<M.length):(rowL M C a)[j]=M[a*C+j]:=by
 simp only [rowL,List.getElem_drop,List.getElem_take]
set_option maxRecDepth 100000
theorem RPick_any (R C : Nat) (M : List UInt8) (ats : List Nat) (mv rv : Value) (w : World) (ho : See w eB mv M) (hM : M.length = R * C) (hr : See w eJ rv ats) (hat : ∀ r ∈ ats, r < R) (hC : 1 ≤ C) (hC2 : C ≤ 255) (hR1 : 1 ≤ R) (hR : R ≤ 255) (hal : ats.length ≤ 255) :
    Calls Tryz.prog 143 #[.agg #[N R,N C,mv],rv] w fun e w'=>∃ u,e=.returned (.tuple #[.agg #[N ats.length,N C,u],.int .i64 0])/\Ow w' w.heap.size eB u (pickL M C ats)/\Fr w w':=by
  obtain⟨ma,mcap,hmv,hm1,hm2,_⟩:=ho.shape
  rw [hM]at hmv
  subst hmv
  unfold maxLen at hm2
  obtain⟨ra,rcap,hrv,_,_,_⟩:=hr.shape
  subst hrv
  have HM:=hid (RMMay_any R C ma mcap hR hC2)
  have HPL:=hid (fun i=>pickL_len M R C hM (ats.take i) (fun r hr=>hat r (List.mem_of_mem_take hr)))
  have HRl:=hid (fun a ha=>rowL_len M R C a hM ha)
  have HRa:Hid (∀ a j (h:j<(rowL M C a).length) (h2:a*C+j<M.length),(rowL M C a)[j]=M[a*C+j]):=fun a j h h2=>rowL_at M C a j h h2
  have HStep:Hid (∀ i (h:i<ats.length),pickL M C (ats.take (i+1))=pickL M C (ats.take i)++rowL M C ats[i]):=pickL_step M C ats
  have HAll:Hid (pickL M C (ats.take ats.length)=pickL M C ats):=by show _=_;rw [List.take_of_length_le (Nat.le_refl _)]
  have HZ:Hid (pickL M C (ats.take 0)=[]):=rfl
  have Hat:Hid (∀ i (h:i<ats.length),ats[i]<R):=fun i h=>hat _ (List.getElem_mem h)
  have HMul:Hid (∀ a j,a<R->j<C->a*C+j<R*C):=fun a j ha hj=>by have:=Nat.mul_le_mul_right C (show a+1<=R by omega);rw [Nat.add_mul]at this;omega
  have HML:=hid hM
  have hmn2:R*C<=255*255:=Nat.mul_le_mul hR hC2
  clear hM hat
  generalize hmn:R*C=mn at *
  have hb0:((w.alloc (.cells #[N R,N C,.slice ma mn mcap] 175)).alloc (.cells #[.int .i64 0,.int .i64 0,.slice none 0 0] 175)).heap[w.heap.size]?=some (.cells #[N R,N C,.slice ma mn mcap] 175 (0,0)):=by
    rw [heap_old _ _ _ (by simp),heap_new _ _ _ rfl]
  have hb1:((w.alloc (.cells #[N R,N C,.slice ma mn mcap] 175)).alloc (.cells #[.int .i64 0,.int .i64 0,.slice none 0 0] 175)).heap[w.heap.size+1]?=some (.cells #[.int .i64 0,.int .i64 0,.slice none 0 0] 175 (0,0)):=heap_new _ _ _ (by simp)
  have hf0:Fr w ((w.alloc (.cells #[N R,N C,.slice ma mn mcap] 175)).alloc (.cells #[.int .i64 0,.int .i64 0,.slice none 0 0] 175)):=((Fr.refl w).alloc _).alloc _
  have hs0:((w.alloc (.cells #[N R,N C,.slice ma mn mcap] 175)).alloc (.cells #[.int .i64 0,.int .i64 0,.slice none 0 0] 175)).heap.size=w.heap.size+2:=by simp
  have hal':¬(255:Int)<ats.length:=by omega
  go_enter Tryz.func143, Tryz.ntmps143
  go_upto_region 1 with fail
  generalize (w.alloc (.cells #[N R,N C,.slice ma mn mcap] 175)).alloc (.cells #[.int .i64 0,.int .i64 0,.slice none 0 0] 175)=w0 at *
  generalize hg:w.heap.size=g at *
  have k0:w0.cell? ⟨g,0,none⟩=some (N R):=by rw [cell_of_heap hb0];rfl
  have k1:w0.cell? ⟨g,1,none⟩=some (N C):=by rw [cell_of_heap hb0];rfl
  have k2:w0.cell? ⟨g,2,none⟩=some (.slice ma mn mcap):=by rw [cell_of_heap hb0];rfl
  go_wp2_with fail
  refine(HM.out _).mono ?_
  rintro e w1 ⟨rfl,hf1⟩
  have k1':=hf1.cell k1
  have hb0:=hf1.heap hb0
  have hb1:=hf1.heap hb1
  have hf01:=hf0.trans hf1
  have hs1:g+2<=w1.heap.size:=by have:=hf1.size;omega
  clear k0 k1 k2 hf0 hf1 HM hs0
  have hA:(w1.alloc (.cells #[N ats.length,N C,.slice none 0 0] 175)).heap[w1.heap.size]?=some (.cells #[N ats.length,N C,.slice none 0 0] 175 (0,0)):=heap_new _ _ _ rfl
  have hfA:Fr w1 (w1.alloc (.cells #[N ats.length,N C,.slice none 0 0] 175)):=(Fr.refl w1).alloc _
  have hb0A:=hfA.heap hb0
  have hb1A:=hfA.heap hb1
  have hfwA:=hf01.trans hfA
  have hsA:g+2<=(w1.alloc (.cells #[N ats.length,N C,.slice none 0 0] 175)).heap.size:=by simp;omega
  go_upto_region 5 with fail
  clear hb0 hb1 k1' hf01 hfA
  generalize w1.alloc (.cells #[N ats.length,N C,.slice none 0 0] 175)=w2 at *
  generalize w1.heap.size=q at *
  go_loopw [7] (fun iv wr=>∃ (i:Nat) (sv:Value),i<=ats.length/\iv=N i/\wr.heap[g]?=some (.cells #[N R,N C,.slice ma mn mcap] 175 (0,0))/\wr.heap[g+1]?=some (.cells #[.int .i64 0,.int .i64 0,.slice none 0 0] 175 (0,0))/\wr.heap[q]?=some (.cells #[N ats.length,N C,sv] 175 (0,0))/\Ow wr (g+2) eB sv (pickL M C (ats.take i))/\Fr w wr/\g+2<=wr.heap.size) (fun iv _=>ats.length - (intOf iv).toNat)
  case atStart=>exact⟨0,_,Nat.zero_le _,rfl,hb0A,hb1A,hA,by rw [HZ.out];exact Ow.nil,hfwA,hsA⟩
  case round=>
    clear hb0A hb1A hA hfwA hsA
    obtain⟨i,sv,hi,rfl,hB0,hB1,hBq,hown,hf,hs⟩:=hrel
    by_cases hlt:i<ats.length
    · obtain⟨rb,roff,rc,hv1,e1⟩:=(hr.fr hf).cell1 (fun n=>N n) rfl i hlt
      simp only [Value.slice.injEq]at hv1
      obtain⟨rfl,hk9,rfl⟩:=hv1
      clear hk9
      have HStep2:=hid (HStep.out i hlt)
      have haR:=Hat.out i hlt
      have hPn:=HPL.out i
      have hE1:Hid (∀ W,Fr w W->W.cell? ⟨rb,roff+i,none⟩=some (N ats[i])):=fun W h=>by
        obtain⟨b',o',c',hv',e'⟩:=(hr.fr h).cell1 (fun n=>N n) rfl i hlt
        simp only [Value.slice.injEq,Option.some.injEq,Addr.mk.injEq,and_true]at hv'
        obtain⟨⟨rfl,rfl⟩,_,_⟩:=hv'
        exact e'
      have hPl:(pickL M C (ats.take i)).length+C<=255*255+255:=by
        rw [hPn,List.length_take]
        have:min i ats.length*C<=255*255:=Nat.mul_le_mul (by omega) hC2
        omega
      have HRl2:=hid (HRl.out ats[i] haR)
      have HRa2:=hid (HRa.out ats[i])
      have HMul2:=hid (fun j hj=>HMul.out ats[i] j haR hj)
      have haC:ats[i]*C<=255*255:=Nat.mul_le_mul (by omega) hC2
      generalize ats[i]=a at *
      have ha1:decide ((a:Int)<0)=false:=decide_eq_false (by omega)
      have ha2:decide ((R:Int)<=a)=false:=decide_eq_false (by omega)
      have c0:wr.cell? ⟨g,0,none⟩=some (N R):=by rw [cell_of_heap hB0];rfl
      have i1:(0:Int)<=i:=by omega
      have i2:(i:Int)<ats.length:=by omega
      have hw1:=wrap_nmul a C 255 255 (by omega) hC2 (by omega)
      generalize rowL M C a=row at *
      generalize a*C=aC at *
      obtain⟨P2,hP2⟩:∃ q,q=pickL M C (ats.take (i+1)):=⟨_,rfl⟩
      rw [<- hP2]at HStep2
      have HP2:=hid hP2
      clear hP2 hPn HPL HStep Hat HMul HRa HRl
      generalize pickL M C (ats.take i)=P1 at *
      go_wp2_with fail
      go_quiet (fail)
      go_wp2_with fail
      have hB0D:=((Fr.refl wr).drewN nq).heap hB0
      have hB1D:=((Fr.refl wr).drewN nq).heap hB1
      have hBqD:=((Fr.refl wr).drewN nq).heap hBq
      have hownD:=hown.fr ((Fr.refl wr).drewN nq)
      have hfD:=hf.drewN nq
      have hsD:g+2<=(wr.drewN nq).heap.size:=Nat.le_trans hs ((Fr.refl wr).drewN nq).size
      clear hB0 hB1 hBq hown hf hs e1 c0
      generalize wr.drewN nq=wz at *
      have ha3:decide (R<=a)=false:=decide_eq_false (by omega)
      rw [ha3]
      go_loopw [8] (fun jv wr=>∃ (j:Nat) (sv:Value),j<=C/\jv=N j/\wr.heap[g]?=some (.cells #[N R,N C,.slice ma mn mcap] 175 (0,0))/\wr.heap[g+1]?=some (.cells #[.int .i64 0,.int .i64 0,.slice none 0 0] 175 (0,0))/\wr.heap[q]?=some (.cells #[N ats.length,N C,sv] 175 (0,0))/\Ow wr (g+2) eB sv (P1++row.take j)/\Fr w wr/\g+2<=wr.heap.size) (fun jv _=>C - (intOf jv).toNat)
      case atStart=>exact⟨0,sv,Nat.zero_le _,rfl,hB0D,hB1D,hBqD,by simpa using hownD,hfD,hsD⟩
      case round=>
        clear hB0D hB1D hBqD hownD hfD hsD
        obtain⟨j,sv,hj,rfl,hB0,hB1,hBq,hown,hf,hs⟩:=hrel
        have c1:wr.cell? ⟨g,1,none⟩=some (N C):=by rw [cell_of_heap hB0];rfl
        by_cases hjl:j<C
        · have hj':(j:Int)<C:=by omega
          have hml:=HMul2.out j hjl
          have hjr:j<row.length:=by rw [HRl2.out];exact hjl
          have hmM:aC+j<M.length:=by rw [HML.out];exact hml
          have HRj:=hid (HRa2.out j hjr hmM)
          have hE:=hE1.out wr hf
          obtain⟨mb,moff,mc,hmv,em⟩:=(ho.fr hf).cell1 (fun c=>Fk.u8 c) rfl (aC+j) hmM
          simp only [Value.slice.injEq]at hmv
          obtain⟨rfl,hk9,rfl⟩:=hmv
          clear hk9
          have HTk:Hid (P1++row.take (j+1)=(P1++row.take j)++[M[aC+j]]):=by
            show _=_
            rw [List.take_add_one,List.getElem?_eq_getElem hjr,<- List.append_assoc,HRj.out];rfl
          have HLn:Hid ((P1++row.take j).length+1<=2147483648):=by show _<=_;rw [List.length_append,List.length_take];omega
          have hw2:IntKind.i64.wrap ((aC:Int)+j)=((aC+j:Nat):Int):=by rw [show(aC:Int)+j=((aC+j:Nat):Int) by omega];exact wrap_i64 _ (by omega)
          have i3:(0:Int)<=((aC+j:Nat):Int):=by omega
          have i4:((aC+j:Nat):Int)<mn:=by omega
          have i5:(((aC+j:Nat):Int)).toNat=aC+j:=by omega
          have c2:wr.cell? ⟨g,2,none⟩=some (.slice (some ⟨mb,moff,none⟩) mn mcap):=by rw [cell_of_heap hB0];rfl
          have d2:wr.cell? ⟨q,2,none⟩=some sv:=by rw [cell_of_heap hBq];rfl
          have hneq:∀ q,sv.ownBlock=some q->g+2<=q:=fun q hq=>(hown.lt q hq).1
          have hne:=hown.ne_cells hBq (by decide)
          have HEM0:Hid (∀ W,Fr w W->W.cell? ⟨mb,moff+(aC+j),none⟩=some (Fk.u8 M[aC+j])):=fun W h=>by
            obtain⟨b',o',c',hv',e'⟩:=(ho.fr h).cell1 (fun c=>Fk.u8 c) rfl (aC+j) hmM
            simp only [Value.slice.injEq,Option.some.injEq,Addr.mk.injEq,and_true]at hv'
            obtain⟨⟨rfl,rfl⟩,_,_⟩:=hv'
            exact e'
          generalize M[aC+j]=x at *
          generalize hacj:aC+j=acj at *
          obtain⟨P3,hP3⟩:∃ q,q=P1++row.take (j+1):=⟨_,rfl⟩
          rw [<- hP3]at HTk
          have HP3:=hid hP3
          clear hP3 hacj hml hjr hmM HRj
          generalize P1++row.take j=P0 at *
          have hownD:=hown.drew
          have HEM:Hid (∀ W,Fr w W->W.cell? ⟨mb,moff+acj,none⟩=some (.int .u8 (x.toNat:Int))):=HEM0.out
          have em2:wr.cell? ⟨mb,moff+acj,none⟩=some (.int .u8 (x.toNat:Int)):=em
          have d2a:(wr.alloc (.cells #[.int .u8 (x.toNat:Int)] 5)).cell? ⟨q,2,none⟩=some sv:=((Fr.refl wr).alloc _).cell d2
          clear em
          go_upto_region 12 with fail
          have hqlt:w.heap.size<=q:=by rw [hg];omega
          have keepF:∀ W,Fr w W->W.heap[g]?=some (.cells #[N R,N C,.slice (some ⟨mb,moff,none⟩) mn mcap] 175 (0,0))->W.cell? ⟨g,1,none⟩=some (N C)/\W.cell? ⟨g,2,none⟩=some (.slice (some ⟨mb,moff,none⟩) mn mcap)/\W.cell? ⟨rb,roff+i,none⟩=some (N a)/\W.cell? ⟨mb,moff+acj,none⟩=some (.int .u8 (x.toNat:Int)):=fun W hW hB=>⟨by rw [cell_of_heap hB];rfl,by rw [cell_of_heap hB];rfl,hE1.out W hW,HEM.out W hW⟩
          have hk0:=keepF wr.drew (Fr.drew hf) hB0
          have hfal:Fr wr (wr.alloc (.cells #[.int .u8 (x.toNat:Int)] 5)):=(Fr.refl wr).alloc _
          have hk1:=keepF _ (hf.trans hfal) (hfal.heap hB0)
          rw [show Op.load 22 (.tmp 50)=ldPick from rfl]
          go_region_held_law (fun W => W.cell? ⟨g, 1, none⟩ = some (N C) ∧ W.cell? ⟨g, 2, none⟩ = some (.slice (some ⟨mb, moff, none⟩) mn mcap) ∧ W.cell? ⟨rb, roff + i, none⟩ = some (N a) ∧ W.cell? ⟨mb, moff + acj, none⟩ = some (.int .u8 (x.toNat : Int)))
            (first | exact hk0 | exact hk1 | exact hk4 | exact hk5 _ | go_keep)
            (((first | refine step_app1 eB rfl (.tmp 51) (.tmp 65) 22 rfl Tryz.underlying22 (g + 2) rfl hownD [x] _ _ _ rfl rfl rfl HLn.out hs ?_ | refine step_app1d eB rfl (.tmp 51) (.tmp 65) 22 rfl Tryz.underlying22 (g + 2) rfl hown [x] _ _ _ rfl rfl rfl HLn.out hs ?_)
              intro v' w4 hap
              have own4 := hap.own
              rw [← HTk.out] at own4
              obtain ⟨va, vc, hv'⟩ := own4.shape'
              subst hv'
              have m0 := hap.chg'.heap (show wr.drew.heap[g]? = _ from hB0) (fun e => by have := hneq g e; omega)
              have m1 := hap.chg'.heap (show wr.drew.heap[g + 1]? = _ from hB1) (fun e => by have := hneq (g + 1) e; omega)
              have mq := hap.chg'.heap (show wr.drew.heap[q]? = _ from hBq) hne
              have hf4 : Fr w w4 := by first | exact hap.below hownD (Fr.drew hf) (by rw [hg]; omega) (Fr.drew hf).size | exact hap.below hown hf (by rw [hg]; omega) hf.size
              have hs4 : g + 2 ≤ w4.heap.size := Nat.le_trans hs hap.size
              have e3 : w4.cell? ⟨q, 2, none⟩ = some sv := by rw [cell_of_heap mq]; rfl
              have e4 : w4.frozen? ⟨q, 2, none⟩ = false := frozen_of_heap mq 2
              have hk4 := keepF w4 hf4 m0
              have hk5 := fun (u : Value) => keepF (w4.setCell ⟨q, 2, none⟩ u) (Chg.below hf4 (setCell_chg w4 ⟨q, 2, none⟩ u) hf4.size (fun k e => by have e : k = q := e; omega)) ((setCell_chg w4 ⟨q, 2, none⟩ u).heap m0 (fun e => by have e : g = q := e; omega))))
          all_goals go_wp2_with fail
          all_goals go_roundw
          all_goals first
            | (simp [intOf];omega)
            | (exact ⟨j + 1, _, by omega, by go_num, (setCell_chg w4 ⟨q, 2, none⟩ _).heap m0 (fun e => by have e : g = q := e; omega), (setCell_chg w4 ⟨q, 2, none⟩ _).heap m1 (fun e => by have e : g + 1 = q := e; omega), heap_setCell_own mq 2 _, by
                 rw [← HP3.out]
                 exact own4.chg (setCell_chg w4 ⟨q, 2, none⟩ _) fun k hk e => (own4.ne_cells mq (by decide)) (by rw [hk, show k = q from e]), Chg.below hf4 (setCell_chg w4 ⟨q, 2, none⟩ _) hf4.size (fun i e => by have e : i = q := e; omega), by simp [World.setCell]; omega⟩)
        · have hjc:j=C:=by omega
          rw [hjc]at hown ⊢
          rw [List.take_of_length_le (by rw [HRl2.out];exact Nat.le_refl _),<- HStep2.out]at hown
          have hnl:¬((C:Int)<C):=by omega
          clear hjc
          go_wp2_with fail
          go_roundw
          case rel=>exact⟨i+1,sv,by omega,by go_num,hB0,hB1,hBq,by rw [<- HP2.out];exact hown,hf,hs⟩
          case measure=>simp [intOf];omega
    · obtain rfl:ats.length=i:=by omega
      rw [HAll.out]at hown
      have hnl:¬((ats.length:Int)<ats.length):=by omega
      have hinf:(Tryz.prog.info? 175).map (·.size)=some 3:=by kernel_rfl
      have hone:(#[N ats.length,N C,sv]:Array Value).all (·.oneCell')=true:=by
        obtain⟨va,vc,hv⟩:=hown.shape'
        subst hv
        rw [List.all_toArray]
        rfl
      have hneq:∀ q,sv.ownBlock=some q->g+2<=q:=fun q hq=>(hown.lt q hq).1
      have hset:Ow (wr.setRow (g+1) #[N ats.length,N C,sv]) (g+2) eB sv (pickL M C ats):=hown.chg (setRow_chg wr (g+1) _) fun q hq=>by have:=hneq q hq;show ¬q=g+1;omega
      have hfin:Fr w (wr.setRow (g+1) #[N ats.length,N C,sv]):=Chg.below hf (setRow_chg wr (g+1) _) hf.size (fun q hq=>by rw [hq];omega)
      have z0:=cell_setRow_same wr (g+1) 0 _ #[N ats.length,N C,sv] _ _ hB1
      have z1:=cell_setRow_same wr (g+1) 1 _ #[N ats.length,N C,sv] _ _ hB1
      have z2:=cell_setRow_same wr (g+1) 2 _ #[N ats.length,N C,sv] _ _ hB1
      clear HStep HAll HZ Hat HPL hB0 hown HRl HRa HMul
      go_wp2_with (first | (refine wpList_load_row rfl 175 (.tmp 6) rfl q rfl 175 #[N ats.length,N C,sv] (0,0) _ hBq Tryz.underlying175 rfl hinf ?_) | (refine wpList_store_row rfl 175 (.tmp 4) (.tmp 68) rfl (g+1) #[N ats.length,N C,sv] rfl rfl 175 _ hB1 hinf rfl hone ?_))
      exact bodyPost_ret (v:=.tuple #[.agg #[N ats.length,N C,sv],.int .i64 0]) (by simp [results,Tryz.results143,go_sem, *]) rfl ⟨_,rfl,hset.rebase (by omega),hfin⟩
set_option maxRecDepth 512
set_option maxRecDepth 100000
theorem RMend_ok (k m c : Nat) (pv gv : Value) (hs : List Hd) (ps : List (List UInt8)) (good : List Bool) (w : World) (hk : 1 ≤ k) (hkm : k + m ≤ 255) (hc6 : c ≤ 4096) (hp : Sees2 w eHB eB pv hs ps) (hg : See w eO gv good) (hpl : hs.length = k + m) (hgl : good.length = k + m)
    (hc:∀ r (h:r<ps.length),good.getD r false=true->ps[r].length=c) (hyes:k<=(goodsL good).length) :
    Calls Tryz.prog 91 #[N k,N m,pv,gv] w fun e w'=>∃ v,e=.returned (.tuple #[v,.int .i64 0])/\∃ xs,Ow w' w.heap.size eHB v xs/\Owns w' w.heap.size eB xs (nowL k m c ((goodsL good).take k) (atL ((goodsL good).take k) ps))/\Fr w w':=by
  have hps:=hp.2.1
  have hGl:=goods_len good
  have htk:(goodsL good).take (k+m)=goodsL good:=List.take_of_length_le (by omega)
  have HM:=hid (RMay_any k m hk hkm)
  have HL:=hid (headsAt_len (goodsL good) hs)
  have hGp:1<=(headsAt (goodsL good) hs).length:=by rw [headsAt_len];omega
  have HA:=hid (fun W lv (hl:See W eHB lv (headsAt (goodsL good) hs)) (hf:Fr w W)=>RAlike_any lv (headsAt (goodsL good) hs) c W hGp hl (alike_of (sees_at hp hl hf (fun r hr=>by have:=(goods_mem good r hr).1;omega)) (atL_all good ps c _ (fun r h=>h) hc (by omega))))
  have hRise:=goods_rise good k
  rw [hgl]at hRise
  have hatl:((goodsL good).take k).length=k:=by rw [List.length_take];omega
  have hHtk:(headsAt (goodsL good) hs).take k=headsAt ((goodsL good).take k) hs:=by unfold headsAt;rw [List.map_take]
  have HSA:=hid (fun W lv (hl:See W eHB lv (headsAt ((goodsL good).take k) hs)) (hf:Fr w W)=>sees_at hp hl hf (fun r hr=>by have:=(goods_mem good r (List.mem_of_mem_take hr)).1;omega))
  have hall:=atL_all good ps c ((goodsL good).take k) (fun r h=>List.mem_of_mem_take h) hc (by omega)
  have hallen:(atL ((goodsL good).take k) ps).length=k:=by rw [atL_len,hatl]
  obtain⟨pa,pcap,hpv,_,_,_⟩:=hp.1.shape
  obtain⟨ga,gcap,hgv,_,_,_⟩:=hg.shape
  obtain⟨n,hn⟩:∃ n,n=k+m:=⟨_,rfl⟩
  have HEnd:Hid (goodsTo good n n=goodsL good):=by show _=_;rw [show goodsTo good n n=(goodsL good).take (k+m)from by rw [hn,<- hgl];rfl];exact htk
  have HZ:Hid (goodsTo good n 0=[]):=by show _=_;simp [goodsTo]
  have HZ2:Hid (headsAt [] hs=[]):=rfl
  have HY:=hid (goodsTo_yes good n)
  have HNo:=hid (goodsTo_no good n)
  have HSn:=hid (fun ats i h=>headsAt_snoc ats hs i h)
  have HLe:=hid (goodsTo_le good n)
  have HLenH:=hid (fun A=>headsAt_len A hs)
  rw [hpl,<- hn]at hpv
  rw [hgl,<- hn]at hgv
  subst hpv hgv
  have hpn:hs.length=n:=by rw [hpl,hn]
  have hgn:good.length=n:=by rw [hgl,hn]
  have HPn:=hid hpn
  have HGn:=hid hgn
  have hle:k<=(goodsL good).length:=hyes
  have hw:IntKind.i64.wrap ((k:Int)+m)=(n:Int):=by rw [show(k:Int)+m=(n:Int) by omega];exact wrap_i64 _ (by omega)
  have hp1:=hp.1
  have hnl:¬((goodsL good).length:Int)<k:=by omega
  have hGn2:(goodsL good).length<=255:=by omega
  have hDall:=data_all k m c ((goodsL good).take k) (atL ((goodsL good).take k) ps) hallen hall
  have hDlen:=data_len k m c ((goodsL good).take k) (atL ((goodsL good).take k) ps)
  have HI:=hid (RIdentity_any k hk (by omega))
  have HC:=hid (RCauchy_any k m hk hkm)
  have hl1:Hid ((idL k).length=k*k):=preL_len _ _ _
  have hl2:Hid ((cauPre k m 0).length=m*k):=by show _=_;rw [cauPre_len];omega
  have HWh:=hid (whole_app k m hk hkm)
  have HStk:=hid (fun b c1 c2 a1 a2 W hb h1 h2=>RStack_any k m b c1 c2 a1 a2 (idL k) (cauPre k m 0) W hb h1 h2 hl1.out hl2.out hk hkm)
  rw [HWh.out,<- hn]at HStk
  have HPk:=hid (fun W mv rv (ho:See W eB mv (wholeL k m)) (hr:See W eJ rv ((goodsL good).take k))=>RPick_any (k+m) k (wholeL k m) ((goodsL good).take k) mv rv W ho (preL_len _ _ _) hr hRise.2 hk (by omega) (by omega) hkm (by omega))
  have hpkl:(pickL (wholeL k m) k ((goodsL good).take k)).length=k*k:=by rw [pickL_len (wholeL k m) (k+m) k (preL_len _ _ _) _ hRise.2,hatl]
  have HInv:=hid (fun W v (hs:See W eB v (pickL (wholeL k m) k ((goodsL good).take k)))=>RInverse_any k _ v W hs hpkl hk (by omega) (pick_goes k m hkm _ hatl hRise))
  have HT:=hid (fun W mv dv hs (hM:See W eB mv (invL (pickL (wholeL k m) k ((goodsL good).take k)) k)) (hd:Sees2 W eHB eB dv hs (atL ((goodsL good).take k) ps))=>Rtimes_any _ k mv dv hs _ c W hM hd (by omega) (by omega) (by omega) (by rw [hallen];exact preL_len _ _ _) hall (by omega))
  have hDd:timesL (invL (pickL (wholeL k m) k ((goodsL good).take k)) k) (atL ((goodsL good).take k) ps).length k (atL ((goodsL good).take k) ps) c=dataL k m c ((goodsL good).take k) (atL ((goodsL good).take k) ps):=by unfold dataL;rw [hallen]
  rw [hDd]at HT
  rw [hallen]at HT
  rw [hatl]at HPk
  rw [<- hn]at HPk
  have HPar:=hid (fun W dv hs (hd:Sees2 W eHB eB dv hs (dataL k m c ((goodsL good).take k) (atL ((goodsL good).take k) ps)))=>RParity_any m dv hs _ c W hd (by omega) (by omega) hDall (by omega))
  have HNow:Hid (nowL k m c ((goodsL good).take k) (atL ((goodsL good).take k) ps)=dataL k m c ((goodsL good).take k) (atL ((goodsL good).take k) ps)++parL m (dataL k m c ((goodsL good).take k) (atL ((goodsL good).take k) ps)) c):=rfl
  have HPRl:=hid (parL_len m (dataL k m c ((goodsL good).take k) (atL ((goodsL good).take k) ps)) c)
  have HHtk:=hid hHtk
  have HAl:=hid hatl
  have HDl:=hid hallen
  have HDl2:=hid hDlen
  clear hDd hpkl hRise hall hallen hatl hps hGl htk hpl hgl hc hp hpn hgn hGp hHtk hDlen HWh hDall
  generalize nowL k m c ((goodsL good).take k) (atL ((goodsL good).take k) ps)=Now at *
  generalize dataL k m c ((goodsL good).take k) (atL ((goodsL good).take k) ps)=D at *
  generalize invL (pickL (wholeL k m) k ((goodsL good).take k)) k=IV at *
  generalize pickL (wholeL k m) k ((goodsL good).take k)=PK at *
  generalize wholeL k m=WL at *
  generalize idL k=l1 at *
  generalize cauPre k m 0=l2 at *
  generalize parL m D c=PR at *
  generalize atL ((goodsL good).take k) ps=ds at *
  have hnb:n<=255:=by omega
  clear hn
  go_enter Tryz.func91, Tryz.ntmps91
  go_wp2_with fail
  refine(HM.out _).mono ?_
  rintro e w1 ⟨rfl,rfl⟩
  go_upto_region 6 with fail
  go_loopw [10,11,12] (fun lv av iv wr=>∃ (i:Nat) (A:List Nat),i<=n/\iv=N i/\Hid (A=goodsTo good n i)/\Ow wr w.heap.size eJ av A/\Ow wr w.heap.size eHB lv (headsAt A hs)/\Fr w wr) (fun _ _ iv _=>n - (intOf iv).toNat)
  case atStart=>exact⟨0,[],Nat.zero_le _,rfl,HZ.out.symm,Ow.nil,by rw [HZ2.out];exact Ow.nil,Fr.refl w⟩
  case round=>
    obtain⟨i,A,hi,rfl,HAe,hoa,hol,hf⟩:=hrel
    by_cases hlt:i<n
    · have hltg:i<good.length:=by rw [HGn.out];exact hlt
      have hlth:i<hs.length:=by rw [HPn.out];exact hlt
      obtain⟨b1,off1,cp1,hv1,e1⟩:=(hp1.fr hf).cell1 (fun(h:Hd)=>h.v) rfl i hlth
      obtain⟨b2,off2,cp2,hv2,e2⟩:=(hg.fr hf).cell1 (fun b=>Value.bool b) rfl i hltg
      have HSi:=hid (HSn.out A i hlth)
      have HYi:=hid (HY.out i hltg)
      have HNi:=hid (HNo.out i hltg)
      have hAl:A.length<=i:=by rw [HAe.out];exact HLe.out i
      simp only [Value.slice.injEq]at hv1 hv2
      obtain⟨rfl,hq1,rfl⟩:=hv1
      obtain⟨rfl,hq2,rfl⟩:=hv2
      clear hq1 hq2
      generalize hs[i]=h at *
      obtain⟨gi,hgi⟩:∃ q,q=good[i]:=⟨_,rfl⟩
      rw [<- hgi]at HYi HNi e2
      clear hgi
      obtain⟨aa,ac,hav⟩:=hoa.shape'
      subst hav
      obtain⟨la,lc,hlv⟩:=hol.shape'
      rw [HLenH.out]at hlv
      subst hlv
      have i1:(0:Int)<=i:=by omega
      have i2:(i:Int)<n:=by omega
      cases gi with
      | true=>
        have hn9:=HYi.out rfl (by rw [<- HAe.out];omega)
        rw [<- HAe.out]at hn9
        obtain⟨A2,hA2⟩:∃ q,q=A++[i]:=⟨_,rfl⟩
        rw [<- hA2]at hn9 HSi
        have HN9:=hid hn9
        have HA2:=hid hA2
        clear hn9 HYi HNi hA2
        go_wp2_with (at_builtin;refine wpList_app1 eHB rfl (.tmp 56) (.tmp 61) 31 rfl Tryz.underlying31 w.heap.size rfl hol [h] _ _ _ rfl rfl rfl ?c1 hf.size ?_)
        case c1=>rw [HLenH.out];simp;omega
        intro v5 w5 hap
        have own5:=hap.own
        have hoa5:=own_app hoa hol hap (by decide)
        have hf5:Fr w w5:=hap.below hol hf (Nat.le_refl _) hf.size
        rw [<- HSi.out]at own5
        obtain⟨va5,vc5,hv5⟩:=own5.shape'
        rw [HLenH.out]at hv5
        subst hv5
        clear hap hol hoa
        go_wp2_with (at_builtin;refine wpList_app1 eJ rfl (.tmp 63) (.tmp 65) 30 rfl Tryz.underlying30 w.heap.size rfl hoa5 [i] _ _ _ rfl rfl rfl ?c1 hf5.size ?_)
        case c1=>simp;omega
        intro v' w4 hap
        have own4:=hap.own
        rw [<- HA2.out]at own4
        have hol4:=own_app own5 hoa5 hap (by decide)
        have hf4:Fr w w4:=hap.below hoa5 hf5 (Nat.le_refl _) hf5.size
        clear hap hoa5 own5
        go_wp2_with fail
        go_roundw
        case rel=>exact⟨i+1,_,by omega,by go_num,HN9.out.symm,own4,hol4,hf4⟩
        case measure=>simp [intOf];omega
      | false=>
        have hn9:=HNi.out (.inl rfl)
        rw [<- HAe.out]at hn9
        have HN9:=hid hn9
        clear hn9 HYi HNi
        go_wp2_with fail
        go_roundw
        case rel=>exact⟨i+1,_,by omega,by go_num,HN9.out.symm,hoa,hol,hf⟩
        case measure=>simp [intOf];omega
    · obtain rfl:n=i:=by omega
      rw [HEnd.out]at HAe
      have hAe:=HAe.out
      subst hAe
      have hnl2:¬((n:Int)<n):=by omega
      obtain⟨aa,ac,hav⟩:=hoa.shape'
      obtain⟨la,lc,hlv⟩:=hol.shape'
      rw [HLenH.out]at hlv
      subst hav hlv
      have HA2:=hid (HA.out wr _ hol.see hf)
      generalize headsAt (goodsL good) hs=HDs at *
      generalize hG:goodsL good=G at *
      clear hG hi HSn HY HNo HEnd HZ HZ2 hp1 hg hyes
      obtain⟨ftr,fts⟩:=run_to eJ 30 Tryz.underlying30 hoa.see k hle
      obtain⟨hHl⟩:Nonempty (HDs.length=G.length):=⟨HL.out⟩
      obtain⟨gtr,gts⟩:=run_to eHB 31 Tryz.underlying31 hol.see k (by omega)
      rw [HHtk.out]at gts
      have HgS:=hid (fun W (h:Fr w W) (h2:Fr wr W)=>HSA.out W _ (gts.fr h2) h)
      have HfS:=hid fts
      clear hHl gts fts HSA hoa hol
      go_wp2_with fail
      refine(HA2.out).mono ?_
      rintro e w2 ⟨rfl,hf2⟩
      have hfw2:=hf.trans hf2
      clear HA2
      go_wp2_with fail
      refine(HI.out _).mono ?_
      rintro e w3 ⟨v1,rfl,hO1,hf3⟩
      obtain⟨a1,c1,hv1⟩:=hO1.shape'
      rw [hl1.out]at hv1
      subst hv1
      unfold idV
      have hA:(w3.alloc (.cells #[N k,N k,.slice a1 (k*k) c1] 175)).heap[w3.heap.size]?=some (.cells #[N k,N k,.slice a1 (k*k) c1] 175 (0,0)):=heap_new _ _ _ rfl
      have hfA:Fr w3 (w3.alloc (.cells #[N k,N k,.slice a1 (k*k) c1] 175)):=(Fr.refl w3).alloc _
      go_upto_region 16 with fail
      generalize w3.alloc (.cells #[N k,N k,.slice a1 (k*k) c1] 175)=w4 at *
      generalize w3.heap.size=q1 at *
      go_wp2_with fail
      refine(HC.out _).mono ?_
      rintro e w5 ⟨v3,rfl,hO3,hf5⟩
      obtain⟨a3,c3,hv3⟩:=hO3.shape'
      rw [hl2.out]at hv3
      subst hv3
      unfold cauV
      have hA5:=hf5.heap hA
      have hO15:=hO1.fr (hfA.trans hf5)
      have hB:(w5.alloc (.cells #[N m,N k,.slice a3 (m*k) c3] 175)).heap[w5.heap.size]?=some (.cells #[N m,N k,.slice a3 (m*k) c3] 175 (0,0)):=heap_new _ _ _ rfl
      have hfB:Fr w5 (w5.alloc (.cells #[N m,N k,.slice a3 (m*k) c3] 175)):=(Fr.refl w5).alloc _
      have hf25:Fr wr w5:=((hf2.trans hf3).trans hfA).trans hf5
      go_upto_region 17 with fail
      generalize w5.alloc (.cells #[N m,N k,.slice a3 (m*k) c3] 175)=w6 at *
      generalize w5.heap.size=q3 at *
      have e0:w6.cell? ⟨q1,0,none⟩=some (N k):=by rw [cell_of_heap (hfB.heap hA5)];rfl
      have e1:w6.cell? ⟨q1,1,none⟩=some (N k):=by rw [cell_of_heap (hfB.heap hA5)];rfl
      have e2:w6.cell? ⟨q1,2,none⟩=some (.slice a1 (k*k) c1):=by rw [cell_of_heap (hfB.heap hA5)];rfl
      have f0:w6.cell? ⟨q3,0,none⟩=some (N m):=by rw [cell_of_heap hB];rfl
      have f1:w6.cell? ⟨q3,1,none⟩=some (N k):=by rw [cell_of_heap hB];rfl
      have f2:w6.cell? ⟨q3,2,none⟩=some (.slice a3 (m*k) c3):=by rw [cell_of_heap hB];rfl
      have hf67:Fr w6 (w6.alloc (.cells #[N k,N k,.slice a1 (k*k) c1,N m,N k,.slice a3 (m*k) c3] 175)):=(Fr.refl w6).alloc _
      have HS4:=hid (HStk.out w6.heap.size c1 c3 a1 a3 _ (heap_new w6 (.cells #[N k,N k,.slice a1 (k*k) c1,N m,N k,.slice a3 (m*k) c3] 175) _ rfl) ((hO15.fr hfB).fr hf67).see ((hO3.fr hfB).fr hf67).see)
      have hf27:=(hf25.trans hfB).trans hf67
      clear hO1 hO3 hO15 hA hA5 hB hf3 hfA hf5 hfB hf25 HI HC HStk
      go_wp2_with fail
      refine HS4.out.mono ?_
      rintro e w8 ⟨u,rfl,hO8,hf8⟩
      have hf28:=hf27.trans hf8
      clear HS4 hf27 hf8 e0 e1 e2 f0 f1 f2 hf67
      obtain⟨a8,c8,hv8⟩:=hO8.shape'
      subst hv8
      have hC:(w8.alloc (.cells #[N n,N k,.slice a8 WL.length c8] 175)).heap[w8.heap.size]?=some (.cells #[N n,N k,.slice a8 WL.length c8] 175 (0,0)):=heap_new _ _ _ rfl
      have hfC:Fr w8 (w8.alloc (.cells #[N n,N k,.slice a8 WL.length c8] 175)):=(Fr.refl w8).alloc _
      go_upto_region 18 with fail
      have hO9:=hO8.fr hfC
      have hf29:=hf28.trans hfC
      generalize w8.alloc (.cells #[N n,N k,.slice a8 WL.length c8] 175)=w9 at *
      generalize w8.heap.size=q8 at *
      have g0:w9.cell? ⟨q8,0,none⟩=some (N n):=by rw [cell_of_heap hC];rfl
      have g1:w9.cell? ⟨q8,1,none⟩=some (N k):=by rw [cell_of_heap hC];rfl
      have g2:w9.cell? ⟨q8,2,none⟩=some (.slice a8 WL.length c8):=by rw [cell_of_heap hC];rfl
      have HPkF:=hid (fun W (h:Fr w9 W)=>HPk.out W _ _ (hO9.fr h).see (HfS.out.fr (hf29.trans h)))
      have hfz:Fr w9 (w9.alloc (.cells #[.int .i64 0,.int .i64 0,.slice none 0 0] 175)):=(Fr.refl w9).alloc _
      have z0:(w9.alloc (.cells #[.int .i64 0,.int .i64 0,.slice none 0 0] 175)).heap[w9.heap.size]?=some (.cells #[.int .i64 0,.int .i64 0,.slice none 0 0] 175 (0,0)):=heap_new _ _ _ rfl
      have g0z:=hfz.cell g0
      have g1z:=hfz.cell g1
      have g2z:=hfz.cell g2
      have hz8:(w9.alloc (.cells #[.int .i64 0,.int .i64 0,.slice none 0 0] 175)).heap.size=w9.heap.size+1:=by simp
      have KB : ∀ (W : World) (c : Value), Fr w9 W → W.heap[w9.heap.size]? = some (.cells #[.int .i64 0, .int .i64 0, .slice none 0 0] 175 (0, 0)) → Ow W (w9.heap.size + 1) eB c PK →
          (((W.setCell ⟨w9.heap.size,0,none⟩ (N k)).setCell ⟨w9.heap.size,1,none⟩ (N k)).setCell ⟨w9.heap.size,2,none⟩ c).heap[w9.heap.size]?=some (.cells #[N k,N k,c] 175 (0,0)) /\
          Ow (((W.setCell ⟨w9.heap.size,0,none⟩ (N k)).setCell ⟨w9.heap.size,1,none⟩ (N k)).setCell ⟨w9.heap.size,2,none⟩ c) w9.heap.size eB c PK /\
          Fr w9 (((W.setCell ⟨w9.heap.size,0,none⟩ (N k)).setCell ⟨w9.heap.size,1,none⟩ (N k)).setCell ⟨w9.heap.size,2,none⟩ c):=by
        intro W c h1 h2 h3
        have hC3:Chg (fun k=>k=w9.heap.size) W (((W.setCell ⟨w9.heap.size,0,none⟩ (N k)).setCell ⟨w9.heap.size,1,none⟩ (N k)).setCell ⟨w9.heap.size,2,none⟩ c):=((setCell_chg W ⟨w9.heap.size,0,none⟩ _).trans (setCell_chg _ ⟨w9.heap.size,1,none⟩ _) fun _ _ h=>h).trans (setCell_chg _ ⟨w9.heap.size,2,none⟩ c) fun _ _ h=>h
        exact⟨heap_setCell_own (heap_setCell_own (heap_setCell_own h2 0 _) 1 _) 2 _,(h3.chg hC3 (fun k hk e=>by have:=(h3.lt k hk).1;have e:k=w9.heap.size:=e;omega)).rebase (by omega),Chg.below h1 hC3 h1.size (fun k e=>by rw [e];exact Nat.le_refl _)⟩
      have KB:=hid KB
      clear HPk hO8 hO9 hC hfC hf28
      go_cut [19,20]from 92 to 99 (fun pv ev wx=>∃ (qz:Nat) (u:Value),pv=.pointer (some ⟨qz,0,none⟩)/\ev=.int .i64 0/\wx.heap[qz]?=some (.cells #[N k,N k,u] 175 (0,0))/\Ow wx w9.heap.size eB u PK/\Fr w9 wx)
      case first=>
        go_region_with (first
          | (go_at_call 143
             first
              | (refine (HPkF.out _ (Fr.refl w9).drew).mono ?_; rintro e w10 ⟨u10, rfl, hO10, hf10⟩; have hf910 : Fr w9 w10 := (Fr.refl w9).drew.trans hf10)
              | (refine (HPkF.out _ hfz.drew).mono ?_; rintro e w10 ⟨u10, rfl, hO10, hf10⟩; have hf910 : Fr w9 w10 := hfz.drew.trans hf10; have hz10 := hf10.heap (show (w9.alloc _).drew.heap[w9.heap.size]? = _ from z0); have y0 : w10.cell? ⟨w9.heap.size, 0, none⟩ = some (.int .i64 0) := (cell_of_heap hz10 _).trans rfl; have y1 : w10.cell? ⟨w9.heap.size, 1, none⟩ = some (.int .i64 0) := (cell_of_heap hz10 _).trans rfl; have y2 : w10.cell? ⟨w9.heap.size, 2, none⟩ = some (.slice none 0 0) := (cell_of_heap hz10 _).trans rfl; have x0 := frozen_of_heap hz10 0; have x1 := frozen_of_heap hz10 1; have x2 := frozen_of_heap hz10 2)
             obtain ⟨a10, c10, hv10⟩ := hO10.shape'
             subst hv10
             have g0 := hf910.cell g0
             have g1 := hf910.cell g1
             have g2 := hf910.cell g2))
        all_goals go_wp2_with fail
        all_goals go_meet
        all_goals first
          | exact⟨w10.heap.size,_,rfl,rfl,heap_new _ _ _ rfl,hO10.fr ((Fr.refl w10).alloc _),hf910.alloc _⟩
          | exact⟨w9.heap.size,_,rfl,rfl,KB.out w10 _ hf910 hz10 (by rw [<- hz8];exact hO10)⟩
      case rest=>
        obtain⟨qz,u,rfl,rfl,hZz,hOz,hf9c⟩:=hcut
        obtain⟨az,cz,huz⟩:=hOz.shape'
        subst huz
        have y0:wc.cell? ⟨qz,0,none⟩=some (N k):=by rw [cell_of_heap hZz];rfl
        have y1:wc.cell? ⟨qz,1,none⟩=some (N k):=by rw [cell_of_heap hZz];rfl
        have y2:wc.cell? ⟨qz,2,none⟩=some (.slice az PK.length cz):=by rw [cell_of_heap hZz];rfl
        have HI9:=hid (HInv.out wc _ hOz.see)
        have hf2c:=hf29.trans hf9c
        clear HInv hOz hZz hf9c g0 g1 g2 g0z g1z g2z hfz z0 HPkF
        go_wp2_with fail
        refine(HI9.out).mono ?_
        rintro e wi ⟨ui,rfl,hOi,hfi⟩
        obtain⟨ai,ci,hvi⟩:=hOi.shape'
        subst hvi
        have hD:(wi.alloc (.cells #[N k,N k,.slice ai IV.length ci] 175)).heap[wi.heap.size]?=some (.cells #[N k,N k,.slice ai IV.length ci] 175 (0,0)):=heap_new _ _ _ rfl
        have hfD:Fr wi (wi.alloc (.cells #[N k,N k,.slice ai IV.length ci] 175)):=(Fr.refl wi).alloc _
        clear HI9 y0 y1 y2
        go_upto_region 20 with fail
        have hOj:=hOi.fr hfD
        have hf2j:=(hf2c.trans hfi).trans hfD
        generalize wi.alloc (.cells #[N k,N k,.slice ai IV.length ci] 175)=wj at *
        generalize wi.heap.size=qi at *
        have y0:wj.cell? ⟨qi,0,none⟩=some (N k):=by rw [cell_of_heap hD];rfl
        have y1:wj.cell? ⟨qi,1,none⟩=some (N k):=by rw [cell_of_heap hD];rfl
        have y2:wj.cell? ⟨qi,2,none⟩=some (.slice ai IV.length ci):=by rw [cell_of_heap hD];rfl
        have hjd:Fr wj wj.drew:=(Fr.refl wj).drew
        have HT9:=hid (HT.out wj.drew _ _ _ (hOj.fr hjd).see (HgS.out wj.drew ((hf.trans hf2j).trans hjd) (hf2j.trans hjd)))
        clear HT HgS hOi hOj hfD hD hf2c hfi
        go_still_tail 4,(by kernel_rfl)
        change wpList _ _ _ _ _ wj.drew
        generalize wj.drew=wk at *
        go_wp2_with fail
        refine(HT9.out).mono ?_
        rintro e wl ⟨ul,rfl,xl,hOl,hOsl,hfl⟩
        have hfwl:=((hf.trans hf2j).trans hjd).trans hfl
        have hSl:=hOsl.sees2 hOl.see
        obtain⟨al,cl,hvl⟩:=hOl.shape'
        subst hvl
        have HP9:=hid (HPar.out wl _ _ hSl)
        clear HT9 HPar
        go_wp2_with fail
        refine(HP9.out).mono ?_
        rintro e wm ⟨um,rfl,xm,hOm,hOsm,hfm⟩
        obtain⟨am,cm,hvm⟩:=hOm.shape'
        subst hvm
        have hfwm:=hfwl.trans hfm
        have hOl2:=hOl.fr hfm
        have hOsl2:=hOsl.fr hfm
        have hl1:xl.length<=255:=by rw [hSl.2.1,HDl2.out];omega
        have hl2:xm.length<=255:=by rw [hOsm.1,HPRl.out];omega
        have hszm:wk.heap.size<=wm.heap.size:=Nat.le_trans hfl.size hfm.size
        have hwk:w.heap.size<=wk.heap.size:=((hf.trans hf2j).trans hjd).size
        clear HP9 hSl hOl
        go_wp2_with (at_builtin;refine wpList_app eHB rfl (.tmp 116) (.tmp 117) 31 rfl Tryz.underlying31 wk.heap.size rfl hOl2 _ _ rfl hOm.see ?c1 hszm ?_)
        case c1=>omega
        intro vz wz hap
        have hrows:=owns_append (hOsl2.app hOl2 hap (by decide)) ((hOsm.app hOl2 hap (by decide)).rebase hfl.size)
        rw [<- HNow.out]at hrows
        have own9:=hap.own
        have hf9:Fr w wz:=hap.below hOl2 hfwm hwk hfwm.size
        generalize xl++xm=xz at *
        obtain⟨a9,c9,hv9⟩:=own9.shape'
        subst hv9
        clear hap hOl2 hOm hOsl2 hOsm
        go_wp2_with fail
        go_ret2
        exact⟨_,rfl,xz,own9.rebase hwk,hrows.rebase hwk,hf9⟩
set_option maxRecDepth 512
end Go.Proofs.YtijghcbpfcjjnaaGreatDoor
