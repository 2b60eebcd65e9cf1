/- Parts of the proof of ThreeOpens: M8 M9 Ma R4 R5. -/
import Derived.Test.YtijghcbpfcjjnaaGreatDoorM29
import Derived.Test.YtijghcbpfcjjnaaGreatDoorM20
import Derived.Test.YtijghcbpfcjjnaaGreatDoorM21
import Derived.Test.YtijghcbpfcjjnaaGreatDoorM01
import Derived.Test.YtijghcbpfcjjnaaGreatDoorM04
set_option linter.unusedVariables false
set_option linter.unusedSectionVars false
set_option linter.unusedSimpArgs false
set_option maxHeartbeats 8000000
namespace Go.Proofs.YtijghcbpfcjjnaaGreatDoor
open Go.RowKit Go.Fk
set_option maxRecDepth 100000
theorem Stack_any(k m b c1 c2:Nat)(a1 a2:Option Addr)(l1 l2:List UInt8)(w:World)
  (hb:w.heap[b]?=some (.cells #[N k,N k,.slice a1 (k*k) c1,N m,N k,.slice a2 (m*k) c2] 175 (0,0)))
  (hs1:See w eB (.slice a1 (k*k) c1) l1) (hs2:See w eB (.slice a2 (m*k) c2) l2) (hl1:l1.length=k*k) (hl2:l2.length=m*k) (hk:1<=k) (hkm:k+m<=255) :
  Calls Tryz.prog 221 #[.slice (some ⟨b,0,none⟩) 2 2] w fun e w'=>∃ u,e=.returned (.tuple #[.agg #[N (k+m),N k,u],.int .i64 0])/\Ow w' w.heap.size eB u (l1++l2)/\Fr w w':=by
 have hkk:k*k<=255*255:=Nat.mul_le_mul (by omega) (by omega)
 have hmk:m*k<=255*255:=Nat.mul_le_mul (by omega) (by omega)
 have M1:=hid (MMay_any k k a1 c1 (by omega) (by omega))
 have M2:=hid (MMay_any m k a2 c2 (by omega) (by omega))
 have HL1:=hid hl1
 have HL2:=hid hl2
 clear hl1 hl2
 generalize k*k=kk at *
 generalize m*k=mk at *
 have q0:w.cell? ⟨b,0,none⟩=some (N k):=by rw [cell_of_heap hb];rfl
 have q1:w.cell? ⟨b,1,none⟩=some (N k):=by rw [cell_of_heap hb];rfl
 have q2:w.cell? ⟨b,2,none⟩=some (.slice a1 kk c1):=by rw [cell_of_heap hb];rfl
 have q3:w.cell? ⟨b,3,none⟩=some (N m):=by rw [cell_of_heap hb];rfl
 have q4:w.cell? ⟨b,4,none⟩=some (N k):=by rw [cell_of_heap hb];rfl
 have q5:w.cell? ⟨b,5,none⟩=some (.slice a2 mk c2):=by rw [cell_of_heap hb];rfl
 obtain⟨km,hkm9⟩:∃ q,q=k+m:=⟨_,rfl⟩
 rw [<- hkm9]
 have hw9:IntKind.i64.wrap ((k:Int)+m)=(km:Int):=by rw [show(k:Int)+m=(km:Int) by omega];exact wrap_i64 _ (by omega)
 have hk255:¬(255:Int)<k:=by omega
 have hkm255:¬(255:Int)<km:=by omega
 have hkm1:k+m<=255:=hkm
 clear hb hkm9 hkm
 go_enter Tryz.func221, Tryz.ntmps221
 go_wp2_with fail
 have hb0:((w.alloc (.cells #[.int .i64 0,.int .i64 0,.slice none 0 0] 175)).alloc (.cells #[.int .i64 0,.int .i64 0,.slice none 0 0] 175)).heap[w.heap.size]?=some (.cells #[.int .i64 0,.int .i64 0,.slice none 0 0] 175 (0,0)):=by
  rw [heap_old _ _ _ (by simp),heap_new _ _ _ rfl]
 have hb1:((w.alloc (.cells #[.int .i64 0,.int .i64 0,.slice none 0 0] 175)).alloc (.cells #[.int .i64 0,.int .i64 0,.slice none 0 0] 175)).heap[w.heap.size+1]?=some (.cells #[.int .i64 0,.int .i64 0,.slice none 0 0] 175 (0,0)):=heap_new _ _ _ (by simp)
 have hf0:Fr w ((w.alloc (.cells #[.int .i64 0,.int .i64 0,.slice none 0 0] 175)).alloc (.cells #[.int .i64 0,.int .i64 0,.slice none 0 0] 175)):=((Fr.refl w).alloc _).alloc _
 have hs0:((w.alloc (.cells #[.int .i64 0,.int .i64 0,.slice none 0 0] 175)).alloc (.cells #[.int .i64 0,.int .i64 0,.slice none 0 0] 175)).heap.size=w.heap.size+2:=by simp
 generalize (w.alloc (.cells #[.int .i64 0,.int .i64 0,.slice none 0 0] 175)).alloc (.cells #[.int .i64 0,.int .i64 0,.slice none 0 0] 175)=w0 at *
 generalize hg:w.heap.size=g at *
 go_loopw [9] (fun iv wr=>∃ (i r c:Nat) (sv:Value) (L:List UInt8),iv=N i/\Hid ((i=0/\r=0/\c=0/\L=[])\/(i=1/\r=k/\c=k/\L=l1)\/(i=2/\r=km/\c=k/\L=l1++l2))/\wr.heap[g]?=some (.cells #[.int .i64 0,.int .i64 0,.slice none 0 0] 175 (0,0))/\wr.heap[g+1]?=some (.cells #[N r,N c,sv] 175 (0,0))/\Ow wr (g+2) eB sv L/\Fr w wr/\g+2<=wr.heap.size) (fun iv _=>2 - (intOf iv).toNat)
 case atStart=>exact⟨0,0,0,_,[],rfl,.inl ⟨rfl,rfl,rfl,rfl⟩,hb0,hb1,Ow.nil,hf0,by omega⟩
 case round=>
  clear hb0 hb1 hf0 hs0
  obtain⟨i,r,c,sv,L,rfl,HH,h0,h1,hown,hf,hs⟩:=hrel
  have p0:=hf.cell q0
  have p1:=hf.cell q1
  have p2:=hf.cell q2
  have p3:=hf.cell q3
  have p4:=hf.cell q4
  have p5:=hf.cell q5
  have hneq:∀ q,sv.ownBlock=some q->g+2<=q:=fun q hq=>(hown.lt q hq).1
  rcases HH.out with⟨rfl,rfl,rfl,rfl⟩ | ⟨rfl,hr,hc,hL⟩ | ⟨rfl,hr,hc,rfl⟩
  · have hA:(wr.alloc (.cells #[N k,N k,(.slice a1 kk c1)] 175)).heap[wr.heap.size]?=some (.cells #[N k,N k,(.slice a1 kk c1)] 175 (0,0)):=heap_new _ _ _ rfl
    have hfA:Fr wr (wr.alloc (.cells #[N k,N k,(.slice a1 kk c1)] 175)):=(Fr.refl wr).alloc _
    have h0A:=hfA.heap h0
    have h1A:=hfA.heap h1
    have hoA:=hown.fr hfA
    have hsA:g+2<=(wr.alloc (.cells #[N k,N k,(.slice a1 kk c1)] 175)).heap.size:=by simp;omega
    go_upto_region 5 with fail
    generalize wr.alloc (.cells #[N k,N k,(.slice a1 kk c1)] 175)=W at *
    have hfW:=hf.trans hfA
    generalize hq:wr.heap.size=q at *
    clear p0 p1 p2 p3 p4 p5 hown h0 h1 hf hfA
    have e0:W.cell? ⟨q,0,none⟩=some (N k):=by rw [cell_of_heap hA];rfl
    have e1:W.cell? ⟨q,1,none⟩=some (N k):=by rw [cell_of_heap hA];rfl
    have e2:W.cell? ⟨q,2,none⟩=some (.slice a1 kk c1):=by rw [cell_of_heap hA];rfl
    have f1:W.cell? ⟨g+1,1,none⟩=some (.int .i64 0):=by rw [cell_of_heap h1A];rfl
    have g1:=frozen_of_heap h1A 1
    go_upto_region 7 with fail
    have hst:=setCell_chg W ⟨g+1,1,none⟩ (N k)
    have h1B:=heap_setCell_own h1A 1 (N k)
    have hAB:=hst.heap hA (fun e=>by have e:q=g+1:=e;omega)
    have h0B:=hst.heap h0A (fun e=>by have e:g=g+1:=e;omega)
    have hoB:=hoA.chg hst (fun k hk e=>by have e:k=g+1:=e;have:=hneq k hk;omega)
    have hfB:Fr w (W.setCell ⟨g+1,1,none⟩ (N k)):=Chg.below hfW hst (by rw [hg];omega) (fun i e=>by have e:i=g+1:=e;rw [hg];omega)
    have hsB:g+2<=(W.setCell ⟨g+1,1,none⟩ (N k)).heap.size:=by simp [World.setCell];omega
    clear f1 g1 e0 e1 e2 hst hA h0A h1A hoA hfW hsA
    generalize W.setCell ⟨g+1,1,none⟩ (N k)=V at *
    have e0:V.cell? ⟨q,0,none⟩=some (N k):=by rw [cell_of_heap hAB];rfl
    have e1:V.cell? ⟨q,1,none⟩=some (N k):=by rw [cell_of_heap hAB];rfl
    have e2:V.cell? ⟨q,2,none⟩=some (.slice a1 kk c1):=by rw [cell_of_heap hAB];rfl
    have f0:V.cell? ⟨g+1,0,none⟩=some (.int .i64 0):=by rw [cell_of_heap h1B];rfl
    have f1:V.cell? ⟨g+1,1,none⟩=some (N k):=by rw [cell_of_heap h1B];rfl
    go_wp2_with fail
    refine(M1.out _).mono ?_
    rintro e U ⟨rfl,hfU⟩
    have e0:=hfU.cell e0
    have e1:=hfU.cell e1
    have e2:=hfU.cell e2
    have f0:=hfU.cell f0
    have f1:=hfU.cell f1
    have h1U:=hfU.heap h1B
    have hAU:=hfU.heap hAB
    have h0U:=hfU.heap h0B
    have hoU:=hoB.fr hfU
    have hfwU:=hfB.trans hfU
    have hsU:g+2<=U.heap.size:=by have:=hfU.size;omega
    have g0:=frozen_of_heap h1U 0
    clear hfU h1B hAB h0B hoB hfB hsB
    go_upto_region 10 with fail
    have hst:=setCell_chg U ⟨g+1,0,none⟩ (N k)
    have h1X:=heap_setCell_own h1U 0 (N k)
    have hAX:=hst.heap hAU (fun e=>by have e:q=g+1:=e;omega)
    have h0X:=hst.heap h0U (fun e=>by have e:g=g+1:=e;omega)
    have hoX:=hoU.chg hst (fun k hk e=>by have e:k=g+1:=e;have:=hneq k hk;omega)
    have hfX:Fr w (U.setCell ⟨g+1,0,none⟩ (N k)):=Chg.below hfwU hst (by rw [hg];omega) (fun i e=>by have e:i=g+1:=e;rw [hg];omega)
    have hsX:g+2<=(U.setCell ⟨g+1,0,none⟩ (N k)).heap.size:=by simp [World.setCell];omega
    clear e0 e1 e2 f0 f1 g0 hst hAU h0U h1U hoU hfwU hsU
    generalize U.setCell ⟨g+1,0,none⟩ (N k)=X at *
    have e2:X.cell? ⟨q,2,none⟩=some (.slice a1 kk c1):=by rw [cell_of_heap hAX];rfl
    have f2:X.cell? ⟨g+1,2,none⟩=some sv:=by rw [cell_of_heap h1X];rfl
    go_wp2_with (at_builtin;refine wpList_app eB rfl (.tmp 45) (.tmp 47) 22 rfl Tryz.underlying22 (g+2) rfl hoX _ _ rfl (hs1.fr hfX) ?c1 hsX ?_)
    case c1=>first | (rw [HL1.out];simp;omega) | (rw [HL1.out,HL2.out];omega)
    intro v' w4 hap
    have own4:=hap.own
    obtain⟨q9,hq9⟩:∃ q,q=l1:=⟨_,rfl⟩
    rw [<- hq9]at own4
    have HQ9:=hid hq9
    clear hq9
    obtain⟨va,vc,hv'⟩:=own4.shape'
    subst hv'
    have h14:=hap.chg'.heap h1X (fun e=>by have:=hneq _ e;omega)
    have h04:=hap.chg'.heap h0X (fun e=>by have:=hneq _ e;omega)
    have hf4:Fr w w4:=hap.below hoX hfX (by rw [hg];omega) hfX.size
    have hs4:g+2<=w4.heap.size:=by have:=hap.size;omega
    have e3:w4.cell? ⟨g+1,2,none⟩=some sv:=by rw [cell_of_heap h14];rfl
    have e4:=frozen_of_heap h14 2
    have hne4:∀ q,(Value.slice va _ vc).ownBlock=some q->g+2<=q:=fun q hq=>(own4.lt q hq).1
    clear hap hoX hfX hsX h1X h0X hAX e2 f2
    go_wp2_with fail
    go_roundw
    case rel=>exact⟨1,_,k,_,_,by go_num,.inr (.inl ⟨rfl,rfl,rfl,HQ9.out⟩),by rw [Below.heap_setCell _ _ _ _ (by simp)];exact h04,heap_setCell_own h14 2 _,own4.chg (setCell_chg w4 ⟨g+1,2,none⟩ _) (fun k hk e=>by have e:k=g+1:=e;have:=hne4 k hk;omega),Chg.below hf4 (setCell_chg w4 ⟨g+1,2,none⟩ _) hf4.size (fun i e=>by have e:i=g+1:=e;rw [hg];omega),by simp [World.setCell];omega⟩
    case measure=>simp [intOf]
  · obtain rfl:k=c:=hc.symm
    obtain rfl:k=r:=hr.symm
    obtain rfl:l1=L:=hL.symm
    have hA:(wr.alloc (.cells #[N m,N k,(.slice a2 mk c2)] 175)).heap[wr.heap.size]?=some (.cells #[N m,N k,(.slice a2 mk c2)] 175 (0,0)):=heap_new _ _ _ rfl
    have hfA:Fr wr (wr.alloc (.cells #[N m,N k,(.slice a2 mk c2)] 175)):=(Fr.refl wr).alloc _
    have h0A:=hfA.heap h0
    have h1A:=hfA.heap h1
    have hoA:=hown.fr hfA
    have hsA:g+2<=(wr.alloc (.cells #[N m,N k,(.slice a2 mk c2)] 175)).heap.size:=by simp;omega
    go_upto_region 5 with fail
    generalize wr.alloc (.cells #[N m,N k,(.slice a2 mk c2)] 175)=W at *
    have hfW:=hf.trans hfA
    generalize hq:wr.heap.size=q at *
    clear p0 p1 p2 p3 p4 p5 hown h0 h1 hf hfA
    have e0:W.cell? ⟨q,0,none⟩=some (N m):=by rw [cell_of_heap hA];rfl
    have e1:W.cell? ⟨q,1,none⟩=some (N k):=by rw [cell_of_heap hA];rfl
    have e2:W.cell? ⟨q,2,none⟩=some (.slice a2 mk c2):=by rw [cell_of_heap hA];rfl
    go_upto_region 7 with fail
    have h1B:=h1A
    have hAB:=hA
    have h0B:=h0A
    have hoB:=hoA
    have hfB:=hfW
    have hsB:=hsA
    clear e0 e1 e2 hA h0A h1A hoA hfW hsA
    generalize W=V at *
    have e0:V.cell? ⟨q,0,none⟩=some (N m):=by rw [cell_of_heap hAB];rfl
    have e1:V.cell? ⟨q,1,none⟩=some (N k):=by rw [cell_of_heap hAB];rfl
    have e2:V.cell? ⟨q,2,none⟩=some (.slice a2 mk c2):=by rw [cell_of_heap hAB];rfl
    have f0:V.cell? ⟨g+1,0,none⟩=some (N k):=by rw [cell_of_heap h1B];rfl
    have f1:V.cell? ⟨g+1,1,none⟩=some (N k):=by rw [cell_of_heap h1B];rfl
    go_wp2_with fail
    refine(M2.out _).mono ?_
    rintro e U ⟨rfl,hfU⟩
    have e0:=hfU.cell e0
    have e1:=hfU.cell e1
    have e2:=hfU.cell e2
    have f0:=hfU.cell f0
    have f1:=hfU.cell f1
    have h1U:=hfU.heap h1B
    have hAU:=hfU.heap hAB
    have h0U:=hfU.heap h0B
    have hoU:=hoB.fr hfU
    have hfwU:=hfB.trans hfU
    have hsU:g+2<=U.heap.size:=by have:=hfU.size;omega
    have g0:=frozen_of_heap h1U 0
    clear hfU h1B hAB h0B hoB hfB hsB
    go_upto_region 10 with fail
    have hst:=setCell_chg U ⟨g+1,0,none⟩ (N km)
    have h1X:=heap_setCell_own h1U 0 (N km)
    have hAX:=hst.heap hAU (fun e=>by have e:q=g+1:=e;omega)
    have h0X:=hst.heap h0U (fun e=>by have e:g=g+1:=e;omega)
    have hoX:=hoU.chg hst (fun k hk e=>by have e:k=g+1:=e;have:=hneq k hk;omega)
    have hfX:Fr w (U.setCell ⟨g+1,0,none⟩ (N km)):=Chg.below hfwU hst (by rw [hg];omega) (fun i e=>by have e:i=g+1:=e;rw [hg];omega)
    have hsX:g+2<=(U.setCell ⟨g+1,0,none⟩ (N km)).heap.size:=by simp [World.setCell];omega
    clear e0 e1 e2 f0 f1 g0 hst hAU h0U h1U hoU hfwU hsU
    generalize U.setCell ⟨g+1,0,none⟩ (N km)=X at *
    have e2:X.cell? ⟨q,2,none⟩=some (.slice a2 mk c2):=by rw [cell_of_heap hAX];rfl
    have f2:X.cell? ⟨g+1,2,none⟩=some sv:=by rw [cell_of_heap h1X];rfl
    go_wp2_with (at_builtin;refine wpList_app eB rfl (.tmp 45) (.tmp 47) 22 rfl Tryz.underlying22 (g+2) rfl hoX _ _ rfl (hs2.fr hfX) ?c1 hsX ?_)
    case c1=>first | (rw [HL2.out];simp;omega) | (rw [HL1.out,HL2.out];omega)
    intro v' w4 hap
    have own4:=hap.own
    obtain⟨q9,hq9⟩:∃ q,q=l1++l2:=⟨_,rfl⟩
    rw [<- hq9]at own4
    have HQ9:=hid hq9
    clear hq9
    obtain⟨va,vc,hv'⟩:=own4.shape'
    subst hv'
    have h14:=hap.chg'.heap h1X (fun e=>by have:=hneq _ e;omega)
    have h04:=hap.chg'.heap h0X (fun e=>by have:=hneq _ e;omega)
    have hf4:Fr w w4:=hap.below hoX hfX (by rw [hg];omega) hfX.size
    have hs4:g+2<=w4.heap.size:=by have:=hap.size;omega
    have e3:w4.cell? ⟨g+1,2,none⟩=some sv:=by rw [cell_of_heap h14];rfl
    have e4:=frozen_of_heap h14 2
    have hne4:∀ q,(Value.slice va _ vc).ownBlock=some q->g+2<=q:=fun q hq=>(own4.lt q hq).1
    clear hap hoX hfX hsX h1X h0X hAX e2 f2
    go_wp2_with fail
    go_roundw
    case rel=>exact⟨2,_,k,_,_,by go_num,.inr (.inr ⟨rfl,rfl,rfl,HQ9.out⟩),by rw [Below.heap_setCell _ _ _ _ (by simp)];exact h04,heap_setCell_own h14 2 _,own4.chg (setCell_chg w4 ⟨g+1,2,none⟩ _) (fun k hk e=>by have e:k=g+1:=e;have:=hne4 k hk;omega),Chg.below hf4 (setCell_chg w4 ⟨g+1,2,none⟩ _) hf4.size (fun i e=>by have e:i=g+1:=e;rw [hg];omega),by simp [World.setCell];omega⟩
    case measure=>simp [intOf]
  · obtain rfl:k=c:=hc.symm
    obtain rfl:km=r:=hr.symm
    have hinf:(Tryz.prog.info? 175).map (·.size)=some 3:=by kernel_rfl
    have hone:(#[N km,N k,sv]:Array Value).all (·.oneCell')=true:=by
     obtain⟨va,vc,hv⟩:=hown.shape'
     subst hv
     rw [List.all_toArray]
     rfl
    have hset:Ow (wr.setRow g #[N km,N k,sv]) (g+2) eB sv (l1++l2):=hown.chg (setRow_chg wr g _) fun q hq=>by have:=hneq q hq;show ¬q=g;omega
    have hfin:Fr w (wr.setRow g #[N km,N k,sv]):=Chg.below hf (setRow_chg wr g _) hf.size (fun q hq=>by rw [hq];omega)
    have z0:=cell_setRow_same wr g 0 _ #[N km,N k,sv] _ _ h0
    have z1:=cell_setRow_same wr g 1 _ #[N km,N k,sv] _ _ h0
    have z2:=cell_setRow_same wr g 2 _ #[N km,N k,sv] _ _ h0
    clear p0 p1 p2 p3 p4 p5 q0 q1 q2 q3 q4 q5 hown M1 M2 HH
    generalize hLL:l1++l2=LL at *
    go_wp2_with (first | (refine wpList_load_row rfl 175 (.tmp 4) rfl (g+1) rfl 175 #[N km,N k,sv] (0,0) _ h1 Tryz.underlying175 rfl hinf ?_) | (refine wpList_store_row rfl 175 (.tmp 2) (.tmp 51) rfl g #[N km,N k,sv] rfl rfl 175 _ h0 hinf rfl hone ?_))
    exact bodyPost_ret (v:=.tuple #[.agg #[N km,N k,sv],.int .i64 0]) (by simp [results,Tryz.results221,go_sem, *]) rfl ⟨_,rfl,hset.rebase (by omega),hfin⟩
set_option maxRecDepth 512
theorem cauPre_row(k i:Nat)(h0:cauPre k i 0=preL k (cauC k) (i*k+0)):∀ j,j<=k->cauPre k i j=preL k (cauC k) (i*k+j):=by
 intro j
 induction j with
 | zero=>intro _;exact h0
 | succ j ih=>intro hj;rw [cauPre_step,ih (by omega),preL_step k (cauC k) i j (by omega)]
theorem cauPre_pre(k i:Nat):cauPre k i 0=preL k (cauC k) (i*k+0):=by
 induction i with
 | zero=>rw [cauPre_zero];simp [preL]
 | succ i ih=>rw [cauPre_next,cauPre_row k i ih k (Nat.le_refl _),preL_next]
theorem wholeU_cau(k i j:Nat)(hi:k+i<256)(hj:j<256):wholeU k (k+i) j=cauC k i j:=by
 have hx:(k+i) ^^^ j<2 ^ 8:=Nat.xor_lt_two_pow hi hj
 unfold wholeU cauC inv8 inv1
 rw [if_neg (by omega),ofNat_toNat8 _ hx]
theorem whole_app(k m:Nat)(hk:1<=k)(hkm:k+m<=255):idL k++cauPre k m 0=wholeL k m:=by
 rw [cauPre_pre]
 unfold idL wholeL preL
 rw [Nat.add_zero,Nat.add_mul k m k,List.range_add,List.map_append,List.map_map]
 congr 1
 · refine List.map_congr_left fun t ht=>?_
   have ht:=List.mem_range.1 ht
   have:=(Nat.div_lt_iff_lt_mul (show 0<k by omega)).2 ht
   unfold oneU wholeU
   rw [if_pos this]
 · refine List.map_congr_left fun t ht=>?_
   have ht:=List.mem_range.1 ht
   have h1:=(Nat.div_lt_iff_lt_mul (show 0<k by omega)).2 ht
   have h2:=Nat.mod_lt t (show 0<k by omega)
   simp only [Function.comp]
   rw [Nat.mul_add_div (by omega),Nat.mul_add_mod,wholeU_cau k _ _ (by omega) (by omega)]
set_option maxRecDepth 100000
theorem whole_any(k m:Nat)(hk:1<=k)(hkm:k+m<=255)(w:World) :
  Calls Tryz.prog 184 #[N k,N m] w fun e w'=>∃ u,e=.returned (.agg #[N (k+m),N k,u])/\Ow w' w.heap.size eB u (wholeL k m)/\Fr w w':=by
 have HI:=hid (Identity_any k hk (by omega))
 have HC:=hid (Cauchy_any k m hk hkm)
 have hl1:Hid ((idL k).length=k*k):=preL_len _ _ _
 have hl2:Hid ((cauPre k m 0).length=m*k):=by show _=_;rw [cauPre_len];omega
 have HW:=hid (whole_app k m hk hkm)
 have HS:=hid (fun b c1 c2 a1 a2 W hb h1 h2=>Stack_any k m b c1 c2 a1 a2 (idL k) (cauPre k m 0) W hb h1 h2 hl1.out hl2.out hk hkm)
 rw [HW.out]at HS
 clear HW
 obtain⟨km,hkm9⟩:∃ q,q=k+m:=⟨_,rfl⟩
 rw [<- hkm9]at HS ⊢
 clear hkm9
 generalize idL k=l1 at *
 generalize cauPre k m 0=l2 at *
 generalize wholeL k m=l3 at *
 have hb0:(w.alloc (.cells #[.int .i64 0,.int .i64 0,.slice none 0 0] 175)).heap[w.heap.size]?=some (.cells #[.int .i64 0,.int .i64 0,.slice none 0 0] 175 (0,0)):=heap_new _ _ _ rfl
 have hf0:Fr w (w.alloc (.cells #[.int .i64 0,.int .i64 0,.slice none 0 0] 175)):=(Fr.refl w).alloc _
 have hs0:(w.alloc (.cells #[.int .i64 0,.int .i64 0,.slice none 0 0] 175)).heap.size=w.heap.size+1:=by simp
 go_enter Tryz.func184, Tryz.ntmps184
 go_upto_region 1 with fail
 generalize w.alloc (.cells #[.int .i64 0,.int .i64 0,.slice none 0 0] 175)=w0 at *
 generalize hg:w.heap.size=g at *
 go_wp2_with fail
 refine(HI.out _).mono ?_
 rintro e w1 ⟨v1,rfl,hO1,hf1⟩
 obtain⟨a1,c1,hv1⟩:=hO1.shape'
 rw [hl1.out]at hv1
 subst hv1
 unfold idV
 have h1:=hf1.heap hb0
 have hf01:=hf0.trans hf1
 have hs1:=hf1.size
 clear hb0 hf0 hf1 HI
 have hA:(w1.alloc (.cells #[N k,N k,.slice a1 (k*k) c1] 175)).heap[w1.heap.size]?=some (.cells #[N k,N k,.slice a1 (k*k) c1] 175 (0,0)):=heap_new _ _ _ rfl
 have hfA:Fr w1 (w1.alloc (.cells #[N k,N k,.slice a1 (k*k) c1] 175)):=(Fr.refl w1).alloc _
 go_upto_region 2 with fail
 generalize w1.alloc (.cells #[N k,N k,.slice a1 (k*k) c1] 175)=w2 at *
 generalize w1.heap.size=q1 at *
 go_wp2_with fail
 refine(HC.out _).mono ?_
 rintro e w3 ⟨v3,rfl,hO3,hf3⟩
 obtain⟨a3,c3,hv3⟩:=hO3.shape'
 rw [hl2.out]at hv3
 subst hv3
 unfold cauV
 have hf13:=hfA.trans hf3
 have hf03:=hf01.trans hf13
 have h3:=hf13.heap h1
 have hA3:=hf3.heap hA
 have hO13:=hO1.fr hf13
 have hs3:=hf13.size
 clear hf3 hfA hA h1 hf01 hf13 hO1 HC
 have hB:(w3.alloc (.cells #[N m,N k,.slice a3 (m*k) c3] 175)).heap[w3.heap.size]?=some (.cells #[N m,N k,.slice a3 (m*k) c3] 175 (0,0)):=heap_new _ _ _ rfl
 have hfB:Fr w3 (w3.alloc (.cells #[N m,N k,.slice a3 (m*k) c3] 175)):=(Fr.refl w3).alloc _
 go_upto_region 3 with fail
 generalize w3.alloc (.cells #[N m,N k,.slice a3 (m*k) c3] 175)=w4 at *
 generalize w3.heap.size=q3 at *
 have e0:w4.cell? ⟨q1,0,none⟩=some (N k):=by rw [cell_of_heap (hfB.heap hA3)];rfl
 have e1:w4.cell? ⟨q1,1,none⟩=some (N k):=by rw [cell_of_heap (hfB.heap hA3)];rfl
 have e2:w4.cell? ⟨q1,2,none⟩=some (.slice a1 (k*k) c1):=by rw [cell_of_heap (hfB.heap hA3)];rfl
 have f0:w4.cell? ⟨q3,0,none⟩=some (N m):=by rw [cell_of_heap hB];rfl
 have f1:w4.cell? ⟨q3,1,none⟩=some (N k):=by rw [cell_of_heap hB];rfl
 have f2:w4.cell? ⟨q3,2,none⟩=some (.slice a3 (m*k) c3):=by rw [cell_of_heap hB];rfl
 have hf4:Fr w4 (w4.alloc (.cells #[N k,N k,.slice a1 (k*k) c1,N m,N k,.slice a3 (m*k) c3] 175)):=(Fr.refl w4).alloc _
 have HS4:=hid (HS.out w4.heap.size c1 c3 a1 a3 _ (heap_new w4 (.cells #[N k,N k,.slice a1 (k*k) c1,N m,N k,.slice a3 (m*k) c3] 175) _ rfl) ((hO13.fr hfB).fr hf4).see ((hO3.fr hfB).fr hf4).see)
 have hf04:=(hf03.trans hfB).trans hf4
 have h4:=hf4.heap (hfB.heap h3)
 go_wp2_with fail
 refine HS4.out.mono ?_
 rintro e w5 ⟨u,rfl,hO5,hf5⟩
 have hf05:=hf04.trans hf5
 have h5:=hf5.heap h4
 have hgb:=(Array.getElem?_eq_some_iff.1 h4).1
 generalize (w4.alloc (.cells #[N k,N k,.slice a1 (k*k) c1,N m,N k,.slice a3 (m*k) c3] 175)).heap.size=b4 at hO5 hgb
 clear HS4 HS hf04 h4 hf4 hf03 h3 hA3 hO13 hO3 hB hfB e0 e1 e2 f0 f1 f2
 obtain⟨a5,c5,hv5⟩:=hO5.shape'
 subst hv5
 have hinf:(Tryz.prog.info? 175).map (·.size)=some 3:=by kernel_rfl
 have hone:(#[N km,N k,.slice a5 l3.length c5]:Array Value).all (·.oneCell')=true:=by
  rw [List.all_toArray];rfl
 have hC:(w5.alloc (.cells #[N km,N k,.slice a5 l3.length c5] 175)).heap[w5.heap.size]?=some (.cells #[N km,N k,.slice a5 l3.length c5] 175 (0,0)):=heap_new _ _ _ rfl
 have hfC:Fr w5 (w5.alloc (.cells #[N km,N k,.slice a5 l3.length c5] 175)):=(Fr.refl w5).alloc _
 go_upto_region 4 with fail
 generalize w5.alloc (.cells #[N km,N k,.slice a5 l3.length c5] 175)=w6 at *
 generalize w5.heap.size=q5 at *
 have hf06:=hf05.trans hfC
 have h6:=hfC.heap h5
 have hO6:=hO5.fr hfC
 have hset:Ow (w6.setRow g #[N km,N k,.slice a5 l3.length c5]) b4 eB (.slice a5 l3.length c5) l3:=hO6.chg (setRow_chg w6 g _) fun q hq=>by have:=(hO6.lt q hq).1;show ¬q=g;omega
 have hfin:Fr w (w6.setRow g #[N km,N k,.slice a5 l3.length c5]):=Chg.below hf06 (setRow_chg w6 g _) hf06.size (fun q hq=>by rw [hq];omega)
 go_wp2_with (first | (refine wpList_load_row rfl 175 (.tmp 9) rfl q5 rfl 175 #[N km,N k,.slice a5 l3.length c5] (0,0) _ hC Tryz.underlying175 rfl hinf ?_) | (refine wpList_store_row rfl 175 (.tmp 4) (.tmp 29) rfl g #[N km,N k,.slice a5 l3.length c5] rfl rfl 175 _ h6 hinf rfl hone ?_))
 exact bodyPost_ret (v:=.agg #[N km,N k,.slice a5 l3.length c5]) (results_cell_row Tryz.results184 _ _ g 175 #[N km,N k,.slice a5 l3.length c5] (0,0) _ rfl (setRow_heap _ g _ #[N km,N k,.slice a5 l3.length c5] _ _ h6) Tryz.underlying175 rfl hinf) rfl ⟨_,rfl,hset.rebase (by omega),hfin⟩
set_option maxRecDepth 512
theorem pickL_step(M:List UInt8)(C:Nat)(ats:List Nat)(i:Nat)(h:i<ats.length):pickL M C (ats.take (i+1))=pickL M C (ats.take i)++(M.take ((ats[i]+1)*C)).drop (ats[i]*C):=by
 rw [List.take_add_one,List.getElem?_eq_getElem h]
 unfold pickL
 show((ats.take i++[ats[i]]).map _).flatten=_
 rw [List.map_append,List.flatten_append,List.map_cons,List.map_nil,List.flatten_cons,List.flatten_nil,List.append_nil]
theorem pickL_len(M:List UInt8)(R C:Nat)(hM:M.length=R*C):∀ ats:List Nat,(∀ r∈ats,r<R)->(pickL M C ats).length=ats.length*C:=by
 intro ats
 induction ats with
 | nil=>intro _;simp [pickL]
 | cons a ats ih=>
  intro h
  have e:pickL M C (a::ats)=(M.take ((a+1)*C)).drop (a*C)++pickL M C ats:=by simp [pickL]
  have ha:(a+1)*C<=R*C:=Nat.mul_le_mul_right C (h a (by simp))
  rw [e,List.length_append,ih (fun r hr=>h r (by simp [hr])),List.length_drop,List.length_take,hM,List.length_cons]
  rw [Nat.add_mul]at ha ⊢
  rw [Nat.add_mul ats.length]
  omega
set_option maxRecDepth 100000
theorem Pick_any(R C:Nat)(M:List UInt8)(ats:List Nat)(mv rv:Value)(base:Nat)(w:World)(ho:Ow w base eB mv M)(hM:M.length=R*C)(hr:See w eJ rv ats)(hat:∀ r∈ats,r<R)(hC:1<=C)(hC2:C<=255)(hR1:1<=R)(hR:R<=255)(hal:ats.length<=255) :
  Calls Tryz.prog 183 #[.agg #[N R,N C,mv],rv] w fun e w'=>∃ u,e=.returned (.tuple #[.agg #[N ats.length,N C,u],.int .i64 0])/\Ow w' w.heap.size eB u (pickL M C ats)/\Fr w w':=by
 have h11:1*1<=R*C:=Nat.mul_le_mul hR1 hC
 have hM0:M≠[]:=by intro e;subst e;simp at hM;omega
 obtain⟨mg,mcap,hmv,_⟩:=ho.atHead hM0
 rw [hM]at hmv
 subst hmv
 obtain⟨ra,rcap,hrv,_,_,_⟩:=hr.shape
 subst hrv
 have HM:=hid (MMay_any R C (some ⟨mg,0,none⟩) mcap hR hC2)
 have HPL:=hid (fun i=>pickL_len M R C hM (ats.take i) (fun r hr=>hat r (List.mem_of_mem_take hr)))
 have HRow:=hid (fun W (hf:Fr w W) i hi=>row_any R C i mg (R*C) mcap base M W (ho.fr hf) hM hi hC hC2 hR)
 have HSee:Hid (∀ W (hf:Fr w W) i (hi:i<R),See W eB (.slice (some ⟨mg,i*C,none⟩) C (mcap - i*C)) ((M.take ((i+1)*C)).drop (i*C))/\((M.take ((i+1)*C)).drop (i*C)).length=C):=fun W hf i hi=>by
  have h1:(i+1)*C=i*C+C:=by rw [Nat.add_mul,Nat.one_mul]
  have h2:(i+1)*C<=R*C:=Nat.mul_le_mul_right C hi
  have:=(run_mid_at (E:=eB) (t:=22) rfl Tryz.underlying22 (ho.fr hf) (i*C) ((i+1)*C) (by omega) (by omega)).2
  rw [show(i+1)*C - i*C=C by omega]at this
  exact⟨this,by rw [List.length_drop,List.length_take];omega⟩
 have HStep:=hid (pickL_step M C ats)
 have HAll:Hid (pickL M C (ats.take ats.length)=pickL M C ats):=by show _=_;rw [List.take_of_length_le (Nat.le_refl _)]
 have HZ:Hid (pickL M C (ats.take 0)=[]):=rfl
 have Hat:Hid (∀ i (h:i<ats.length),ats[i]<R):=fun i h=>hat _ (List.getElem_mem h)
 clear hM0 hM h11 hat
 generalize hmn:R*C=mn at *
 have hb0:((w.alloc (.cells #[N R,N C,.slice (some ⟨mg,0,none⟩) mn mcap] 175)).alloc (.cells #[.int .i64 0,.int .i64 0,.slice none 0 0] 175)).heap[w.heap.size]?=some (.cells #[N R,N C,.slice (some ⟨mg,0,none⟩) mn mcap] 175 (0,0)):=by
  rw [heap_old _ _ _ (by simp),heap_new _ _ _ rfl]
 have hb1:((w.alloc (.cells #[N R,N C,.slice (some ⟨mg,0,none⟩) mn mcap] 175)).alloc (.cells #[.int .i64 0,.int .i64 0,.slice none 0 0] 175)).heap[w.heap.size+1]?=some (.cells #[.int .i64 0,.int .i64 0,.slice none 0 0] 175 (0,0)):=heap_new _ _ _ (by simp)
 have hf0:Fr w ((w.alloc (.cells #[N R,N C,.slice (some ⟨mg,0,none⟩) mn mcap] 175)).alloc (.cells #[.int .i64 0,.int .i64 0,.slice none 0 0] 175)):=((Fr.refl w).alloc _).alloc _
 have hs0:((w.alloc (.cells #[N R,N C,.slice (some ⟨mg,0,none⟩) mn mcap] 175)).alloc (.cells #[.int .i64 0,.int .i64 0,.slice none 0 0] 175)).heap.size=w.heap.size+2:=by simp
 have hal':¬(255:Int)<ats.length:=by omega
 go_enter Tryz.func183, Tryz.ntmps183
 go_upto_region 1 with fail
 generalize (w.alloc (.cells #[N R,N C,.slice (some ⟨mg,0,none⟩) mn mcap] 175)).alloc (.cells #[.int .i64 0,.int .i64 0,.slice none 0 0] 175)=w0 at *
 generalize hg:w.heap.size=g at *
 have k0:w0.cell? ⟨g,0,none⟩=some (N R):=by rw [cell_of_heap hb0];rfl
 have k1:w0.cell? ⟨g,1,none⟩=some (N C):=by rw [cell_of_heap hb0];rfl
 have k2:w0.cell? ⟨g,2,none⟩=some (.slice (some ⟨mg,0,none⟩) mn mcap):=by rw [cell_of_heap hb0];rfl
 go_wp2_with fail
 refine(HM.out _).mono ?_
 rintro e w1 ⟨rfl,hf1⟩
 have k1':=hf1.cell k1
 have hb0:=hf1.heap hb0
 have hb1:=hf1.heap hb1
 have hf01:=hf0.trans hf1
 have hs1:g+2<=w1.heap.size:=by have:=hf1.size;omega
 clear k0 k1 k2 hf0 hf1 HM hs0
 have hA:(w1.alloc (.cells #[N ats.length,N C,.slice none 0 0] 175)).heap[w1.heap.size]?=some (.cells #[N ats.length,N C,.slice none 0 0] 175 (0,0)):=heap_new _ _ _ rfl
 have hfA:Fr w1 (w1.alloc (.cells #[N ats.length,N C,.slice none 0 0] 175)):=(Fr.refl w1).alloc _
 have hb0A:=hfA.heap hb0
 have hb1A:=hfA.heap hb1
 have hfwA:=hf01.trans hfA
 have hsA:g+2<=(w1.alloc (.cells #[N ats.length,N C,.slice none 0 0] 175)).heap.size:=by simp;omega
 go_upto_region 4 with fail
 clear hb0 hb1 k1' hf01 hfA
 generalize w1.alloc (.cells #[N ats.length,N C,.slice none 0 0] 175)=w2 at *
 generalize w1.heap.size=q at *
 go_wp2_with fail
 go_loopw [25] (fun iv wr=>∃ (i:Nat) (sv:Value),i<=ats.length/\iv=N i/\wr.heap[g]?=some (.cells #[N R,N C,.slice (some ⟨mg,0,none⟩) mn mcap] 175 (0,0))/\wr.heap[g+1]?=some (.cells #[.int .i64 0,.int .i64 0,.slice none 0 0] 175 (0,0))/\wr.heap[q]?=some (.cells #[N ats.length,N C,sv] 175 (0,0))/\Ow wr (g+2) eB sv (pickL M C (ats.take i))/\Fr w wr/\g+2<=wr.heap.size) (fun iv _=>ats.length - (intOf iv).toNat)
 case atStart=>exact⟨0,_,Nat.zero_le _,rfl,hb0A,hb1A,hA,by rw [HZ.out];exact Ow.nil,hfwA,hsA⟩
 case round=>
  clear hb0A hb1A hA hfwA hsA
  obtain⟨i,sv,hi,rfl,hB0,hB1,hBq,hown,hf,hs⟩:=hrel
  by_cases hlt:i<ats.length
  · obtain⟨rb,roff,rc,hv1,e1⟩:=(hr.fr hf).cell1 (fun n=>N n) rfl i hlt
    cases hv1
    have HStep2:=hid (HStep.out i hlt)
    have haR:=Hat.out i hlt
    have hPn:=HPL.out i
    have hne:=hown.ne_cells hBq (by decide)
    have hneq:∀ q,sv.ownBlock=some q->g+2<=q:=fun q hq=>(hown.lt q hq).1
    have HRowI:=hid (fun W (hf:Fr w W)=>HRow.out W hf ats[i] haR)
    have HSeeI:=hid (fun W (hf:Fr w W)=>HSee.out W hf ats[i] haR)
    have hPl:(pickL M C (ats.take i)).length+C<=255*255+255:=by
     rw [hPn,List.length_take]
     have:min i ats.length*C<=255*255:=Nat.mul_le_mul (by omega) hC2
     omega
    generalize ats[i]=a at *
    have ha1:¬(a:Int)<0:=by omega
    have ha2:(a:Int)<R:=by omega
    have ha3:¬(R:Int)<=a:=by omega
    have c0:wr.cell? ⟨g,0,none⟩=some (N R):=by rw [cell_of_heap hB0];rfl
    have c1:wr.cell? ⟨g,1,none⟩=some (N C):=by rw [cell_of_heap hB0];rfl
    have c2:wr.cell? ⟨g,2,none⟩=some (.slice (some ⟨mg,0,none⟩) mn mcap):=by rw [cell_of_heap hB0];rfl
    have d2:wr.cell? ⟨q,2,none⟩=some sv:=by rw [cell_of_heap hBq];rfl
    generalize (M.take ((a+1)*C)).drop (a*C)=row at *
    generalize mcap - a*C=cq at *
    generalize a*C=aC at *
    obtain⟨P2,hP2⟩:∃ q,q=pickL M C (ats.take (i+1)):=⟨_,rfl⟩
    rw [<- hP2]at HStep2
    have HP2:=hid hP2
    clear hP2
    generalize pickL M C (ats.take i)=P1 at *
    have hrl:=(HSeeI.out wr hf).2
    have HC1:Hid (P1.length+row.length<=2147483648):=by show _<=_;omega
    have hRD:=hid (HRowI.out wr.drew (Fr.drew hf))
    clear HRowI hPl hPn
    go_upto_region 9 with fail
    go_region_law (first
     | (refine step_app eB rfl (.tmp 39) (.tmp 42) 22 rfl Tryz.underlying22 (g + 2) rfl (hown.drew.fr hf3) _ _ rfl ((HSeeI.out _ ((Fr.drew hf).trans hf3)).1) HC1.out (Nat.le_trans hs hf3.size) ?_
        intro v' w4 hap
        have own4 := hap.own
        rw [← HStep2.out] at own4
        obtain ⟨va, vc, hv'⟩ := own4.shape'
        subst hv'
        have hf03 : Fr w w3 := (Fr.drew hf).trans hf3
        have m0 := hap.chg'.heap (hf3.heap (show wr.drew.heap[g]? = _ from hB0)) (fun e => by have := hneq g e; omega)
        have m1 := hap.chg'.heap (hf3.heap (show wr.drew.heap[g + 1]? = _ from hB1)) (fun e => by have := hneq (g + 1) e; omega)
        have mq := hap.chg'.heap (hf3.heap (show wr.drew.heap[q]? = _ from hBq)) hne
        have hf4 : Fr w w4 := hap.below (hown.drew.fr hf3) hf03 (by rw [hg]; omega) hf03.size
        have hs4 := hap.size
        have hs3 := hf3.size
        have e3 : w4.cell? ⟨q, 2, none⟩ = some sv := by rw [cell_of_heap mq]; rfl
        have e4 : w4.frozen? ⟨q, 2, none⟩ = false := frozen_of_heap mq 2)
     | (go_simp; go_at_call 219; refine (hRD.out).mono ?_; rintro e w3 ⟨rfl, hf3⟩; have d2 := hf3.cell (show wr.drew.cell? ⟨q, 2, none⟩ = _ from d2); have c0 := hf3.cell (show wr.drew.cell? ⟨g, 0, none⟩ = _ from c0); have c1 := hf3.cell (show wr.drew.cell? ⟨g, 1, none⟩ = _ from c1); have c2 := hf3.cell (show wr.drew.cell? ⟨g, 2, none⟩ = _ from c2)))
    all_goals go_wp2_with fail
    all_goals go_roundw
    all_goals first
     | (simp [intOf];omega)
     | (refine ⟨i + 1, _, by omega, by go_num, ?_, ?_, heap_setCell_own mq 2 _, ?_, ?_, ?_⟩
        · rw [(setCell_chg w4 ⟨q, 2, none⟩ _).block g (Array.getElem?_eq_some_iff.1 m0).1 (fun e => by have e : g = q := e; omega)]; exact m0
        · rw [(setCell_chg w4 ⟨q, 2, none⟩ _).block (g + 1) (Array.getElem?_eq_some_iff.1 m1).1 (fun e => by have e : g + 1 = q := e; omega)]; exact m1
        · rw [← HP2.out]
          exact own4.chg (setCell_chg w4 ⟨q, 2, none⟩ _) fun k hk e => (own4.ne_cells mq (by decide)) (by rw [hk, show k = q from e])
        · exact Chg.below hf4 (setCell_chg w4 ⟨q, 2, none⟩ _) hf4.size (fun i e => by have e : i = q := e; omega)
        · simp [World.setCell]; have : wr.drew.heap.size = wr.heap.size := rfl; omega)
  · obtain rfl:ats.length=i:=by omega
    rw [HAll.out]at hown
    have hnl:¬((ats.length:Int)<ats.length):=by omega
    have hinf:(Tryz.prog.info? 175).map (·.size)=some 3:=by kernel_rfl
    have hone:(#[N ats.length,N C,sv]:Array Value).all (·.oneCell')=true:=by
     obtain⟨va,vc,hv⟩:=hown.shape'
     subst hv
     rw [List.all_toArray]
     rfl
    have hneq:∀ q,sv.ownBlock=some q->g+2<=q:=fun q hq=>(hown.lt q hq).1
    have hset:Ow (wr.setRow (g+1) #[N ats.length,N C,sv]) (g+2) eB sv (pickL M C ats):=hown.chg (setRow_chg wr (g+1) _) fun q hq=>by have:=hneq q hq;show ¬q=g+1;omega
    have hfin:Fr w (wr.setRow (g+1) #[N ats.length,N C,sv]):=Chg.below hf (setRow_chg wr (g+1) _) hf.size (fun q hq=>by rw [hq];omega)
    have z0:=cell_setRow_same wr (g+1) 0 _ #[N ats.length,N C,sv] _ _ hB1
    have z1:=cell_setRow_same wr (g+1) 1 _ #[N ats.length,N C,sv] _ _ hB1
    have z2:=cell_setRow_same wr (g+1) 2 _ #[N ats.length,N C,sv] _ _ hB1
    clear HStep HAll HZ Hat HRow HSee HPL hB0 hown
    go_wp2_with (first | (refine wpList_load_row rfl 175 (.tmp 6) rfl q rfl 175 #[N ats.length,N C,sv] (0,0) _ hBq Tryz.underlying175 rfl hinf ?_) | (refine wpList_store_row rfl 175 (.tmp 4) (.tmp 46) rfl (g+1) #[N ats.length,N C,sv] rfl rfl 175 _ hB1 hinf rfl hone ?_))
    exact bodyPost_ret (v:=.tuple #[.agg #[N ats.length,N C,sv],.int .i64 0]) (by simp [results,Tryz.results183,go_sem, *]) rfl ⟨_,rfl,hset.rebase (by omega),hfin⟩
set_option maxRecDepth 512
def eO:Elt Tryz.prog Bool:=⟨4,1,1,false,.bool false,fun b=>[.bool b],by kernel_rfl,by decide,by decide,by simp [Value.cells],fun _=>rfl,by intro x u hu;simp at hu;subst hu;rfl⟩
def goodsTo(good:List Bool)(K n:Nat):List Nat:=((List.range n).filter fun i=>good.getD i false).take K
theorem goodsTo_yes(good:List Bool)(K i:Nat)(hi:i<good.length)(hg:good[i]=true)(hl:(goodsTo good K i).length<K):goodsTo good K (i+1)=goodsTo good K i++[i]:=by
 unfold goodsTo at *
 rw [List.range_succ,List.filter_append]
 generalize (List.range i).filter (fun i=>good.getD i false)=F at *
 rw [List.length_take]at hl
 have e:[i].filter (fun i=>good.getD i false)=[i]:=by
  rw [List.filter_cons,getD_at good i false hi,hg];rfl
 rw [e,List.take_append,List.take_of_length_le (by omega),List.take_of_length_le (by simp;omega)]
theorem goodsTo_no(good:List Bool)(K i:Nat)(hi:i<good.length)(hg:good[i]=false\/¬(goodsTo good K i).length<K):goodsTo good K (i+1)=goodsTo good K i:=by
 unfold goodsTo at *
 rw [List.range_succ,List.filter_append]
 generalize (List.range i).filter (fun i=>good.getD i false)=F at *
 rcases hg with hg | hg
 · have e:[i].filter (fun i=>good.getD i false)=[]:=by
     rw [List.filter_cons,getD_at good i false hi,hg];rfl
   rw [e,List.append_nil]
 · rw [List.length_take]at hg
   rw [List.take_append,show K - F.length=0 by omega,List.take_zero,List.append_nil]
def headsAt(ats:List Nat)(hs:List Hd):List Hd:=ats.map fun i=>hs.getD i ⟨none,0,0⟩
theorem headsAt_snoc(ats:List Nat)(hs:List Hd)(i:Nat)(h:i<hs.length):headsAt (ats++[i]) hs=headsAt ats hs++[hs[i]]:=by
 unfold headsAt
 rw [List.map_append,List.map_cons,List.map_nil,getD_at hs i _ h]
theorem goodsTo_le(good:List Bool)(K n:Nat):(goodsTo good K n).length<=n:=by
 unfold goodsTo
 rw [List.length_take]
 have:=List.length_filter_le (fun i=>good.getD i false) (List.range n)
 rw [List.length_range]at this
 omega
set_option maxRecDepth 100000
theorem first_any(K:Nat)(pv gv:Value)(hs:List Hd)(good:List Bool)(w:World)(hp:See w eHB pv hs)(hg:See w eO gv good)(hlen:good.length=hs.length)(hn:hs.length<=255) :
  Calls Tryz.prog 182 #[N K,pv,gv] w fun e w'=>∃ va vl,e=.returned (.tuple #[va,vl])/\Ow w' w.heap.size eJ va ((goodsL good).take K)/\Ow w' w.heap.size eHB vl (headsAt ((goodsL good).take K) hs)/\Fr w w':=by
 obtain⟨pa,pcap,hpv,_,_,_⟩:=hp.shape
 obtain⟨ga,gcap,hgv,_,_,_⟩:=hg.shape
 subst hpv hgv
 have HLen:=hid hlen
 clear hlen
 have HZ:Hid (goodsTo good K 0=[]):=by show _=_;simp [goodsTo]
 have HZ2:Hid (headsAt [] hs=[]):=rfl
 have HY:=hid (goodsTo_yes good K)
 have HNo:=hid (goodsTo_no good K)
 have HS:=hid (fun ats i h=>headsAt_snoc ats hs i h)
 have HE:Hid (goodsTo good K hs.length=(goodsL good).take K):=by show _=_;rw [<- HLen.out];rfl
 have HLe:=hid (goodsTo_le good K)
 go_enter Tryz.func182, Tryz.ntmps182
 go_wp2_with fail
 go_loopw [6,7,12] (fun av lv iv wr=>∃ (i:Nat) (A:List Nat),i<=hs.length/\iv=N i/\Hid (A=goodsTo good K i)/\Ow wr w.heap.size eJ av A/\Ow wr w.heap.size eHB lv (headsAt A hs)/\Fr w wr) (fun _ _ iv _=>hs.length - (intOf iv).toNat)
 case atStart=>exact⟨0,[],Nat.zero_le _,rfl,HZ.out.symm,Ow.nil,by rw [HZ2.out];exact Ow.nil,Fr.refl w⟩
 case round=>
  obtain⟨i,A,hi,rfl,HA,hoa,hol,hf⟩:=hrel
  by_cases hlt:i<hs.length
  · have hltg:i<good.length:=by have:=HLen.out;omega
    obtain⟨b1,off1,cp1,hv1,e1⟩:=(hp.fr hf).cell1 (fun(h:Hd)=>h.v) rfl i hlt
    obtain⟨b2,off2,cp2,hv2,e2⟩:=(hg.fr hf).cell1 (fun b=>Value.bool b) rfl i hltg
    have HSi:=hid (HS.out A i hlt)
    have HYi:=hid (HY.out i hltg)
    have HNi:=hid (HNo.out i hltg)
    have hAl:A.length<=255:=by rw [HA.out];have:=HLe.out i;omega
    cases hv1
    cases hv2
    generalize hs[i]=h at *
    obtain⟨gi,hgi⟩:∃ q,q=good[i]:=⟨_,rfl⟩
    rw [<- hgi]at HYi HNi e2
    clear hgi
    obtain⟨aa,ac,hav⟩:=hoa.shape'
    subst hav
    obtain⟨la,lc,hlv⟩:=hol.shape'
    have hHl:(headsAt A hs).length=A.length:=by simp [headsAt]
    rw [hHl]at hlv
    subst hlv
    have i1:(0:Int)<=i:=by omega
    have i2:(i:Int)<hs.length:=by omega
    have i3:(i:Int)<good.length:=by omega
    by_cases hyes:gi=true/\A.length<K
    · obtain⟨hg1,hg2⟩:=hyes
      subst hg1
      have hg3:(A.length:Int)<K:=by omega
      have hn9:=HYi.out rfl (by rw [<- HA.out];exact hg2)
      rw [<- HA.out]at hn9
      obtain⟨A2,hA2⟩:∃ q,q=A++[i]:=⟨_,rfl⟩
      rw [<- hA2]at hn9 HSi
      have HN9:=hid hn9
      have HA2:=hid hA2
      clear hn9 HYi HNi hA2
      go_wp2_with (at_builtin;refine wpList_app1 eJ rfl (.tmp 27) (.tmp 29) 30 rfl Tryz.underlying30 w.heap.size rfl hoa [i] _ _ _ rfl rfl rfl ?c1 hf.size ?_)
      case c1=>simp;omega
      intro v' w4 hap
      have own4:=hap.own
      rw [<- HA2.out]at own4
      have hol4:=own_app hol hoa hap (by decide)
      have hf4:Fr w w4:=hap.below hoa hf (Nat.le_refl _) hf.size
      obtain⟨va,vc,hv'⟩:=own4.shape'
      subst hv'
      clear hap hoa hol
      go_wp2_with (at_builtin;refine wpList_app1 eHB rfl (.tmp 31) (.tmp 33) 31 rfl Tryz.underlying31 w.heap.size rfl hol4 [h] _ _ _ rfl rfl rfl ?c1 hf4.size ?_)
      case c1=>rw [hHl];simp;omega
      intro v5 w5 hap
      have own5:=hap.own
      have hoa5:=own_app own4 hol4 hap (by decide)
      have hf5:Fr w w5:=hap.below hol4 hf4 (Nat.le_refl _) hf4.size
      rw [<- HSi.out]at own5
      clear hap own4 hol4
      go_wp2_with fail
      go_roundw
      case rel=>exact⟨i+1,_,by omega,by go_num,HN9.out.symm,hoa5,own5,hf5⟩
      case measure=>simp [intOf];omega
    · have hno:gi=false\/¬A.length<K:=by
        cases gi
        · exact .inl rfl
        · exact .inr fun h=>hyes ⟨rfl,h⟩
      have hn9:=HNi.out (by rw [<- HA.out];exact hno)
      rw [<- HA.out]at hn9
      have HN9:=hid hn9
      clear hn9 HYi HNi hyes
      by_cases hgf:gi=false
      · subst hgf
        go_wp2_with fail
        go_roundw
        case rel=>exact⟨i+1,_,by omega,by go_num,HN9.out.symm,hoa,hol,hf⟩
        case measure=>simp [intOf];omega
      · have hK:¬(A.length:Int)<K:=by rcases hno with h | h;exact absurd h hgf;omega
        have hgt:gi=true:=by cases gi;exact absurd rfl hgf;rfl
        subst hgt
        clear hno hgf
        go_wp2_with fail
        go_roundw
        case rel=>exact⟨i+1,_,by omega,by go_num,HN9.out.symm,hoa,hol,hf⟩
        case measure=>simp [intOf];omega
  · obtain rfl:hs.length=i:=by omega
    rw [HE.out]at HA
    have hnl:¬((hs.length:Int)<hs.length):=by omega
    obtain⟨aa,ac,hav⟩:=hoa.shape'
    obtain⟨la,lc,hlv⟩:=hol.shape'
    subst hav hlv
    go_wp2_with fail
    go_ret2
    exact⟨_,_,rfl,by rw [<- HA.out];exact hoa,by rw [<- HA.out];exact hol,hf⟩
set_option maxRecDepth 512
theorem goods_mem(good:List Bool):∀ r∈goodsL good,r<good.length/\good.getD r false=true:=fun r h=>⟨List.mem_range.1 (List.mem_filter.1 h).1,(List.mem_filter.1 h).2⟩
theorem goods_len(good:List Bool):(goodsL good).length<=good.length:=by
 have:=List.length_filter_le (fun i=>good.getD i false) (List.range good.length)
 rw [List.length_range]at this
 exact this
theorem goods_rise(good:List Bool)(k:Nat):Rising ((goodsL good).take k) good.length:=by
 have hp:((goodsL good).take k).Pairwise (·<·):=(List.pairwise_lt_range.filter _).take
 refine⟨fun r s h1 h2=>?_,fun r h=>(goods_mem good r (List.mem_of_mem_take h)).1⟩
 rw [getD_at _ _ _ (by omega),getD_at _ _ _ h2]
 exact List.pairwise_iff_getElem.1 hp r s (by omega) h2 h1
theorem atL_len(ats:List Nat)(ps:List (List UInt8)):(atL ats ps).length=ats.length:=by simp [atL]
theorem headsAt_len(ats:List Nat)(hs:List Hd):(headsAt ats hs).length=ats.length:=by simp [headsAt]
theorem atL_all(good:List Bool)(ps:List (List UInt8))(c:Nat)(ats:List Nat)(h:∀ r∈ats,r∈goodsL good)(hc:∀ r (h:r<ps.length),good.getD r false=true->ps[r].length=c)(hl:good.length=ps.length):∀ p∈atL ats ps,p.length=c:=by
 intro p hp
 obtain⟨r,hr,rfl⟩:=List.mem_map.1 hp
 obtain⟨h1,h2⟩:=goods_mem good r (h r hr)
 rw [getD_at ps r [] (by omega)]
 exact hc r (by omega) h2
theorem sees_at{w w':World}{pv lv:Value}{hs:List Hd}{ps:List (List UInt8)}{ats:List Nat}(h:Sees2 w eHB eB pv hs ps)(hl:See w' eHB lv (headsAt ats hs))(hf:Fr w w')(ha:∀ r∈ats,r<hs.length):Sees2 w' eHB eB lv (headsAt ats hs) (atL ats ps):=by
 refine⟨hl,by rw [atL_len,headsAt_len],fun i h1 h2=>?_⟩
 have hi:i<ats.length:=by rw [atL_len]at h2;exact h2
 have hr:=ha _ (List.getElem_mem hi)
 have hr2:ats[i]<ps.length:=by have:=h.2.1;omega
 have e1:(headsAt ats hs)[i]=hs[ats[i]]:=by simp only [headsAt,List.getElem_map];rw [getD_at hs _ _ hr]
 have e2:(atL ats ps)[i]=ps[ats[i]]:=by simp only [atL,List.getElem_map];rw [getD_at ps _ _ hr2]
 rw [e1,e2]
 exact(h.2.2 _ hr hr2).fr hf
section
variable {P:Program} {α β:Type} {E:Elt P α} {w w':World} {base:Nat} {ps:List Hd} {ls:List (List α)}
theorem _root_.Go.Fk.Owns.app{F:Elt P β}{b:Nat}{l l':List β}{v v':Value}(h:Owns w base E ps ls)(ho:Ow w b F v l)(ha:App b F l' w v v' w')(hT:F.e≠E.e):Owns w' base E ps ls:=⟨h.1,fun t h1 h2=>own_app (h.2 t h1 h2) ho ha hT⟩
theorem _root_.Go.Fk.Owns.snoc{x:Hd}{l:List α}(h:Owns w base E ps ls)(hx:Ow w base E x.v l):Owns w base E (ps++[x]) (ls++[l]):=by
 refine⟨by simp [h.1],fun t h1 h2=>?_⟩
 by_cases ht:t<ps.length
 · have ht2:t<ls.length:=by rw [<- h.1];exact ht
   simp only [List.getElem_append_left ht,List.getElem_append_left ht2]
   exact h.2 t ht ht2
 · have e1:t=ps.length:=by simp at h1;omega
   subst e1
   simp only [List.getElem_append_right (Nat.le_refl _),Nat.sub_self]
   have e2:ps.length=ls.length:=h.1
   simp only [e2,List.getElem_append_right (Nat.le_refl _),Nat.sub_self]
   exact hx
end
theorem rows_app{w:World}{v1 v2:Value}{h1 h2:List Hd}{l1 l2:List (List UInt8)}(s1:Sees2 w eHB eB v1 h1 l1)(s2:Sees2 w eHB eB v2 h2 l2):∀ i (ha:i<(h1++h2).length) (hb:i<(l1++l2).length),See w eB (h1++h2)[i].v (l1++l2)[i]:=by
 intro i ha hb
 have e:=s1.2.1
 by_cases hi:i<h1.length
 · simp only [List.getElem_append_left hi,List.getElem_append_left (show i<l1.length by omega)]
   exact s1.2.2 i hi (by omega)
 · simp only [List.getElem_append_right (show h1.length<=i by omega),List.getElem_append_right (show l1.length<=i by omega),e]
   rw [List.length_append]at ha hb
   exact s2.2.2 (i - l1.length) (by omega) (by omega)
theorem lit_seesH(w:World)(p1 p2:Hd)(h1 h2:List Hd)(s1:See w eHB p1.v h1)(s2:See w eHB p2.v h2) :
  Sees2 (w.alloc (.cells #[p1.v,p2.v] 31)) eHHB eHB (.slice (some ⟨w.heap.size,0,none⟩) 2 2) [p1,p2] [h1,h2]:=
 ⟨see_new eHHB w [p1, p2] _ _ 2 rfl rfl (by simp [maxLen]), rfl, fun i ha hb => by
  match i, ha with
  | 0, _ => exact s1.fr ((Fr.refl w).alloc _)
  | 1, _ => exact s2.fr ((Fr.refl w).alloc _)⟩
set_option maxRecDepth 100000
theorem Mend_no(k m c:Nat)(pv gv:Value)(hs:List Hd)(ps:List (List UInt8))(good:List Bool)(w:World)(hk:1<=k)(hkm:k+m<=255)(hp:Sees2 w eHB eB pv hs ps)(hg:See w eO gv good)(hpl:hs.length=k+m)(hgl:good.length=k+m)
  (hc:∀ r (h:r<ps.length),good.getD r false=true->ps[r].length=c) (hno:(goodsL good).length<k) :
  Calls Tryz.prog 124 #[N k,N m,pv,gv] w fun e w'=>e=.returned (.tuple #[.slice none 0 0,.int .i64 12])/\Fr w w':=by
 have hps:=hp.2.1
 have hGl:=goods_len good
 have htk:(goodsL good).take (k+m)=goodsL good:=List.take_of_length_le (by omega)
 have HM:=hid (rmay_any k m hk hkm)
 have HF1:=hid (fun W (h:Fr w W)=>first_any (k+m) pv gv hs good W (hp.1.fr h) (hg.fr h) (by omega) (by omega))
 rw [htk]at HF1
 have HA:=hid (fun W lv (hl:See W eHB lv (headsAt (goodsL good) hs)) (hf:Fr w W)=>alike_any lv (headsAt (goodsL good) hs) c W hl (alike_of (sees_at hp hl hf (fun r hr=>by have:=(goods_mem good r hr).1;omega)) (atL_all good ps c _ (fun r h=>h) hc (by omega))))
 have HL:=hid (headsAt_len (goodsL good) hs)
 obtain⟨pa,pcap,hpv,_,_,_⟩:=hp.1.shape
 obtain⟨ga,gcap,hgv,_,_,_⟩:=hg.shape
 obtain⟨n,hn⟩:∃ n,n=k+m:=⟨_,rfl⟩
 rw [hpl,<- hn]at hpv
 rw [hgl,<- hn]at hgv
 rw [<- hn]at HF1
 subst hpv hgv
 have hw:IntKind.i64.wrap ((k:Int)+m)=(n:Int):=by rw [show(k:Int)+m=(n:Int) by omega];exact wrap_i64 _ (by omega)
 clear hp hg hpl hgl hc hps hGl htk hn
 generalize goodsL good=G at *
 generalize headsAt G hs=HG at *
 have hlt:(G.length:Int)<k:=by omega
 go_enter Tryz.func124, Tryz.ntmps124
 go_wp2_with fail
 refine(HM.out _).mono ?_
 rintro e w1 ⟨rfl,rfl⟩
 go_wp2_with fail
 refine(HF1.out _ (Fr.refl w)).mono ?_
 rintro e w2 ⟨va,vl,rfl,hoa,hol,hf⟩
 obtain⟨la,lc,hlv⟩:=hol.shape'
 rw [HL.out]at hlv
 subst hlv
 have HA2:=hid (HA.out w2 _ hol.see hf)
 clear hoa hol
 go_wp2_with fail
 refine(HA2.out).mono ?_
 rintro e w3 ⟨rfl,rfl⟩
 go_wp2_with fail
 go_ret2
 exact⟨rfl,hf⟩
theorem Mend_ok(k m c:Nat)(pv gv:Value)(hs:List Hd)(ps:List (List UInt8))(good:List Bool)(w:World)(hk:1<=k)(hkm:k+m<=255)(hc6:c<=4096)(hp:Sees2 w eHB eB pv hs ps)(hg:See w eO gv good)(hpl:hs.length=k+m)(hgl:good.length=k+m)
  (hc:∀ r (h:r<ps.length),good.getD r false=true->ps[r].length=c) (hyes:k<=(goodsL good).length) :
  Calls Tryz.prog 124 #[N k,N m,pv,gv] w fun e w'=>∃ v,e=.returned (.tuple #[v,.int .i64 0])/\∃ xs,Ow w' w.heap.size eHB v xs/\Owns w' w.heap.size eB xs (nowL k m c ((goodsL good).take k) (atL ((goodsL good).take k) ps))/\Fr w w':=by
 have hps:=hp.2.1
 have hGl:=goods_len good
 have htk:(goodsL good).take (k+m)=goodsL good:=List.take_of_length_le (by omega)
 have HM:=hid (rmay_any k m hk hkm)
 have HF1:=hid (fun W (h:Fr w W)=>first_any (k+m) pv gv hs good W (hp.1.fr h) (hg.fr h) (by omega) (by omega))
 have HF2:=hid (fun W (h:Fr w W)=>first_any k pv gv hs good W (hp.1.fr h) (hg.fr h) (by omega) (by omega))
 rw [htk]at HF1
 have HA:=hid (fun W lv (hl:See W eHB lv (headsAt (goodsL good) hs)) (hf:Fr w W)=>alike_any lv (headsAt (goodsL good) hs) c W hl (alike_of (sees_at hp hl hf (fun r hr=>by have:=(goods_mem good r hr).1;omega)) (atL_all good ps c _ (fun r h=>h) hc (by omega))))
 have HL:=hid (headsAt_len (goodsL good) hs)
 have hRise:=goods_rise good k
 rw [hgl]at hRise
 have hatl:((goodsL good).take k).length=k:=by rw [List.length_take];omega
 have HSA:=hid (fun W lv (hl:See W eHB lv (headsAt ((goodsL good).take k) hs)) (hf:Fr w W)=>sees_at hp hl hf (fun r hr=>by have:=(goods_mem good r (List.mem_of_mem_take hr)).1;omega))
 have hall:=atL_all good ps c ((goodsL good).take k) (fun r h=>List.mem_of_mem_take h) hc (by omega)
 have hallen:(atL ((goodsL good).take k) ps).length=k:=by rw [atL_len,hatl]
 obtain⟨pa,pcap,hpv,_,_,_⟩:=hp.1.shape
 obtain⟨ga,gcap,hgv,_,_,_⟩:=hg.shape
 obtain⟨n,hn⟩:∃ n,n=k+m:=⟨_,rfl⟩
 rw [hpl,<- hn]at hpv
 rw [hgl,<- hn]at hgv
 rw [<- hn]at HF1
 have hle:k<=(goodsL good).length:=hyes
 subst hpv hgv
 have hw:IntKind.i64.wrap ((k:Int)+m)=(n:Int):=by rw [show(k:Int)+m=(n:Int) by omega];exact wrap_i64 _ (by omega)
 clear hp hg hpl hgl hc hps hGl htk
 generalize (goodsL good).take k=ats at *
 generalize goodsL good=G at *
 generalize atL ats ps=ds at *
 generalize headsAt G hs=HG at *
 have hnl:¬(G.length:Int)<k:=by omega
 have HId:=hid (fun he=>data_id k m c ats ds hatl hallen hRise hall he)
 have hDall:=data_all k m c ats ds hallen hall
 have hDlen:=data_len k m c ats ds
 have hNall:=nowL_all k m c ats ds hallen hall
 have hNlen:=nowL_len k m c ats ds
 have HNow:Hid (nowL k m c ats ds=dataL k m c ats ds++parL m (dataL k m c ats ds) c):=rfl
 have HPar:=hid (fun W dv hs (hd:Sees2 W eHB eB dv hs (dataL k m c ats ds))=>Parity_any m dv hs (dataL k m c ats ds) c W hd (by omega) (by omega) hDall (by omega))
 have HW:=hid (whole_any k m hk hkm)
 have HPk:=hid (fun W mv rv base (ho:Ow W base eB mv (wholeL k m)) (hr:See W eJ rv ats)=>Pick_any (k+m) k (wholeL k m) ats mv rv base W ho (preL_len _ _ _) hr hRise.2 hk (by omega) (by omega) hkm (by omega))
 have hpkl:(pickL (wholeL k m) k ats).length=k*k:=by rw [pickL_len (wholeL k m) (k+m) k (preL_len _ _ _) ats hRise.2,hatl]
 have HInv:=hid (fun W v (hs:See W eB v (pickL (wholeL k m) k ats))=>Inverse_any k _ v W hs hpkl hk (by omega) (pick_goes k m hkm ats hatl hRise))
 have HT:=hid (fun W mv dv hs (hM:See W eB mv (invL (pickL (wholeL k m) k ats) k)) (hd:Sees2 W eHB eB dv hs ds)=>times_any _ k mv dv hs ds c W hM hd (by omega) (by omega) (by omega) (by rw [hallen];exact preL_len _ _ _) hall (by omega))
 have hDd:timesL (invL (pickL (wholeL k m) k ats) k) ds.length k ds c=dataL k m c ats ds:=by unfold dataL;rw [hallen]
 rw [hDd]at HT
 rw [hallen]at HT
 rw [hatl]at HPk
 rw [<- hn]at HPk HW
 have hatk:ats.getD (k - 1) 0=k - 1->∀ r,r<k->ats.getD r 0=r:=by
  intro h r hr
  exact rising_all ats _ hRise (by omega) (by rw [hatl];exact h) r (by omega)
 have Hatk:=hid hatk
 have HAl:=hid hatl
 have HDl:=hid hallen
 have hnb:n<=1000000000:=by omega
 have hn255:n<=255:=by omega
 rw [<- hn]at hNlen
 clear hDd hpkl hRise hall hallen hatl hn hatk
 generalize nowL k m c ats ds=Now at *
 generalize dataL k m c ats ds=D at *
 generalize invL (pickL (wholeL k m) k ats) k=IV at *
 generalize pickL (wholeL k m) k ats=PK at *
 generalize wholeL k m=WL at *
 generalize parL m D c=PR at *
 go_enter Tryz.func124, Tryz.ntmps124
 go_wp2_with fail
 refine(HM.out _).mono ?_
 rintro e w1 ⟨rfl,rfl⟩
 go_wp2_with fail
 refine(HF1.out _ (Fr.refl w)).mono ?_
 rintro e w2 ⟨va,vl,rfl,hoa,hol,hf⟩
 obtain⟨la,lc,hlv⟩:=hol.shape'
 rw [HL.out]at hlv
 subst hlv
 have HA2:=hid (HA.out w2 _ hol.see hf)
 clear hoa hol HF1 HM
 go_wp2_with fail
 refine(HA2.out).mono ?_
 rintro e w3 ⟨rfl,rfl⟩
 go_wp2_with fail
 refine(HF2.out _ hf).mono ?_
 rintro e w3 ⟨va3,vl3,rfl,hoa3,hol3,hf3⟩
 have hf03:=hf.trans hf3
 have hse:=HSA.out w3 vl3 hol3.see hf03
 obtain⟨la3,lc3,hlv3⟩:=hol3.shape'
 rw [hse.2.1,HDl.out]at hlv3
 obtain⟨aa3,ac3,hav3⟩:=hoa3.shape'
 rw [HAl.out]at hav3
 subst hlv3 hav3
 have hkk:k - 1<ats.length:=by rw [HAl.out];omega
 obtain⟨b1,off1,cp1,hv1,e1⟩:=hoa3.see.cell1 (fun n=>N n) rfl (k - 1) hkk
 simp only [Value.slice.injEq]at hv1
 obtain⟨rfl,hk9,rfl⟩:=hv1
 clear hk9
 rw [<- getD_at ats (k - 1) 0 hkk]at e1
 have hseA:=hoa3.see
 obtain⟨k1,hk1⟩:∃ q,q=k - 1:=⟨_,rfl⟩
 rw [<- hk1]at e1 Hatk
 have hw1:IntKind.i64.wrap ((k:Int) - 1)=(k1:Int):=by rw [show(k:Int) - 1=(k1:Int) by omega];exact wrap_i64 _ (by omega)
 have i1:(0:Int)<=k1:=by omega
 have i2:(k1:Int)<k:=by omega
 clear HF2 HA HA2 HSA hkk hk1 hf3 hf
 generalize ats.getD k1 0=ak at *
 generalize headsAt ats hs=HH at *
 go_upto_if 75 with fail
 go_cut [14]from 15 to 92 (fun dv wx=>∃ hd,Sees2 wx eHB eB dv hd D/\Fr w wx)
 case first=>
  by_cases hak:ak=k1
  · subst hak
    have hDe:=HId.out (Hatk.out rfl)
    go_wp2_with fail
    go_meet
    exact⟨_,by rw [hDe];exact hse,hf03⟩
  · have hak':¬(ak:Int)=k1:=by omega
    clear HId Hatk
    go_wp2_with fail
    refine(HW.out _).mono ?_
    rintro e w4 ⟨u4,rfl,ho4,hf4⟩
    have HPk4:=hid (HPk.out w4 u4 _ _ ho4 (hseA.fr hf4))
    obtain⟨a4,c4,hv4⟩:=ho4.shape'
    subst hv4
    clear HPk
    go_wp2_with fail
    refine(HPk4.out).mono ?_
    rintro e w5 ⟨u5,rfl,ho5,hf5⟩
    obtain⟨a5,c5,hv5⟩:=ho5.shape'
    subst hv5
    have hfA:Fr w5 (w5.alloc (.cells #[N k,N k,.slice a5 PK.length c5] 175)):=(Fr.refl w5).alloc _
    have HInv5:=hid (HInv.out _ _ (ho5.fr hfA).see)
    have hf35:=hf4.trans hf5
    clear HPk4 HInv ho4
    go_wp2_with fail
    refine(HInv5.out).mono ?_
    rintro e w6 ⟨u6,rfl,ho6,hf6⟩
    obtain⟨a6,c6,hv6⟩:=ho6.shape'
    subst hv6
    have hfB:Fr w6 (w6.alloc (.cells #[N k,N k,.slice a6 IV.length c6] 175)):=(Fr.refl w6).alloc _
    have hf37:=((hf35.trans hfA).trans hf6).trans hfB
    have HT7:=hid (HT.out _ _ _ _ (ho6.fr hfB).see (hse.fr hf37))
    clear HInv5 HT
    go_wp2_with fail
    refine(HT7.out).mono ?_
    rintro e w8 ⟨u8,rfl,xs8,ho8,hos8,hf8⟩
    go_wp2_with fail
    go_meet
    exact⟨xs8,hos8.sees2 ho8.see,(hf03.trans hf37).trans hf8⟩
 case rest=>
  obtain⟨hd,hDs,hfc⟩:=hcut
  clear HId Hatk HW HPk HInv HT hse hseA hoa3 hol3 hf03 HL e1
  obtain⟨da,dcap,hdv,_,_,_⟩:=hDs.1.shape
  have hhd:hd.length=k:=by rw [hDs.2.1,hDlen]
  rw [hhd]at hdv
  subst hdv
  have HHd:=hid hhd
  have HDl2:=hid hDlen
  have HNl:=hid hNlen
  clear hhd hDlen hNlen
  have HP4:=hid (HPar.out wc _ _ hDs)
  clear HPar
  go_wp2_with fail
  refine(HP4.out).mono ?_
  rintro e w4 ⟨v4,rfl,xs4,ho4,hos4,hf4⟩
  have hs4:=hos4.sees2 ho4.see
  obtain⟨ma,mcap,hmv⟩:=ho4.shape'
  subst hmv
  have hf04:=hfc.trans hf4
  have hD4:=hDs.fr hf4
  clear HP4 hDs ho4 hos4 hf4 hfc
  go_upto_region 16 with(at_make;refine wpList_make0 eHB rfl (.const (.int .i64 0)) (.tmp 100) 31 rfl Tryz.underlying31 .i64 .i64 _ n rfl rfl rfl hnb w4.heap.size (Nat.le_refl _) ?_)
  intro w5 hown5 hgr5
  have hf45:Fr w4 w5:=(grown_chg hgr5).fr (fun k hk e=>by cases e)
  have hRow:=rows_app hD4 hs4
  rw [<- HNow.out]at hRow
  have hD5:=hD4.fr hf45
  have hs5:=hs4.fr hf45
  have hfL:Fr w5 (w5.alloc (.cells #[.slice da k dcap,.slice ma xs4.length mcap] 31)):=(Fr.refl w5).alloc _
  have hLit:=lit_seesH w5 ⟨da,k,dcap⟩ ⟨ma,xs4.length,mcap⟩ hd xs4 hD5.1 hs5.1
  have hlen4:=hs4.2.1
  have HC := hid (HConcat_any _ _ _ _ hLit (by
   have h1 := HHd.out
   have h2 := HNl.out
   have h3 := HDl2.out
   rw [HNow.out, List.length_append] at h2
   simp
   omega))
  have HLx:=hid hlen4
  clear hlen4 hLit
  have hLL:(hd++xs4).length=Now.length:=by rw [HNow.out,List.length_append,List.length_append,hD4.2.1,hs4.2.1]
  have hf6:=hf45.trans hfL
  have ho6:=hown5.fr hfL
  clear hD5 hs5 hfL hown5 hD4 hs4 hgr5 hf45
  go_wp2_with fail
  refine(HC.out).mono ?_
  rintro e w7 ⟨v7,rfl,hc7,hf7⟩
  simp only [List.flatten_cons,List.flatten_nil,List.append_nil]at hc7
  have hap7:=apart_of ho6 hc7 (Nat.le_refl _)
  have ho7:=ho6.fr hf7
  have hf47:=hf6.trans hf7
  generalize (w5.alloc (.cells #[.slice da k dcap,.slice ma xs4.length mcap] 31)).heap.size=b7 at *
  have hALl:(hd++xs4).length=n:=by rw [hLL];exact HNl.out
  have HALl:=hid hALl
  clear hLL
  generalize hd++xs4=AL at *
  obtain⟨a7,c7,hv7⟩:=hc7.shape'
  rw [hALl]at hv7
  subst hv7
  clear hALl HC ho6 hf7 HLx HHd HDl2 HNow hDall
  have HZ:Hid (Now.take 0=[]):=rfl
  have HS04:=hid hf04.size
  go_wp2_with fail
  go_loopw [21,107] (fun ov iv wr=>∃ (i:Nat) (xs:List Hd),i<=n/\iv=N i/\Ow wr w4.heap.size eHB ov xs/\Owns wr w.heap.size eB xs (Now.take i)/\xs.length=i/\Fr w4 wr/\Ow wr b7 eHB (.slice a7 n c7) AL/\((Value.slice a7 n c7).ownBlock=none\/(Value.slice a7 n c7).ownBlock≠ov.ownBlock)) (fun _ iv _=>n - (intOf iv).toNat)
  case atStart=>exact⟨0,[],Nat.zero_le _,rfl,ho7,⟨rfl,fun t h=>by simp at h⟩,rfl,hf47,hc7,hap7⟩
  case round=>
   clear ho7 hf47 hc7 hap7
   obtain⟨i,xs,hi,rfl,hO,hOs,hxl,hf,hA,hne⟩:=hrel
   by_cases hlt:i<n
   · have hltA:i<AL.length:=by have:=HALl.out;omega
     have hltN:i<Now.length:=by have:=HNl.out;omega
     obtain⟨b9,off9,cp9,hv9,e9⟩:=hA.see.cell1 (fun(h:Hd)=>h.v) rfl i hltA
     have hrow:=(hRow i hltA hltN).fr hf
     have hrl:=hNall _ (List.getElem_mem hltN)
     have HCl:=hid (BClone_any _ _ wr hrow (by omega))
     have HTk:Hid (Now.take (i+1)=Now.take i++[Now[i]]):=by show _=_;rw [List.take_add_one,List.getElem?_eq_getElem hltN];rfl
     simp only [Value.slice.injEq]at hv9
     obtain⟨rfl,hk9,rfl⟩:=hv9
     clear hk9 hrow hrl
     generalize AL[i]=h9 at *
     generalize Now[i]=row at *
     obtain⟨oa,oc,hov⟩:=hO.shape'
     have HXl:=hid hxl
     rw [hxl]at hov
     subst hov
     clear hxl
     have i1:(0:Int)<=i:=by omega
     have i2:(i:Int)<n:=by omega
     have hw8:w.heap.size<=wr.heap.size:=by have h1:=HS04.out;have h2:=hf.size;omega
     go_wp2_with fail
     refine(HCl.out).mono ?_
     rintro e w8 ⟨v8,rfl,hO8,hf8⟩
     obtain⟨va8,vc8,hv8⟩:=hO8.shape'
     subst hv8
     have hO9:=hO.fr hf8
     have hOs9:=hOs.fr hf8
     have hA9:=hA.fr hf8
     have hf9:=hf.trans hf8
     go_wp2_with (at_builtin;refine wpList_app1 eHB rfl (.tmp 111) (.tmp 114) 31 rfl Tryz.underlying31 w4.heap.size rfl hO9 [⟨va8,row.length,vc8⟩] _ _ _ rfl rfl rfl ?c1 hf9.size ?_)
     case c1=>rw [HXl.out];simp;omega
     intro v' w10 hap
     obtain⟨X2,hX2⟩:∃ q,q=xs++[(⟨va8,row.length,vc8⟩:Hd)]:=⟨_,rfl⟩
     have own10:=hap.own
     rw [<- hX2]at own10
     have hOs10:=(hOs9.app hO9 hap (by decide)).snoc (x:=⟨va8,row.length,vc8⟩) (own_app (hO8.rebase hw8) hO9 hap (by decide))
     rw [<- hX2,<- HTk.out]at hOs10
     have hX2l:X2.length=i+1:=by rw [hX2,List.length_append,HXl.out];rfl
     have hf10:Fr w4 w10:=hap.below hO9 hf9 (Nat.le_refl _) hf9.size
     have hA10:=hap.other hA9 hne
     have hne10:=hap.apart hA9 hne
     obtain⟨va10,vc10,hv10⟩:=own10.shape'
     have HX2l:=hid hX2l
     rw [hX2l]at hv10
     subst hv10
     clear hX2 hap hO9 hOs9 hX2l
     go_wp2_with fail
     go_roundw
     case rel=>exact⟨i+1,X2,by omega,by go_num,own10,hOs10,HX2l.out,hf10,hA10,hne10⟩
     case measure=>simp [intOf];omega
   · obtain rfl:n=i:=by omega
     rw [List.take_of_length_le (by rw [HNl.out];exact Nat.le_refl _)]at hOs
     have hnl:¬((n:Int)<n):=by omega
     obtain⟨oa,oc,hov⟩:=hO.shape'
     rw [hxl]at hov
     subst hov
     clear hxl
     go_wp2_with fail
     go_ret2
     exact⟨_,rfl,xs,hO.rebase HS04.out,hOs,hf04.trans hf⟩
set_option maxRecDepth 512
end Go.Proofs.YtijghcbpfcjjnaaGreatDoor
