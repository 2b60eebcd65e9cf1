/- Parts of the proof of ArchOne: M1 M2 M3 R2 R3. -/
import Derived.Test.YtdagmoonnbnceaaGreatDoorM18
import Derived.Test.YtdagmoonnbnceaaGreatDoorM13
import Derived.Test.YtdagmoonnbnceaaGreatDoorM04
set_option linter.unusedVariables false
set_option linter.unusedSectionVars false
set_option linter.unusedSimpArgs false
set_option maxHeartbeats 8000000
set_option maxRecDepth 100000
namespace Go.Proofs.YtdagmoonnbnceaaGreatDoor
open Go.RowKit Go.Fk
def inv1(a:Nat):Nat:=if a=0 then 0 else invN a
def cauC(k i j:Nat):UInt8:=UInt8.ofNat (inv1 ((k+i) ^^^ j))
def cauRow(k i n:Nat):List UInt8:=(List.range n).map (cauC k i)
def cauPre(k i j:Nat):List UInt8:=((List.range i).map fun i=>cauRow k i k).flatten++cauRow k i j
theorem cauPre_step(k i j:Nat):cauPre k i (j+1)=cauPre k i j++[cauC k i j]:=by
 unfold cauPre cauRow;rw [List.range_succ,List.map_append,List.append_assoc];rfl
theorem cauPre_next(k i:Nat):cauPre k (i+1) 0=cauPre k i k:=by
 unfold cauPre
 rw [List.range_succ,List.map_append,List.flatten_append]
 simp [cauRow]
theorem cauPre_zero(k:Nat):cauPre k 0 0=[]:=by simp [cauPre,cauRow]
theorem cauPre_len(k i j:Nat):(cauPre k i j).length=i*k+j:=by
 unfold cauPre cauRow
 rw [List.length_append,List.length_map,List.length_range,List.length_flatten,List.map_map]
 have:∀ n,((List.range n).map (List.length ∘ fun i=>(List.range k).map (cauC k i))).sum=n*k:=by
  intro n
  induction n with
  | zero=>simp
  | succ n ih=>rw [List.range_succ,List.map_append,List.sum_append,ih];simp [Nat.succ_mul]
 rw [this]
def cauV(k m:Nat)(v:Value):Value:=.agg #[N m,N k,v]
theorem inv_tuple(a:Nat):∃ e:Int,invV a=.tuple #[B8 (inv1 a),.int .i64 e]:=by
 unfold invV inv1
 split
 · exact⟨13,rfl⟩
 · exact⟨0,rfl⟩
theorem inv1_lt(a:Nat)(h:a<256):inv1 a<256:=by
 unfold inv1
 split
 · omega
 · exact(inv_facts a (by assumption) h).1
theorem within_any(n:Nat)(h:n<=255)(w:World):Calls Tryz.prog 130 #[N n] w fun e w'=>e=.returned (.bool true)/\w=w':=by
 have h1:(0:Int)<=n:=by omega
 have h2:(n:Int)<=255:=by omega
 go_enter Tryz.func130, Tryz.ntmps130
 go_wp2_with fail
 go_ret
 exact⟨rfl,rfl⟩
theorem cell_any (k i j B : Nat) (hk : k + i ≤ 255) (hj : j ≤ 255) (w : World) (hB : w.cell? ⟨B, 0, none⟩ = some (N k)) :
    Calls Tryz.prog 132 #[N i,N j,.pointer (some ⟨B,0,none⟩)] w fun e w'=>e=.returned (Fk.u8 (cauC k i j))/\w=w':=by
  have hxl:(k+i) ^^^ j<2 ^ 8:=Nat.xor_lt_two_pow (by omega) (by omega)
  have hx:bits .xor .i64 ((k:Int)+i) (j:Int)=(((k+i) ^^^ j:Nat):Int):=by
    rw [show(k:Int)+i=((k+i:Nat):Int) by omega];exact xor_i64 (k+i) j (by omega) (by omega)
  have HI:=hid (Inv_any ((k+i) ^^^ j) hxl)
  obtain⟨er,hiv⟩:=inv_tuple ((k+i) ^^^ j)
  rw [hiv]at HI
  have HE:Hid (B8 (inv1 ((k+i) ^^^ j))=Fk.u8 (cauC k i j)):=byte_val _ (inv1_lt _ hxl)
  clear hiv
  generalize (k+i) ^^^ j=x at *
  generalize inv1 x=y at *
  have hw8:(x:Int) % 256=x:=by omega
  go_enter Tryz.func132, Tryz.ntmps132
  go_wp2_with fail
  refine(HI.out _).mono ?_
  rintro e w1 ⟨rfl,rfl⟩
  go_wp2_with fail
  go_ret
  exact⟨congrArg Ending.returned HE.out,rfl⟩
theorem made_any(k m B:Nat)(hk:1<=k)(hkm:k+m<=255)(w:World)(hB:w.cell? ⟨B,0,none⟩=some (N k)) :
  Calls Tryz.prog 131 #[N m,N k,.func (.func 132) #[] #[.pointer (some ⟨B,0,none⟩)]] w fun e w'=>∃ v,e=.returned (cauV k m v)/\Ow w' w.heap.size eB v (cauPre k m 0)/\Fr w w':=by
 have hmul:IntKind.i64.wrap ((m:Int)*k)=((m*k:Nat):Int):=by
  have:m*k<=255*255:=Nat.mul_le_mul (by omega) (by omega)
  rw [show(m:Int)*k=((m*k:Nat):Int) by simp]
  exact wrap_i64 _ (by omega)
 go_enter Tryz.func131, Tryz.ntmps131
 have hmk2:m*k<=1000000000:=by
  have:m*k<=255*255:=Nat.mul_le_mul (by omega) (by omega)
  omega
 have hmc:(m:Int)*k=((m*k:Nat):Int):=by simp
 have HMC:=hid hmc
 clear hmc hmul
 go_upto_region 3 with(at_make;refine wpList_make0 eB rfl (.const (.int .i64 0)) (.tmp 14) 27 rfl Tryz.underlying27 .i64 .i64 _ (m*k) rfl rfl HMC.out hmk2 (w.heap.size+1) (by simp) ?_)
 intro w1 hown hgr
 have hf1:Fr w w1:=Chg.below ((Fr.refl w).alloc _) (grown_chg hgr) (by simp) (fun q hq=>by cases hq)
 have h0:w1.heap[w.heap.size]? = some (.cells #[.int .i64 0,.int .i64 0,.slice none 0 0] 149 (0,0)):=(grown_chg hgr).heap (heap_new _ _ _ rfl) (by intro q;cases q)
 have hlt1:=hown.lt (w.heap.size+1) (by simp [Value.ownBlock])
 have hsz1:w.heap.size+2<=w1.heap.size:=by omega
 have hb0:(w1.alloc (.cells #[N m,N k,.slice (some ⟨w.heap.size+1,0,none⟩) 0 (m*k)] 149)).heap[w.heap.size]? = some (.cells #[.int .i64 0,.int .i64 0,.slice none 0 0] 149 (0,0)):=by rw [heap_old _ _ _ (by omega)];exact h0
 have hb1:(w1.alloc (.cells #[N m,N k,.slice (some ⟨w.heap.size+1,0,none⟩) 0 (m*k)] 149)).heap[w1.heap.size]? = some (.cells #[N m,N k,.slice (some ⟨w.heap.size+1,0,none⟩) 0 (m*k)] 149 (0,0)):=heap_new _ _ _ rfl
 have hrr:w1.heap.size<(w1.alloc (.cells #[N m,N k,.slice (some ⟨w.heap.size+1,0,none⟩) 0 (m*k)] 149)).heap.size:=by simp
 have hf2:Fr w (w1.alloc (.cells #[N m,N k,.slice (some ⟨w.heap.size+1,0,none⟩) 0 (m*k)] 149)):=hf1.alloc _
 have hown2:=hown.fr ((Fr.refl w1).alloc (.cells #[N m,N k,.slice (some ⟨w.heap.size+1,0,none⟩) 0 (m*k)] 149))
 have hne0:(Value.slice (some ⟨w.heap.size+1,0,none⟩) 0 (m*k)).ownBlock≠some w1.heap.size:=by simp [Value.ownBlock];omega
 go_upto_region 3 with fail
 generalize w1.alloc (.cells #[N m,N k,.slice (some ⟨w.heap.size+1,0,none⟩) 0 (m*k)] 149)=w0 at *
 generalize hsv:Value.slice (some ⟨w.heap.size+1,0,none⟩) 0 (m*k)=sv0 at *
 generalize w1.heap.size=r at *
 have hgr2:w.heap.size<r:=by omega
 clear hsz1 hlt1 h0 hf1 hgr hown hsv hmk2 HMC
 have hBw:=hB
 generalize hg:w.heap.size=g at *
 have hfB:Below g w w0:=by rw [<- hg];exact hf2
 clear hf2
 go_loopw [18] (fun iv wr=>∃ (i:Nat) (sv:Value),i<=m/\iv=N i/\wr.heap[g]? = some (.cells #[.int .i64 0,.int .i64 0,.slice none 0 0] 149 (0,0))/\wr.heap[r]? = some (.cells #[N m,N k,sv] 149 (0,0))/\Ow wr (g+1) eB sv (cauPre k i 0)/\sv.ownBlock≠some r/\Below g w wr/\r<wr.heap.size) (fun iv _=>m - (intOf iv).toNat)
 case atStart=>exact⟨0,sv0,Nat.zero_le _,rfl,hb0,hb1,by rw [cauPre_zero];exact hown2,hne0,hfB,hrr⟩
 case round=>
  clear hb0 hb1 hown2 hne0 hfB hrr
  obtain⟨i,sv,hi,rfl,h0,h1,hown,hne,hf,hs⟩:=hrel
  by_cases hlt:i<m
  · have hlt':(i:Int)<m:=by omega
    go_wp2_with fail
    go_loopw [22] (fun jv wr=>∃ (j:Nat) (sv:Value),j<=k/\jv=N j/\wr.heap[g]? = some (.cells #[.int .i64 0,.int .i64 0,.slice none 0 0] 149 (0,0))/\wr.heap[r]? = some (.cells #[N m,N k,sv] 149 (0,0))/\Ow wr (g+1) eB sv (cauPre k i j)/\sv.ownBlock≠some r/\Below g w wr/\r<wr.heap.size) (fun jv _=>k - (intOf jv).toNat)
    case atStart=>exact⟨0,sv,Nat.zero_le _,rfl,h0,h1,hown,hne,hf,hs⟩
    case round=>
     clear h0 h1 hown hne hf hs
     obtain⟨j,sv,hj,rfl,h0,h1,hown,hne,hf,hs⟩:=hrel
     by_cases hjl:j<k
     · have hjl':(j:Int)<k:=by omega
       have HS:Hid (cauPre k i (j+1)=cauPre k i j++[cauC k i j]):=cauPre_step k i j
       have hlen:=cauPre_len k i j
       have hik:i*k<=255*255:=Nat.mul_le_mul (by omega) (by omega)
       have HC1:Hid ((cauPre k i j).length+1<=2147483648):=by show _<=_;omega
       have HI:Hid (∀ W,Fr wr W->Calls Tryz.prog 132 #[N i,N j,.pointer (some ⟨B,0,none⟩)] W fun e w'=>e=.returned (Fk.u8 (cauC k i j))/\W=w'):=fun W hW=>by
        refine cell_any k i j B (by omega) (by omega) W (hW.cell ?_)
        exact(Below.cell hf (by rw [<- hg];exact World.block_lt_of_cell? w _ hBw)).trans hBw
       clear hlen hik
       generalize cauC k i j=c at *
       have e2:=cellx h1 2 rfl
       have HSZ:Hid (g+1<=wr.drew.heap.size):=by show _<=_;have:wr.drew.heap.size=wr.heap.size:=rfl;omega
       have hownD:=hown.drew
       have hneq:∀ q,sv.ownBlock=some q->g+1<=q:=fun q hq=>(hown.lt q hq).1
       have hkj:(j:Int)+1<=255:=by omega
       clear hBw hB hlt hjl hlt' hown hk
       go_upto_region 8 with fail
       go_region_law (first
        | (refine step_app1 eB rfl (.tmp 26) (.tmp 31) 27 rfl Tryz.underlying27 (g + 1) rfl hownD [c] _ _ _ rfl rfl rfl HC1.out HSZ.out ?_
           intro v' w4 hap
           have own4 := hap.own
           obtain ⟨va, vc, hv'⟩ := own4.shape'
           rw [← HS.out] at hv'
           subst hv'
           have k0 := hap.chg'.heap (show wr.drew.heap[g]? = _ from h0) (fun e => by have := hneq g e; omega)
           have k1 := hap.chg'.heap (show wr.drew.heap[r]? = _ from h1) hne
           have hf4 : Below g w w4 := hap.below hownD (Below.drew hf) (by omega) (by have := HSZ.out; omega)
           have hs4 := hap.size
           have hn4 := hap.fresh
           have e3 := cellx k1 2 rfl
           have e4 : w4.frozen? ⟨r, 2, none⟩ = false := frozen_of_heap k1 2)
        | (go_simp; go_at_call 132; refine (HI.out _ (Fr.drew (Fr.refl _))).mono ?_; rintro e w3 ⟨rfl, rfl⟩))
       all_goals clear HI e2 hownD
       all_goals go_wp2_with fail
       all_goals go_roundw
       all_goals first
        | (refine ⟨j + 1, .slice va (cauPre k i (j + 1)).length vc, by omega, by go_num, ?_, ?_, ?_, ?_, ?_, ?_⟩
           · rw [Below.heap_setCell _ _ _ _ (by simp; omega)]; exact k0
           · exact heap_setCell_own k1 2 _
           · rw [← HS.out] at own4
             exact own4.chg (setCell_chg w4 ⟨r, 2, none⟩ _) fun q hq e => by
              have e : q = r := e
              subst e
              rcases hn4 _ hq with h | h
              · exact hne h
              · have : wr.drew.heap.size = wr.heap.size := rfl
                omega
           · intro hq
             rcases hn4 _ hq with h | h
             · exact hne h
             · have : wr.drew.heap.size = wr.heap.size := rfl
               omega
           · exact set_below hf4 (by omega) (by have : wr.drew.heap.size = wr.heap.size := rfl; omega)
           · have : wr.drew.heap.size = wr.heap.size := rfl
             simp [World.setCell]; omega)
        | (simp [intOf];omega)
     · obtain rfl:j=k:=by omega
       have hnl:¬((j:Int)<j):=by omega
       rw [<- cauPre_next]at hown
       go_wp2_with fail
       go_roundw
       case rel=>exact⟨i+1,sv,by omega,by go_num,h0,h1,hown,hne,hf,hs⟩
       case measure=>simp [intOf];omega
  · obtain rfl:i=m:=by omega
    have hnl:¬((i:Int)<i):=by omega
    have hinf:(Tryz.prog.info? 149).map (·.size)=some 3:=by kernel_rfl
    have hone:(#[N i,N k,sv]:Array Value).all (·.oneCell')=true:=by
     obtain⟨va,vc,rfl⟩:=hown.shape'
     rw [List.all_toArray]
     rfl
    have hset:Ow (wr.setRow g #[N i,N k,sv]) (g+1) eB sv (cauPre k i 0):=hown.chg (setRow_chg wr g _) fun q hq=>by have:=(hown.lt q hq).1;show ¬q=g;omega
    have hfin:Below g w (wr.setRow g #[N i,N k,sv]):=Chg.below hf (setRow_chg wr g _) (by omega) (fun q hq=>Nat.le_of_eq hq.symm)
    go_wp2_with (first | (refine wpList_load_row rfl 149 (.tmp 7) rfl r rfl 149 #[N i,N k,sv] (0,0) _ h1 Tryz.underlying149 rfl hinf ?_) | (refine wpList_store_row rfl 149 (.tmp 6) (.tmp 36) rfl g #[N i,N k,sv] rfl rfl 149 _ h0 hinf rfl hone ?_))
    exact bodyPost_ret (v:=cauV k i sv) (results_cell_row Tryz.results131 _ _ g 149 #[N i,N k,sv] (0,0) _ rfl (setRow_heap _ g _ #[N i,N k,sv] _ _ h0) Tryz.underlying149 rfl hinf) rfl ⟨_,rfl,hset.rebase (by omega),by rw [<- hg]at hfin ⊢;exact hfin⟩
theorem Cauchy_any(k m:Nat)(hk:1<=k)(hkm:k+m<=255)(w:World) :
  Calls Tryz.prog 93 #[N k,N m] w fun e w'=>∃ v,e=.returned (.tuple #[cauV k m v,.int .i64 0])/\Ow w' w.heap.size eB v (cauPre k m 0)/\Fr w w':=by
 have hmf:∀ (fn:Fn) (first cap:Array Value) (w:World),(Instr.makeFunc fn first cap).run Tryz.prog w=.ok (.func fn first cap) w:=fun _ _ _ _=>rfl
 have W1:=hid (within_any k (by omega))
 have W2:=hid (within_any m (by omega))
 have HM:Hid (∀ W,W.cell? ⟨w.heap.size,0,none⟩=some (N k)->Calls Tryz.prog 131 #[N m,N k,.func (.func 132) #[] #[.pointer (some ⟨w.heap.size,0,none⟩)]] W fun e w'=>∃ v,e=.returned (cauV k m v)/\Ow w' W.heap.size eB v (cauPre k m 0)/\Fr W w'):=fun W h=>made_any k m w.heap.size hk hkm W h
 have h255:¬(255:Int)<(k:Int)+m:=by omega
 have hkb:(k:Int)+m<=255:=by omega
 go_enter Tryz.func93, Tryz.ntmps93
 go_wp2_with fail
 refine(W1.out _).mono ?_
 rintro e w1 ⟨rfl,rfl⟩
 go_wp2_with fail
 refine(W2.out _).mono ?_
 rintro e w2 ⟨rfl,rfl⟩
 have hc0:((w.alloc (.cells #[N k] 3)).alloc (.cells #[.int .i64 0,.int .i64 0,.slice none 0 0] 149)).cell? ⟨w.heap.size,0,none⟩=some (N k):=by
  rw [cell_of_heap (by rw [heap_old _ _ _ (by simp)];exact heap_new _ _ _ rfl)];rfl
 have hb0:((w.alloc (.cells #[N k] 3)).alloc (.cells #[.int .i64 0,.int .i64 0,.slice none 0 0] 149)).heap[w.heap.size+1]? = some (.cells #[.int .i64 0,.int .i64 0,.slice none 0 0] 149 (0,0)):=heap_new _ _ _ (by simp)
 have hf0:Fr w ((w.alloc (.cells #[N k] 3)).alloc (.cells #[.int .i64 0,.int .i64 0,.slice none 0 0] 149)):=((Fr.refl w).alloc _).alloc _
 have hs0:((w.alloc (.cells #[N k] 3)).alloc (.cells #[.int .i64 0,.int .i64 0,.slice none 0 0] 149)).heap.size=w.heap.size+2:=by simp
 generalize (w.alloc (.cells #[N k] 3)).alloc (.cells #[.int .i64 0,.int .i64 0,.slice none 0 0] 149)=w0 at *
 go_wp2_with fail
 refine(HM.out _ hc0).mono ?_
 rintro e w3 ⟨v3,rfl,hown,hf3⟩
 have h3:=hf3.heap hb0
 have hf03:=hf0.trans hf3
 have hs3:=hf3.size
 obtain⟨va,vc,rfl⟩:=hown.shape'
 generalize hg:w.heap.size+1=g at *
 have hinf:(Tryz.prog.info? 149).map (·.size)=some 3:=by kernel_rfl
 have hone:(#[N m,N k,.slice va (cauPre k m 0).length vc]:Array Value).all (·.oneCell')=true:=by
  rw [List.all_toArray];rfl
 have q0:=cell_setRow_same w3 g 0 _ #[N m,N k,.slice va (cauPre k m 0).length vc] _ _ h3
 have q1:=cell_setRow_same w3 g 1 _ #[N m,N k,.slice va (cauPre k m 0).length vc] _ _ h3
 have q2:=cell_setRow_same w3 g 2 _ #[N m,N k,.slice va (cauPre k m 0).length vc] _ _ h3
 have hset:Ow (w3.setRow g #[N m,N k,.slice va (cauPre k m 0).length vc]) w0.heap.size eB (.slice va (cauPre k m 0).length vc) (cauPre k m 0):=hown.chg (setRow_chg w3 g _) fun q hq=>by have:=(hown.lt q hq).1;show ¬q=g;omega
 have hfin:Fr w (w3.setRow g #[N m,N k,.slice va (cauPre k m 0).length vc]):=Chg.below hf03 (setRow_chg w3 g _) hf03.size (fun q hq=>by rw [hq];omega)
 unfold cauV
 go_wp2_with (refine wpList_store_row rfl 149 (.tmp 4) (.tmp 24) rfl g #[N m,N k,.slice va (cauPre k m 0).length vc] rfl rfl 149 _ h3 hinf rfl hone ?_)
 exact bodyPost_ret (v:=.tuple #[.agg #[N m,N k,.slice va (cauPre k m 0).length vc],.int .i64 0]) (by simp [results,Tryz.results93,go_sem, *]) rfl ⟨_,rfl,hset.rebase (by omega),hfin⟩
theorem times_any(M:List UInt8)(R:Nat)(mv dv:Value)(hs:List Hd)(ds:List (List UInt8))(L:Nat)(w:World)(hM:See w eB mv M)(hd:Sees2 w eHB eB dv hs ds)
  (hC:1<=ds.length) (hC2:ds.length<=255) (hR:R<=255) (hMl:M.length=R*ds.length) (hl:∀ p∈ds,p.length=L) (hL:L<=1000000) :
  Calls Tryz.prog 94 #[.agg #[N R,N ds.length,mv],dv] w fun e w'=>∃ v,e=.returned v/\∃ ps,Ow w' w.heap.size eHB v ps/\Owns w' w.heap.size eB ps (timesL M ds.length R ds L)/\Fr w w':=by
 obtain⟨da,dcap,hdv,hd1,hd2,hd3⟩:=hd.1.shape
 obtain⟨ma,mcap,hmv,hm1,hm2,hm3⟩:=hM.shape
 subst hdv hmv
 unfold maxLen at hd2 hm2
 have hdl:=hd.2.1
 have hmul:R*ds.length<=255*255:=Nat.mul_le_mul hR hC2
 have hrow:=fun i j (hj:j<=ds.length)=>rowT_len M ds.length i ds L j hl hj
 have HRow:=hid hrow
 clear hrow
 have HMl:=hid hMl
 clear hMl
 have hB0:(w.alloc (.cells #[N R,N ds.length,.slice ma M.length mcap] 149)).heap[w.heap.size]? = some (.cells #[N R,N ds.length,.slice ma M.length mcap] 149 (0,0)):=heap_new _ _ _ rfl
 have hf0:Fr w (w.alloc (.cells #[N R,N ds.length,.slice ma M.length mcap] 149)):=(Fr.refl w).alloc _
 have hr0:¬(R:Int)<0:=by omega
 have hmk:=made_run eHB rfl rfl 80 Tryz.underlying80 .i64 .i64 R (by omega) (w.alloc (.cells #[N R,N ds.length,.slice ma M.length mcap] 149))
 have hmo:=made_own (base:=w.heap.size+1) eHB rfl rfl R (by omega) (w.alloc (.cells #[N R,N ds.length,.slice ma M.length mcap] 149)) (by simp)
 have HMO:=hid hmo
 clear hmo
 have hf1:=hf0.alloc (.cells (madeCells #[eHB.z] R) eHB.e)
 have hB1:=((Fr.refl _).alloc (.cells (madeCells #[eHB.z] R) eHB.e)).heap hB0
 go_enter Tryz.func94, Tryz.ntmps94
 go_wp2_with fail
 go_loopw [16] (fun iv wr=>∃ (i:Nat) (ps:List Hd),i<=R/\iv=N i/\Ow wr (w.heap.size+1) eHB (.slice (some ⟨w.heap.size+1,0,none⟩) R R) ps/\ps.length=R/\Hid (∀ t (h:t<ps.length),t<i->Ow wr (w.heap.size+1) eB ps[t].v (rowT M ds.length t ds L ds.length))/\wr.heap[w.heap.size]? = some (.cells #[N R,N ds.length,.slice ma M.length mcap] 149 (0,0))/\Fr w wr) (fun iv _=>R - (intOf iv).toNat)
 case atStart=>exact⟨0,_,Nat.zero_le _,rfl,by simpa [size_alloc] using HMO.out,by simp,fun t h ht=>by omega,hB1,hf1⟩
 case round=>
  clear hB1 hf1 hmk hB0 hf0
  obtain⟨i,ps,hi,rfl,hown,hpl,HP,hB,hf⟩:=hrel
  by_cases hlt:i<R
  · have hdw:=hd.fr hf
    obtain⟨b0,off0,cap0,hv0,e0⟩:=hdw.1.cell1 (fun(h:Hd)=>h.v) rfl 0 (by omega)
    have hsee0:=hdw.2.2 0 (by omega) (by omega)
    have hl0:=hl _ (List.getElem_mem (l:=ds) (n:=0) (by omega))
    obtain⟨a0,c0,hh0,_⟩:=hsee0.shape
    generalize hs[0]'(by omega)=h0 at *
    rw [hl0]at hh0
    clear hl0 hsee0
    obtain⟨h0a,h0n,h0c⟩:=h0
    simp only [Hd.v,Value.slice.injEq]at hh0
    obtain⟨rfl,rfl,rfl⟩:=hh0
    simp only [Hd.v]at e0
    cases hv0
    rw [Nat.add_zero]at e0
    have hmk2:=made_run eB rfl rfl 27 Tryz.underlying27 .i64 .i64 h0n (by omega) wr
    have hmo2:=made_own (base:=w.heap.size+1) eB rfl rfl h0n (by omega) wr (by have h1:=hf.size;have h2:=(Array.getElem?_eq_some_iff.1 hB).1;have h3:=(hown.lt _ rfl).2;omega)
    have hfa:=(Fr.refl wr).alloc (.cells (madeCells #[eB.z] h0n) eB.e)
    generalize hW:wr.alloc (.cells (madeCells #[eB.z] h0n) eB.e)=W at *
    have HW:=hid hW
    clear hW
    have hi':(i:Int)<R:=by omega
    have hdp:(0:Int)<hs.length:=by omega
    have hmk3:(Instr.makeSlice 27 (.int .i64 h0n) (.int .i64 h0n)).run Tryz.prog wr=.ok (.slice (some ⟨wr.heap.size,0,none⟩) h0n h0n) W:=hmk2
    clear hmk2
    go_wp2_with fail
    have hfW:=hf.trans hfa
    have hBW:=hfa.heap hB
    have hownW:=hown.fr hfa
    have HPW:Hid (∀ t (h:t<ps.length),t<i->Ow W (w.heap.size+1) eB ps[t].v (rowT M ds.length t ds h0n ds.length)):=fun t h ht=>(HP.out t h ht).fr hfa
    clear hown hB hf hfa HP hdw e0 hmk3 HW
    go_loopw [7,26] (fun sv jv wr=>∃ (j:Nat),j<=ds.length/\jv=N j/\Ow wr (w.heap.size+1) eB sv (rowT M ds.length i ds h0n j)/\Fr W wr) (fun _ jv _=>ds.length - (intOf jv).toNat)
    case atStart=>exact⟨0,Nat.zero_le _,rfl,hmo2,Fr.refl W⟩
    case round=>
     obtain⟨j,hj,rfl,hsum,hfq⟩:=hrel
     have HLen:=hid (HRow.out i j hj)
     obtain⟨sva,svc,hsv⟩:=hsum.shape'
     rw [HLen.out]at hsv
     subst hsv
     by_cases hjl:j<ds.length
     · have hdw:=hd.fr (hfW.trans hfq)
       obtain⟨b1,off1,cap1,hv1,e1⟩:=hdw.1.cell1 (fun(h:Hd)=>h.v) rfl j (by omega)
       have hseej:=hdw.2.2 j (by omega) hjl
       have hlj:=hl _ (List.getElem_mem (l:=ds) (n:=j) hjl)
       have HN:Hid (rowT M ds.length i ds h0n (j+1)=addP (rowT M ds.length i ds h0n j) (M[i*ds.length+j]'(by rw [HMl.out];have:=Nat.mul_le_mul_right ds.length (show i+1<=R by omega);rw [Nat.add_mul]at this;omega)).toNat ds[j]):=by
        show _=_
        rw [rowT,getD_at M _ _ (by rw [HMl.out];have:=Nat.mul_le_mul_right ds.length (show i+1<=R by omega);rw [Nat.add_mul]at this;omega),getD_at ds j _ hjl]
       have hPl:i*ds.length+j<M.length:=by rw [HMl.out];have:=Nat.mul_le_mul_right ds.length (show i+1<=R by omega);rw [Nat.add_mul]at this;omega
       have hMw:=hM.fr (hfW.trans hfq)
       obtain⟨b2,off2,cap2,hv2,e2⟩:=hMw.cell1 (fun c=>Fk.u8 c) rfl (i*ds.length+j) hPl
       have hw1:IntKind.i64.wrap ((i:Int)*(ds.length:Int))=((i*ds.length:Nat):Int):=by
        rw [Int.natCast_mul];exact IntWalk.i64_in _ (by rw [<- Int.natCast_mul];omega)
       obtain⟨aj,cj,hhj,_⟩:=hseej.shape
       generalize hs[j]'(by omega)=hj1 at *
       generalize hdj:ds[j]=dj at *
       clear hdj
       generalize M[i*ds.length+j]=c at *
       generalize rowT M ds.length i ds h0n j=acc at *
       generalize i*ds.length=P at *
       rw [hlj]at hhj
       obtain⟨hja,hjn,hjc⟩:=hj1
       simp only [Hd.v,Value.slice.injEq]at hhj
       obtain⟨rfl,rfl,rfl⟩:=hhj
       simp only [Hd.v]at e1 hseej
       cases hv1
       cases hv2
       have hBq:=hfq.heap hBW
       have k0:=cellx hBq 1 rfl
       have k1:=cellx hBq 2 rfl
       have i1:(0:Int)<=j:=by omega
       have i2:(j:Int)<hs.length:=by omega
       have hw2:IntKind.i64.wrap ((P:Int)+j)=(P:Int)+j:=IntWalk.i64_in _ (by omega)
       have i3:(0:Int)<=(P:Int)+j:=by omega
       have i4:(P:Int)+j<M.length:=by omega
       have i5:((P:Int)+j).toNat=P+j:=by omega
       have HLj:=hid hlj
       clear hlj
       have HA:=hid (fun W1 (h1:See W1 eB (.slice sva hjn svc) acc) (h2:See W1 eB (.slice hja hjn hjc) dj)=>Add_any _ _ acc dj c.toNat (UInt8.toNat_lt c) W1 h1 h2 (by rw [HLen.out,HLj.out]) (by rw [HLen.out];exact hL))
       by_cases hc0:c.toNat=0
       · have hc0':(c.toNat:Int)=0:=by omega
         go_wp2_with fail
         go_roundw
         case rel=>exact⟨j+1,by omega,by go_num,by rw [HN.out,hc0,addP_zero _ _ (by rw [HLen.out,HLj.out])];exact hsum,hfq⟩
         case measure=>simp [intOf];omega
       · have hc1:((c.toNat:Int) != 0)=true:=by rw [bne_iff_ne];omega
         have hc2:¬(c.toNat:Int)=0:=by omega
         go_wp2_with fail
         refine(HA.out _ hsum.see hseej).mono ?_
         rintro e w1 ⟨v1,rfl,hown1,hf1⟩
         go_wp2_with fail
         go_roundw
         case rel=>exact⟨j+1,by omega,by go_num,by rw [HN.out];exact hown1.rebase (by have:=(hfW.trans hfq).size;have:=(Array.getElem?_eq_some_iff.1 hBq).1;omega),hfq.trans hf1⟩
         case measure=>simp [intOf];omega
     · obtain rfl:j=ds.length:=by omega
       have i1:(0:Int)<=i:=by omega
       have hnl:¬((ds.length:Int)<hs.length):=by omega
       have hwf:=hfW.trans hfq
       have hpi:i<ps.length:=by omega
       have hownq:=hownW.fr hfq
       have hu:=hownq.cellAt (fun(h:Hd)=>h.v) rfl i hpi
       have hs1:=hownq.set (fun(h:Hd)=>h.v) rfl i hpi ⟨sva,h0n,svc⟩ (.slice sva h0n svc) rfl
       obtain⟨k0,k1⟩:=hu
       generalize hpi':ps[i].v=pv at *
       have Hpi:=hid hpi'
       clear hpi'
       obtain⟨_,hgb,cur,hgc,_⟩:=hownq.parts
       have hBq:=hfq.heap hBW
       have HPn:Hid (∀ t (h:t<(ps.set i ⟨sva,h0n,svc⟩).length),t<i+1->Ow (wr.setCell ⟨w.heap.size+1,i,none⟩ (.slice sva h0n svc)) (w.heap.size+1) eB (ps.set i ⟨sva,h0n,svc⟩)[t].v (rowT M ds.length t ds h0n ds.length)):=by
        intro t h ht
        have hT:eHB.e≠eB.e:=by decide
        by_cases hti:t=i
        · subst hti
          rw [List.getElem_set_self]
          exact hsum.chg (setCell_chg wr _ _) (fun q hq e=>hsum.ne_cells hgc hT (by rw [hq,e]))
        · rw [List.getElem_set_ne (Ne.symm hti)]
          rw [List.length_set]at h
          have ho:=(HPW.out t h (by omega)).fr hfq
          exact ho.chg (setCell_chg wr _ _) (fun q hq e=>ho.ne_cells hgc hT (by rw [hq,e]))
       have hfin:Fr w (wr.setCell ⟨w.heap.size+1,i,none⟩ (.slice sva h0n svc)):=set_below hwf (by omega) hwf.size
       have hBn:(wr.setCell ⟨w.heap.size+1,i,none⟩ (.slice sva h0n svc)).heap[w.heap.size]? = some (.cells #[N R,N ds.length,.slice ma M.length mcap] 149 (0,0)):=by
        rw [Below.heap_setCell _ _ _ _ (by simp)];exact hBq
       have HBn:=hid hBn
       have HPl:=hid hpl
       clear hBn hpl
       go_wp2_with fail
       go_roundw
       case rel=>exact⟨i+1,_,by omega,by go_num,hs1,by rw [List.length_set];exact HPl.out,HPn,HBn.out,hfin⟩
       case measure=>simp [intOf];omega
  · obtain rfl:i=R:=by omega
    have hnl:¬((i:Int)<i):=by omega
    have HPl:=hid hpl
    clear hpl
    go_wp2_with fail
    go_ret
    have hpl:=HPl.out
    refine⟨.slice (some ⟨w.heap.size+1,0,none⟩) i i,rfl,ps,hown.rebase (by omega),⟨by rw [timesL_len];exact hpl,fun t h1 h2=>?_⟩,hf⟩
    rw [timesL_at M ds.length i ds L t (by omega)]
    exact(HP.out t h1 (by omega)).rebase (by omega)
theorem setRow_row(w:World)(g:Nat)(cs:Array Value)(old:Array Value)(t:TypeId)(h:w.heap[g]? = some (.cells old t (0,0))):(w.setRow g cs).heap[g]? = some (.cells cs t (0,0)):=by
 simp [World.setRow,Array.getElem?_modify,h]
def parL(m:Nat)(ds:List (List UInt8))(L:Nat):List (List UInt8):=timesL (cauPre ds.length m 0) ds.length m ds L
theorem Parity_any(m:Nat)(dv:Value)(hs:List Hd)(ds:List (List UInt8))(L:Nat)(w:World)(hd:Sees2 w eHB eB dv hs ds)
  (hC:1<=ds.length) (hm:ds.length+m<=255) (hl:∀ p∈ds,p.length=L) (hL:L<=1000000) :
  Calls Tryz.prog 62 #[N m,dv] w fun e w'=>∃ v,e=.returned (.tuple #[v,.int .i64 0])/\∃ ps,Ow w' w.heap.size eHB v ps/\Owns w' w.heap.size eB ps (parL m ds L)/\Fr w w':=by
 obtain⟨da,dcap,hdv,hd1,hd2,hd3⟩:=hd.1.shape
 have hA:=alike_of hd hl
 have hdl:=hd.2.1
 have HM:=hid (rmay_any ds.length m hC hm)
 have HA:=hid (fun W h=>alike_any dv hs L W h hA)
 have HC:=hid (Cauchy_any ds.length m hC hm)
 have HT:=hid (fun W mv (h1:See W eB mv (cauPre ds.length m 0)) (h2:Sees2 W eHB eB dv hs ds)=>times_any (cauPre ds.length m 0) m mv dv hs ds L W h1 h2 hC (by omega) (by omega) (by rw [cauPre_len];omega) hl hL)
 rw [hdl]at hdv
 have hsee:=hd.1
 clear hdl hl hA
 unfold parL
 generalize timesL (cauPre ds.length m 0) ds.length m ds L=out at *
 subst hdv
 go_enter Tryz.func62, Tryz.ntmps62
 go_wp2_with fail
 refine(HM.out _).mono ?_
 rintro e w1 ⟨rfl,rfl⟩
 go_wp2_with fail
 refine(HA.out _ hsee).mono ?_
 rintro e w2 ⟨rfl,rfl⟩
 go_wp2_with fail
 refine(HC.out _).mono ?_
 rintro e w3 ⟨mv,rfl,hown3,hf3⟩
 unfold cauV
 have hinf:(Tryz.prog.info? 149).map (·.size)=some 3:=by kernel_rfl
 obtain⟨va,vc,rfl⟩:=hown3.shape'
 have hone:(#[N m,N ds.length,.slice va (cauPre ds.length m 0).length vc]:Array Value).all (·.oneCell')=true:=by
  rw [List.all_toArray];rfl
 have h3:=heap_new w3 (.cells #[.int .i64 0,.int .i64 0,.slice none 0 0] 149) _ rfl
 have hset:=setRow_row _ _ #[N m,N ds.length,.slice va (cauPre ds.length m 0).length vc] _ _ h3
 have hf4:Fr w3 ((w3.alloc (.cells #[.int .i64 0,.int .i64 0,.slice none 0 0] 149)).setRow w3.heap.size #[N m,N ds.length,.slice va (cauPre ds.length m 0).length vc]):=Chg.below ((Fr.refl w3).alloc _) (setRow_chg _ _ _) (by simp) (fun q hq=>by rw [hq];exact Nat.le_refl _)
 have hM4:=hown3.see.fr hf4
 generalize (cauPre ds.length m 0).length=cl at *
 go_wp2_with (first | (refine wpList_store_row rfl 149 (.tmp 6) (.tmp 23) rfl w3.heap.size #[N m,N ds.length,.slice va cl vc] rfl rfl 149 _ h3 hinf rfl hone ?_) | (refine wpList_load_row rfl 149 (.tmp 6) rfl w3.heap.size rfl 149 #[N m,N ds.length,.slice va cl vc] (0,0) _ hset Tryz.underlying149 rfl hinf ?_))
 refine(HT.out _ _ hM4 ((hd.fr hf3).fr hf4)).mono ?_
 rintro e w5 ⟨v5,rfl,ps,hown5,hsee5,hf5⟩
 go_wp2_with fail
 exact bodyPost_ret (v:=.tuple #[v5,.int .i64 0]) (by simp [results,Tryz.results62,go_sem, *]) rfl ⟨_,rfl,ps,hown5.rebase (by have:=(hf3.trans hf4).size;omega),hsee5.rebase (by have:=(hf3.trans hf4).size;omega),(hf3.trans hf4).trans hf5⟩
theorem row_bound(i R C j:Nat)(hi:i<R)(hj:j<C):i*C+j<R*C:=by
 have:=Nat.mul_le_mul_right C (show i+1<=R by omega)
 rw [Nat.add_mul]at this;omega
end Go.Proofs.YtdagmoonnbnceaaGreatDoor
