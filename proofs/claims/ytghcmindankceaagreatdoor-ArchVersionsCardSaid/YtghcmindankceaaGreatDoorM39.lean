/- Parts of the proof of ArchVersions: T3 L5 Y7. -/
import Derived.Test.YtghcmindankceaaGreatDoorM37
import Derived.Test.YtghcmindankceaaGreatDoorM38
import Derived.Test.YtghcmindankceaaGreatDoorM16
import Derived.Test.YtghcmindankceaaGreatDoorM08
import Derived.Test.YtghcmindankceaaGreatDoorM18
import Derived.Test.YtghcmindankceaaGreatDoorM11
set_option linter.unusedVariables false
set_option linter.unusedSectionVars false
set_option linter.unusedSimpArgs false
set_option maxHeartbeats 8000000
namespace Go.Proofs.YtghcmindankceaaGreatDoor
open Go.RowKit Go.Fk
def sliceLen:Value->Nat | .slice _ n _=>n | _=>0
def eHI:Elt Tryz.prog Hd:=⟨423,1,24,⟨none,0,0⟩,.slice none 0 0,fun h=>[h.v],by kernel_rfl,by decide,by decide,by simp [Value.cells],fun _=>rfl,by intro x u hu;simp at hu;subst hu;rfl⟩
def lenN(often:List Nat)(s:Nat):Nat:=
 if(usedL often).length=0 then 0
 else if(usedL often).length=1 then(if s=(usedL often).getD 0 0 then 1 else 0)
 else(symsI ((rowI (leavesL often (usedL often)) 14).take (2*(usedL often).length - 2))).count s
def cntB(L:Nat)(f:Nat->Nat):List UInt8:=(List.range L).map fun s=>UInt8.ofNat (f s)
def lensB(often:List Nat):List UInt8:=cntB often.length (lenN often)
theorem cntB_len(L:Nat)(f:Nat->Nat):(cntB L f).length=L:=by simp [cntB]
theorem cntB_zero(L:Nat):cntB L (fun _=>0)=List.replicate L (0:UInt8):=by
 apply List.ext_getElem
 · simp [cntB]
 · intro i h1 h2;simp [cntB]
theorem cntB_set(L:Nat)(f:Nat->Nat)(s c:Nat):(cntB L f).set s (UInt8.ofNat c)=cntB L (fun j=>if j=s then c else f j):=by
 apply List.ext_getElem?
 intro j
 by_cases hj:j<L
 · by_cases e:s=j
   · subst e;rw [List.getElem?_set_self (by rw [cntB_len];exact hj)];simp [cntB,hj]
   · rw [List.getElem?_set_ne e];simp [cntB,hj,Ne.symm e]
 · rw [List.getElem?_eq_none (by simp [cntB_len];omega),List.getElem?_eq_none (by rw [cntB_len];omega)]
theorem cntB_congr(L:Nat)(f f':Nat->Nat)(h:∀ s,f s=f' s):cntB L f=cntB L f':=by rw [show f=f' from funext h]
theorem u8_inc(c:Nat):IntKind.u8.wrap (((UInt8.ofNat c).toNat:Int)+1)=((UInt8.ofNat (c+1)).toNat:Int):=by
  rw [wrap_u8,UInt8.toNat_ofNat',UInt8.toNat_ofNat'];omega
set_option maxRecDepth 100000
theorem Lens_any (v : Value) (often : List Nat) (w : World) (hs : See w eV v often) (hn : often.length ≤ 300) (h32 : ∀ x ∈ often, x < 4294967296) :
    Calls Tryz.prog 301 #[v,N 15] w fun e w'=>∃ v,e=.returned (.tuple #[v,.int .i64 0])/\Ow w' w.heap.size eB v (lensB often)/\Fr w w':=by
  obtain⟨a,cap,hv,hcap1,hcap2,hnone⟩:=hs.shape
  subst hv
  unfold maxLen at hcap2
  have HUs:=hid (used_any _ often w hs (by omega))
  have hul:(usedL often).length<=often.length:=by
    unfold usedL
    rw [(usedK_perm _ _ (symsU_up often)).length_eq];exact symsU_len often
  have hum:∀ s∈usedL often,s<often.length:=fun s h=>symsU_lt often s ((usedK_perm _ _ (symsU_up often)).mem_iff.1 h)
  have HB:Hid (lensB often=cntB often.length (lenN often)):=rfl
  have HLN : Hid (∀ s, lenN often s = if (usedL often).length = 0 then 0
    else if (usedL often).length = 1 then (if s = (usedL often).getD 0 0 then 1 else 0)
    else (symsI ((rowI (leavesL often (usedL often)) 14).take (2 * (usedL often).length - 2))).count s) := fun _ => rfl
  generalize lensB often=RB at *
  generalize lenN often=ln at *
  have HUM:=hid hum
  have hUL:=hid hul
  clear hul
  clear hum
  generalize usedL often=us at *
  have hL1:¬(300:Int)<often.length:=by omega
  have hL2:¬(32768:Int)<us.length:=by have:=hUL.out;omega
  have hmk:=made_run eB rfl rfl 22 Tryz.underlying22 .i64 .i64 often.length (by omega)
  go_enter Tryz.func301, Tryz.ntmps301
  go_wp2_with fail
  refine HUs.out.mono ?_
  rintro e w1 ⟨sv,rfl,hSy,hf1⟩
  obtain⟨sa,sc,hsv⟩:=hSy.shape'
  subst hsv
  have HO1:=hid (made_own (base:=w.heap.size) eB rfl rfl often.length (by omega) w1 hf1.size)
  have HF2:Hid (Fr w1 (w1.alloc (.cells (madeCells #[eB.z] often.length) eB.e))):=(Fr.refl w1).alloc _
  have HB0:Hid ((w1.alloc (.cells (madeCells #[eB.z] often.length) eB.e)).heap[w1.heap.size]?=some (.cells (madeCells #[eB.z] often.length) 5 (0,0))):=heap_new _ _ _ rfl
  generalize hT0:madeCells #[eB.z] often.length=T0 at *
  clear hT0
  rw [show(eB:Elt Tryz.prog UInt8).e=5 from rfl]at HO1 HF2 HB0
  rw [show(eB:Elt Tryz.prog UInt8).e=5 from rfl]at hmk
  have hU:=hUL.out
  rcases Nat.lt_trichotomy us.length 1 with h0 | h1 | h2
  · obtain rfl:us=[]:=List.eq_nil_of_length_eq_zero (by omega)
    have HR:Hid (RB=List.replicate often.length (0:UInt8)):=by
      show _=_;rw [HB.out,<- cntB_zero];exact cntB_congr _ _ _ fun s=>by rw [HLN.out];rfl
    clear HB HLN
    go_wp2_with fail
    go_ret2
    exact⟨_,rfl,by rw [HR.out];exact HO1.out,hf1.trans HF2.out⟩
  · obtain⟨u0,rfl⟩:∃ u0,us=[u0]:=List.length_eq_one_iff.1 h1
    have hu0:=HUM.out u0 (by simp)
    have HR:Hid (RB=(List.replicate often.length (0:UInt8)).set u0 1):=by
      show _=_
      rw [HB.out,<- cntB_zero]
      have:=cntB_set often.length (fun _=>0) u0 1
      rw [show(1:UInt8)=UInt8.ofNat 1 from rfl,this]
      exact cntB_congr _ _ _ fun s=>by rw [HLN.out];rfl
    obtain⟨b,off,cp,hv2,c0⟩:=jAt (hSy.see.fr HF2.out) 0 (by simp)
    have hO1:=HO1.out
    obtain⟨d1,d2⟩:=hO1.cellAt (fun c=>Fk.u8 c) rfl u0 (by simpa using hu0)
    have hS1:=hO1.set (fun c=>Fk.u8 c) rfl u0 (by simpa using hu0) 1 (.int .u8 1) rfl
    have hF3:=set_below (i:=u0) (u:=.int .u8 1) (hf1.trans HF2.out) hf1.size ((hf1.trans HF2.out).size)
    rw [World.setCell_alloc_at (w:=w1) _ _ _ _ _ rfl]at hS1 hF3
    have HS:=hid hS1
    have HF3:=hid hF3
    clear hS1 hF3
    have hFF:=hf1.trans HF2.out
    cases hv2
    simp only [List.getElem_cons_zero,Nat.add_zero]at c0
    simp only [List.length_cons,List.length_nil,Nat.zero_add]at *
    have i1:(0:Int)<=u0:=by omega
    have i2:(u0:Int)<often.length:=by omega
    clear HB HLN hO1 HO1 HB0 HF2
    go_wp2_with fail
    go_ret2
    exact⟨_,rfl,by rw [HR.out];exact HS.out,HF3.out⟩
  · have hlv:=leavesL_len often us
    have hll:=leavesL_leaf often us
    have HEn:=hid (rowI_enough (leavesL often us) 14 (by rw [hlv];have:=hUL.out;omega))
    have HLn2:Hid (∀ s,ln s=dR (leavesL often us) 15 (2*us.length - 2) s):=fun s=>by
      rw [HLN.out,if_neg (by omega),if_neg (by omega),dR_all (leavesL often us) hll 14 _ s (by have:=HEn.out;rw [hlv]at this;exact this)]
    have HRm:=hid (leaves_room (leavesL often us) hll)
    have HLe:=hid (fun W (h1:See W eV (.slice a often.length cap) often) (h2:See W eJ (.slice sa us.length sc) us)=>leaves_any _ _ often us W h1 h2 (by omega) HUM.out h32)
    have HRl:=hid (fun r=>rowI_len (leavesL often us) r)
    have HSyms:Hid (∀ j (h:j<us.length),(leavesL often us)[j]?.map (·.syms)=some [us[j]]):=fun j h=>by rw [leavesL_at often us j h];rfl
    clear HLN
    have h2a:((us.length:Int) == 1)=false:=by simp;omega
    have h2b:¬(us.length:Int)<2:=by omega
    have h2c:¬us.length=1:=by omega
    have hL3:(leavesL often us).length<=300:=by omega
    have HLV:=hid hlv
    have HLL:=hid hll
    clear hlv hll
    generalize leavesL often us=lv at *
    have hseA:=hs.fr (hf1.trans HF2.out)
    have hseB:=hSy.see.fr HF2.out
    go_wp2_with fail
    refine(HLe.out _ hseA hseB).mono ?_
    rintro e w3 ⟨lv0,rfl,hLf,hf3⟩
    obtain⟨la,lc,hlv0⟩:=hLf.shape'
    subst hlv0
    have HO3:=hid (HO1.out.fr hf3)
    have HS3:=hid ((hSy.fr HF2.out).fr hf3)
    have HF3:=hid ((hf1.trans HF2.out).trans hf3)
    clear hseA hseB HO1 hSy HLe HF2 hs HUs hmk
    go_wp2_with fail
    have HO4:=hid (own_lit (base:=w.heap.size) eHI w3 #[Value.slice la lv.length lc] [⟨la,lv.length,lc⟩] 1 rfl (by simp [maxLen]) HF3.out.size rfl)
    have hA4:Fr w3 (w3.alloc (.cells #[Value.slice la lv.length lc] 423)):=(Fr.refl w3).alloc _
    rw [show(eHI:Elt Tryz.prog Hd).e=423 from rfl]at HO4
    have HO5:=hid (HO3.out.fr hA4)
    have HS5:=hid (HS3.out.fr hA4)
    have HF5:=hid (HF3.out.trans hA4)
    have HL5:=hid ((hLf.rebase (hf1.trans ((Fr.refl w1).alloc (.cells T0 5))).size).fr hA4)
    clear HO3 HS3 HF3 hLf
    generalize w3.alloc (.cells #[Value.slice la lv.length lc] 423)=w4 at *
    clear hA4
    go_loopw [9] (fun rv wr=>∃ (hs:List Hd),1<=hs.length/\hs.length<=15/\Ow wr w.heap.size eHI rv hs/\Hid (∀ t (h:t<hs.length),Ow wr w.heap.size eIt hs[t].v (rowI lv t))/\Hid (Ow wr w.heap.size eIt (.slice la lv.length lc) lv)/\Hid (Ow wr w.heap.size eB (.slice (some ⟨w1.heap.size,0,none⟩) often.length often.length) (List.replicate often.length (0:UInt8)))/\Hid (Ow wr w.heap.size eJ (.slice sa us.length sc) us)/\Fr w wr) (fun rv _=>16 - sliceLen rv)
    case atStart => exact ⟨[⟨la, lv.length, lc⟩], by simp, by simp, HO4.out, fun t h => by
      obtain rfl : t = 0 := by simpa using h
      exact HL5.out, HL5.out, HO5.out, HS5.out, HF5.out⟩
    case round=>
      clear HO4 HO5 HS5 HF5 HL5
      obtain⟨hs,hh1,hh2,hRv,HRow,HLf,HOu,HSy,hfw⟩:=hrel
      obtain⟨ra,rc,hrv⟩:=hRv.shape'
      by_cases hlt:hs.length<15
      · have hlt':(hs.length:Int)<15:=by omega
        obtain⟨b,off,cp,hv2,c0⟩:=hRv.see.cell1 (fun h:Hd=>h.v) rfl (hs.length - 1) (by omega)
        rw [hrv]at hv2
        cases hv2
        have hwk:IntKind.i64.wrap ((hs.length:Int) - 1)=((hs.length - 1:Nat):Int):=by rw [IntWalk.i64_in _ (by omega)];omega
        have hRk:=HRow.out (hs.length - 1) (by omega)
        have HNx:=hid (next_any (.slice la lv.length lc) _ lv (rowI lv (hs.length - 1)) wr HLf.out.see hRk.see (by omega) (by have:=HRl.out (hs.length - 1);omega))
        have HRe:Hid (mergeI lv (pairsI (rowI lv (hs.length - 1)))=rowI lv hs.length):=by
          show _=_
          obtain⟨q,hq⟩:∃ q,hs.length=q+1:=⟨hs.length - 1,by omega⟩
          rw [hq];rfl
        rw [HRe.out]at HNx
        generalize hs[hs.length - 1]=hk at *
        have i1:(0:Int)<=((hs.length - 1:Nat):Int):=by omega
        have i2:((hs.length - 1:Nat):Int)<hs.length:=by omega
        have hll1:hs.length - 1<hs.length:=by omega
        have HHL:Hid (hs.length+1<=15):=hlt
        clear hRk
        subst hrv
        generalize hs.length - 1=k1 at *
        go_wp2_with fail
        refine HNx.out.mono ?_
        rintro e w5 ⟨nv,rfl,hN5,hf5⟩
        obtain⟨na,nc,hnv⟩:=hN5.shape'
        subst hnv
        have hfw5:=hfw.trans hf5
        have hRv5:=hRv.fr hf5
        have HRow5:=hid (fun t (h:t<hs.length)=>(HRow.out t h).fr hf5)
        have HLf5:=hid (HLf.out.fr hf5)
        have HOu5:=hid (HOu.out.fr hf5)
        have HSy5:=hid (HSy.out.fr hf5)
        have HN5:=hid (hN5.rebase hfw.size)
        clear hRv HRow HLf HOu HSy hN5 hfw HNx HRe c0
        go_wp2_with (at_builtin;refine wpList_app1 eHI rfl (.tmp 57) (.tmp 66) 425 rfl Tryz.underlying425 w.heap.size rfl hRv5 [⟨na,(rowI lv hs.length).length,nc⟩] _ _ _ rfl rfl rfl (by simp;omega) hfw5.size ?_)
        intro v' w6 hap
        have hR6:=hap.own
        obtain⟨va,vc,hv'⟩:=hR6.shape'
        have HRow6:Hid (∀ t (h:t<(hs++[(⟨na,(rowI lv hs.length).length,nc⟩:Hd)]).length),Ow w6 w.heap.size eIt (hs++[(⟨na,(rowI lv hs.length).length,nc⟩:Hd)])[t].v (rowI lv t)):=fun t h=>by
          by_cases ht:t<hs.length
          · rw [List.getElem_append_left ht]
            exact own_app (HRow5.out t ht) hRv5 hap (by decide)
          · obtain rfl:t=hs.length:=by simp at h;omega
            rw [List.getElem_append_right (Nat.le_refl _)]
            simp only [Nat.sub_self,List.getElem_cons_zero]
            exact own_app HN5.out hRv5 hap (by decide)
        have HLf6:=hid (own_app HLf5.out hRv5 hap (by decide))
        have HOu6:=hid (own_app HOu5.out hRv5 hap (by decide))
        have HSy6:=hid (own_app HSy5.out hRv5 hap (by decide))
        subst hv'
        go_wp2_with fail
        go_roundw
        case rel=>exact⟨_,by simp,by simpa using HHL.out,hR6,HRow6,HLf6,HOu6,HSy6,hap.below hRv5 hfw5 (Nat.le_refl _) hfw5.size⟩
        case measure=>simp [sliceLen];omega
      · have h15:hs.length=15:=by omega
        have hlt':¬(hs.length:Int)<15:=by omega
        subst hrv
        generalize wr=wm at *
        have hg:w.heap.size<=w1.heap.size:=hf1.size
        -- what stays while bytes count
        have HStR:Hid (∀ W,Chg (fun k=>k=w1.heap.size) wm W->∀ t (h:t<hs.length),See W eIt hs[t].v (rowI lv t)):=fun W hc t h=>
          ((HRow.out t h).chg hc fun k hk e => by
            rw [e] at hk
            rcases own_ne (HRow.out t h) HOu.out (by decide) with h1 | h1
            · rw [h1] at hk; cases hk
            · exact h1 hk).see
        have HStS:Hid (∀ W,Chg (fun k=>k=w1.heap.size) wm W->See W eJ (.slice sa us.length sc) us):=fun W hc=>
          (HSy.out.chg hc fun k hk e => by
            rw [e] at hk
            rcases own_ne HSy.out HOu.out (by decide) with h1 | h1
            · rw [h1] at hk; cases hk
            · exact h1 hk).see
        have HStV:Hid (∀ W,Chg (fun k=>k=w1.heap.size) wm W->See W eHI (.slice ra hs.length rc) hs):=fun W hc=>
          (hRv.chg hc fun k hk e => by
            rw [e] at hk
            rcases own_ne hRv HOu.out (by decide) with h1 | h1
            · rw [h1] at hk; cases hk
            · exact h1 hk).see
        have hO0:=HOu.out
        rw [<- cntB_zero]at hO0
        have hTk:2*us.length - 2<=(rowI lv 14).length:=by have:=HEn.out;rw [HLV.out]at this;exact this
        have HTk:=hid hTk
        have HRoom:=hid (fun q t h=>leaves_room lv HLL.out q t h)
        have hw2u:IntKind.i64.wrap (2*(us.length:Int))=((2*us.length:Nat):Int):=by rw [IntWalk.i64_in _ (by have:=hUL.out;omega)];omega
        have hw2m:IntKind.i64.wrap (((2*us.length:Nat):Int) - 2)=((2*us.length - 2:Nat):Int):=by rw [IntWalk.i64_in _ (by have:=hUL.out;omega)];omega
        have hul':us.length<=often.length:=hUL.out
        clear hTk HRow HLf HOu HSy HRm
        generalize 2*us.length - 2=t0 at *
        generalize 2*us.length=t1 at *
        go_wp2_with fail
        go_loopw [10,11] (fun tv rv wr=>∃ (q t:Nat) (cF:Nat->Nat),q<=15/\rv=.int .i64 ((q:Int) - 1)/\tv=N t/\t<=1200/\Hid (0<q->t<=(rowI lv (q - 1)).length)/\Ow wr w.heap.size eB (.slice (some ⟨w1.heap.size,0,none⟩) often.length often.length) (cntB often.length cF)/\Hid (∀ s,ln s=cF s+dR lv q t s)/\Chg (fun k=>k=w1.heap.size) wm wr) (fun _ rv _=>(intOf rv+1).toNat)
        case atStart=>exact⟨15,t0,fun _=>0,Nat.le_refl _,by first | rfl | (rw [h15];rfl),by first | rfl | go_num,by have h1:=HTk.out;have h2:=HRl.out 14;omega,fun _=>HTk.out,hO0,fun s=>by rw [Nat.zero_add];exact HLn2.out s,Chg.refl _ _⟩
        case round=>
          clear hO0
          obtain⟨q,t,cF,hq,rfl,rfl,ht,HT,hO,HF,hc⟩:=hrel
          rcases Nat.eq_zero_or_pos q with rfl | hp
          · have hnl:¬(0:Int)<=((0:Nat):Int) - 1:=by omega
            have HE:Hid (RB=cntB often.length cF):=by
              show _=_;rw [HB.out];exact cntB_congr _ _ _ fun s=>by rw [HF.out s];simp [dR]
            clear HT HF
            go_wp2_with fail
            go_ret2
            exact⟨_,rfl,by rw [HE.out];exact hO,Chg.below hfw hc hfw.size (fun i hi=>by rw [hi];exact hg)⟩
          · obtain⟨r,rfl⟩:∃ r,q=r+1:=⟨q - 1,by omega⟩
            have htr:=HT.out hp
            simp only [Nat.add_sub_cancel]at htr
            have er:((r+1:Nat):Int) - 1=(r:Int):=by omega
            rw [er]
            have hr0:(0:Int)<=(r:Int):=by omega
            have hr15:r<hs.length:=by omega
            have hr15':(r:Int)<hs.length:=by omega
            have hwr:IntKind.i64.wrap ((r:Int) - 1)=(r:Int) - 1:=IntWalk.i64_in _ (by omega)
            obtain⟨b,off,cp,hv2,c0⟩:=(HStV.out _ hc).cell1 (fun h:Hd=>h.v) rfl r hr15
            cases hv2
            have hSr:=HStR.out _ hc r hr15
            obtain⟨xa,xc,hxv,hx1,hx2,_⟩:=hSr.shape
            rw [hxv]at c0 hSr
            obtain⟨hrun,hSt⟩:=run_to eIt 423 Tryz.underlying423 hSr t htr
            have HRun:=hid hrun
            have hRm:=HRoom.out r t htr
            have HTb:Hid (t<=600):=by show _<=_;have:=HRl.out r;omega
            have HDr:Hid (∀ s,ln s=cF s+((symsI (lv.take (leavesN ((rowI lv r).take t)))).count s+dR lv r (2*(t - leavesN ((rowI lv r).take t))) s)):=fun s=>HF.out s
            have HSr2:Hid (∀ W,Chg (fun k=>k=w1.heap.size) wm W->See W eIt (.slice xa t xc) ((rowI lv r).take t)):=fun W h=>by
              have:=HStR.out W h r hr15
              rw [hxv]at this
              exact(run_to eIt 423 Tryz.underlying423 this t htr).2
            clear hxv hSr hSt HT HF er
            have hlr:((rowI lv r).take t).length=t:=by rw [List.length_take];omega
            generalize hrow:(rowI lv r).take t=rw0 at *
            have hlr2:=hlr
            have HLR:=hid hlr2
            have hxc:t<=xc:=by omega
            clear hlr hlr2 htr hrow
            go_wp2_with fail
            generalize wr=wq at *
            go_loopw [12,86] (fun nv jv wr=>∃ (j:Nat) (cG:Nat->Nat),j<=t/\jv=N j/\nv=N (leavesN (rw0.take j))/\Ow wr w.heap.size eB (.slice (some ⟨w1.heap.size,0,none⟩) often.length often.length) (cntB often.length cG)/\Hid (∀ s,cG s=cF s+(symsI (lv.take (leavesN (rw0.take j)))).count s)/\Chg (fun k=>k=w1.heap.size) wm wr) (fun _ jv _=>t - (intOf jv).toNat)
            case atStart=>exact⟨0,cF,Nat.zero_le _,rfl,rfl,hO,fun s=>by simp [leavesN,symsI],hc⟩
            case round=>
              clear hO hc
              obtain⟨j,cG,hj,rfl,rfl,hO,HG,hc⟩:=hrel
              by_cases hjt:j<t
              · have hjt':(j:Int)<t:=by omega
                have hjl:j<rw0.length:=by rw [HLR.out];exact hjt
                obtain⟨b2,off2,cp2,hv3,c1,c2⟩:=itAt (HSr2.out _ hc) j hjl
                rw [HLR.out]at hv3
                cases hv3
                have HN1:=hid (leavesN_snoc rw0 j hjl)
                have HMo:=hid (leavesN_mono rw0 (j+1) t (by omega))
                rw [show rw0.take t=rw0 by rw [<- HLR.out,List.take_length]]at HMo
                generalize rw0[j]=x at *
                have i1:(0:Int)<=j:=by omega
                have hA:Fr wr (wr.alloc (.cells #[.int .u64 (x.w.toNat:Int),.bool x.leaf] 428)):=(Fr.refl wr).alloc _
                have hB:(wr.alloc (.cells #[.int .u64 (x.w.toNat:Int),.bool x.leaf] 428)).heap[wr.heap.size]?=some (.cells #[.int .u64 (x.w.toNat:Int),.bool x.leaf] 428 (0,0)):=heap_new _ _ _ rfl
                have c3:(wr.alloc (.cells #[.int .u64 (x.w.toNat:Int),.bool x.leaf] 428)).cell? ⟨wr.heap.size,1,none⟩=some (.bool x.leaf):=by rw [cell_of_heap hB];rfl
                clear hB
                have hO2:=hO.fr hA
                have hc2:=hc.trans (hA.chg (fun k=>k=w1.heap.size)) (fun _ _ h=>h)
                clear hO hc hA
                go_upto_region 23 with fail
                generalize wr.alloc (.cells #[.int .u64 (x.w.toNat:Int),.bool x.leaf] 428)=wx at *
                by_cases hlf:x.leaf=true
                · rw [if_pos hlf]at HN1
                  have hnl:leavesN (rw0.take j)<us.length:=by have h1:=HMo.out;have h2:=hRm.2.1;have h3:=HN1.out;have h4:=HLV.out;omega
                  obtain⟨b4,off4,cp4,hv4,c4⟩:=jAt (HStS.out _ hc2) (leavesN (rw0.take j)) hnl
                  cases hv4
                  have hsyb:=HUM.out _ (List.getElem_mem hnl)
                  have HSm:Hid (∀ s,(symsI (lv.take (leavesN (rw0.take j)+1))).count s=(symsI (lv.take (leavesN (rw0.take j)))).count s+if us[leavesN (rw0.take j)]=s then 1 else 0):=fun s=>by
                    have h1:=HSyms.out _ hnl
                    have hlt2:leavesN (rw0.take j)<lv.length:=by rw [HLV.out];exact hnl
                    rw [List.getElem?_eq_getElem hlt2]at h1
                    rw [symsI_snoc lv _ hlt2 _ (Option.some.inj h1),List.count_append,List.count_singleton]
                    simp
                  have HN2:Hid (leavesN (rw0.take (j+1))=leavesN (rw0.take j)+1):=HN1.out
                  generalize us[leavesN (rw0.take j)]=sy at *
                  generalize leavesN (rw0.take j)=nn at *
                  have hcl:=cntB_len often.length cG
                  obtain⟨d1,d2⟩:=hO2.cellAt (fun c=>Fk.u8 c) rfl sy (by rw [hcl];exact hsyb)
                  have hcat:(cntB often.length cG)[sy]'(by rw [hcl];exact hsyb)=UInt8.ofNat (cG sy):=by simp [cntB]
                  rw [hcat]at d1
                  replace d1:wx.cell? ⟨w1.heap.size,sy,none⟩=some (.int .u8 ((UInt8.ofNat (cG sy)).toNat:Int)):=d1
                  have hinc:=u8_inc (cG sy)
                  have HSt:=hid (hO2.set (fun c=>Fk.u8 c) rfl sy (by rw [hcl];exact hsyb) (UInt8.ofNat (cG sy+1)) (.int .u8 ((UInt8.ofNat (cG sy+1)).toNat:Int)) rfl)
                  rw [cntB_set]at HSt
                  have HG2:Hid (∀ s,(if s=sy then cG sy+1 else cG s)=cF s+(symsI (lv.take (nn+1))).count s):=fun s=>by
                    rw [HSm.out s]
                    by_cases e:s=sy
                    · subst e;rw [if_pos rfl,if_pos rfl,HG.out s];omega
                    · rw [if_neg e,if_neg (Ne.symm e),HG.out s];omega
                  have hcx:=UInt8.toNat_lt (UInt8.ofNat (cG sy))
                  clear HG HSm hcat hcl
                  have i2:(0:Int)<=nn:=by omega
                  have i3:(nn:Int)<us.length:=by omega
                  have i4:(0:Int)<=sy:=by omega
                  have i5:(sy:Int)<often.length:=by omega
                  have hnw:IntKind.i64.wrap ((nn:Int)+1)=((nn+1:Nat):Int):=by rw [IntWalk.i64_in _ (by have:=hUL.out;omega)];omega
                  rw [hlf]at c3
                  generalize (UInt8.ofNat (cG sy)).toNat=cv0 at *
                  generalize (UInt8.ofNat (cG sy+1)).toNat=cv1 at *
                  go_wp2_with fail
                  go_roundw
                  case rel=>exact⟨j+1,(fun s=>if s=sy then cG sy+1 else cG s),by omega,by go_num,by rw [HN2.out];first | rfl | go_num,HSt.out,by rw [HN2.out];exact HG2.out,hc2.trans (setCell_chg wx _ _) (fun _ _ h=>h)⟩
                  case measure=>simp [intOf];omega
                · have hlf2:x.leaf=false:=by simpa using hlf
                  rw [if_neg hlf,Nat.add_zero]at HN1
                  rw [hlf2]at c3
                  go_wp2_with fail
                  go_roundw
                  case rel=>exact⟨j+1,cG,by omega,by go_num,by rw [HN1.out];exact rfl,hO2,by rw [HN1.out];exact HG.out,hc2⟩
                  case measure=>simp [intOf];omega
              · obtain rfl:j=t:=by omega
                have hnl:¬((j:Int)<j):=by omega
                have hrt:rw0.take j=rw0:=by rw [<- HLR.out,List.take_length]
                rw [hrt]at HG ⊢
                have h1:=hRm.1
                have h2:=hRm.2.2
                generalize leavesN rw0=nn at *
                have hw3:IntKind.i64.wrap ((j:Int) - nn)=((j - nn:Nat):Int):=by rw [IntWalk.i64_in _ (by omega)];omega
                have hw4:IntKind.i64.wrap (2*((j - nn:Nat):Int))=((2*(j - nn):Nat):Int):=by rw [IntWalk.i64_in _ (by omega)];omega
                have HF2:Hid (∀ s,ln s=cG s+dR lv r (2*(j - nn)) s):=fun s=>by rw [HDr.out s,HG.out s];omega
                have H2:=hid h2
                have hb3:2*(j - nn)<=1200:=by
                  rcases Nat.eq_zero_or_pos r with e | e
                  · have:=HRl.out 0;subst e;have h4:=HLR.out;have h5:=HTb.out;omega
                  · have:=h2 e;have h6:=HRl.out (r - 1);omega
                clear HG HDr hRm h2
                generalize 2*(j - nn)=t2 at *
                generalize j - nn=t3 at *
                go_wp2_with fail
                go_roundw
                case rel=>exact⟨r,t2,cG,by omega,by first | rfl | go_num,by first | rfl | go_num,hb3,H2.out,hO,HF2,hc⟩
                case measure=>simp [intOf]
set_option maxRecDepth 512
theorem downI_le(lv:List It)(s:Nat):∀ r t,downI lv r t s<=(r+1)*(symsI lv).count s:=by
 have ht:∀ k,(symsI (lv.take k)).count s<=(symsI lv).count s:=fun k=>by
  conv=>rhs;rw [<- List.take_append_drop k lv,symsI_app,List.count_append]
  omega
 intro r
 induction r with
 | zero=>intro t;have:=ht (leavesN ((rowI lv 0).take t));rw [downI];omega
 | succ r ih=>
  intro t
  rw [downI]
  have h1:=ht (leavesN ((rowI lv (r+1)).take t))
  have h2:=ih (2*(t - leavesN ((rowI lv (r+1)).take t)))
  rw [Nat.add_mul (r+1) 1];omega
theorem symsI_leaves(often:List Nat):∀ l:List Nat,symsI (leavesL often l)=l:=by
 intro l
 induction l with
 | nil=>rfl
 | cons x l ih=>
  show symsI (_::leavesL often l)=_
  rw [symsI_cons,ih];rfl
theorem symsU_rise(often:List Nat):(symsU often).Pairwise (·<·):=by
 unfold symsU
 exact List.pairwise_lt_range.filter _
theorem lenN_le(often:List Nat)(s:Nat):lenN often s<=15:=by
 unfold lenN
 split
 · omega
 · split
   · split <;> omega
   · have hc:(usedL often).count s<=1:=by
       have hp:=usedK_perm (fun s=>often.getD s 0) (symsU often) (symsU_rise often)
       unfold usedL
       rw [hp.count_eq]
       exact List.nodup_iff_count.1 ((symsU_rise often).imp fun {a b} h e=>by omega) s
     generalize 2*(usedL often).length - 2=t
     have hl:=leavesL_leaf often (usedL often)
     have e:(rowI (leavesL often (usedL often)) 14).take t=(rowI (leavesL often (usedL often)) 14).take (min t (rowI (leavesL often (usedL often)) 14).length):=by
      rcases Nat.le_total t (rowI (leavesL often (usedL often)) 14).length with h | h
      · rw [Nat.min_eq_left h]
      · rw [Nat.min_eq_right h,List.take_of_length_le h,List.take_length]
     rw [e,down_eq _ hl s 14 _ (Nat.min_le_right _ _)]
     have:=downI_le (leavesL often (usedL often)) s 14 (min t (rowI (leavesL often (usedL often)) 14).length)
     rw [symsI_leaves]at this
     omega
theorem lensB_len(often:List Nat):(lensB often).length=often.length:=cntB_len _ _
theorem lensB_15(often:List Nat):∀ c∈lensB often,c.toNat<=15:=by
 intro c hc
 unfold lensB cntB at hc
 obtain⟨s,_,rfl⟩:=List.mem_map.1 hc
 have:=lenN_le often s
 rw [UInt8.toNat_ofNat'];omega
end Go.Proofs.YtghcmindankceaaGreatDoor
