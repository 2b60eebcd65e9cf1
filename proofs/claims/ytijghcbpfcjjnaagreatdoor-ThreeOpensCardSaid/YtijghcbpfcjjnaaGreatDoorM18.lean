/- Parts of the proof of ThreeOpens: Nh Cr1 Cr2 Cr5. -/
import Derived.Test.YtijghcbpfcjjnaaGreatDoorM10
import Derived.Test.YtijghcbpfcjjnaaGreatDoorM06
import Derived.Test.YtijghcbpfcjjnaaGreatDoorM15
import Derived.Deep.RegionHeldLaw
import Derived.Test.YtijghcbpfcjjnaaGreatDoorM05
import Derived.Test.YtijghcbpfcjjnaaGreatDoorM16
set_option linter.unusedVariables false
set_option linter.unusedSectionVars false
set_option linter.unusedSimpArgs false
set_option maxHeartbeats 8000000
namespace Go.Proofs.YtijghcbpfcjjnaaGreatDoor
open Go.RowKit Go.Fk
set_option maxRecDepth 100000
theorem RLeft_any(B base n er:Nat)(l:List UInt8)(w:World)(hc:CurF w 99 B base l n er)(hl:l.length<=1000000) :
  Calls Tryz.prog 93 #[.pointer (some ⟨B,0,none⟩)] w fun e w'=>e=.returned (.int .i64 ((l.length:Int) - n))/\Qt w w':=by
 obtain⟨⟨v,h1,ho⟩,hle⟩:=hc
 obtain⟨a0,cap,hv⟩:=ho.shape'
 subst hv
 have c0:w.cell? ⟨B,0,none⟩=some (.slice a0 l.length cap):=by rw [cell_of_heap h1];rfl
 have c1:w.cell? ⟨B,1,none⟩=some (N n):=by rw [cell_of_heap h1];rfl
 have hw:IntKind.i64.wrap ((l.length:Int) - n)=(l.length:Int) - n:=IntWalk.i64_in _ (by omega)
 clear h1 ho
 go_enter Tryz.func93, Tryz.ntmps93
 go_wp2_with fail
 go_quiet (fail)
 go_wp2_with fail
 go_ret
 exact⟨rfl,Qt.drewN _ _⟩
theorem RTake_yes (B base n k : Nat) (l : List UInt8) (w : World) (hc : CurF w 99 B base l n 0) (hk : n + k ≤ l.length) (hl : l.length ≤ 1000000) (hb : base ≤ w.heap.size) :
    Calls Tryz.prog 89 #[.pointer (some ⟨B,0,none⟩),N k] w fun e w'=>∃ u,e=.returned u/\Ow w' w.heap.size eB u ((l.drop n).take k)/\CurF w' 99 B base l (n+k) 0/\Chg (fun b=>b=B) w w':=by
  have HL:=hid (RLeft_any B base n 0 l w hc hl)
  have hBw:B<w.heap.size:=by obtain⟨⟨v,h1,_⟩,_⟩:=hc;exact(Array.getElem?_eq_some_iff.1 h1).1
  obtain⟨⟨v,h1,ho⟩,hle⟩:=hc
  obtain⟨a0,cap,hv⟩:=ho.shape'
  subst hv
  have c2:w.cell? ⟨B,2,none⟩=some (.int .i64 0):=by rw [cell_of_heap h1];rfl
  have j1:¬(k:Int)<0:=by omega
  have j2:¬(l.length:Int) - n<k:=by omega
  have hqe:(l.take (n+k)).drop n=(l.drop n).take k:=by rw [List.drop_take,Nat.add_sub_cancel_left]
  obtain⟨f1,f2,hmid,hms⟩:=run_mid eB 22 Tryz.underlying22 ho.see n (n+k) (by omega) hk
  rw [hqe,Nat.add_sub_cancel_left]at *
  have hmid2:∀ W,(Instr.slice 22 (.slice a0 l.length cap) (some (.int .i64 (n:Int))) (some (.int .i64 ((n:Int)+k))) none).run Tryz.prog W=.ok (.slice f1 k f2) W:=hmid
  have hw:IntKind.i64.wrap ((n:Int)+k)=(n:Int)+k:=IntWalk.i64_in _ (by omega)
  have hQ:Hid (((l.drop n).take k).length=k):=by show _=_;rw [List.length_take,List.length_drop];omega
  have h6:Hid (n+k<=l.length/\l.length<=1000000):=⟨hk,hl⟩
  have HO:=hid ho
  clear hqe ho hmid hk hl hle
  generalize (l.drop n).take k=q at *
  go_enter Tryz.func89, Tryz.ntmps89
  go_wp2_with fail
  refine(HL.out).mono ?_
  rintro e w1 ⟨rfl,hq1⟩
  have hf1:=hq1.fr
  have k1:=hf1.heap h1
  have d0:w1.cell? ⟨B,0,none⟩=some (.slice a0 l.length cap):=by rw [cell_of_heap k1];rfl
  have d1:w1.cell? ⟨B,1,none⟩=some (N n):=by rw [cell_of_heap k1];rfl
  have o1:=HO.out.fr hf1
  have s1:=hms.fr hf1
  have hsz:=hf1.size
  clear HL hq1 c2 hms
  have own0:∀ W:World,w1.heap.size<=W.heap.size->Ow (W.alloc (.cells #[] 5)) w1.heap.size eB (.slice (some ⟨W.heap.size,0,none⟩) 0 0) []:=fun W h=>own_lit eB W #[] [] 0 rfl (Nat.zero_le _) h
  have keepF:∀ W,Fr w1 W->W.cell? ⟨B,0,none⟩=some (.slice a0 l.length cap)/\W.cell? ⟨B,1,none⟩=some (N n):=fun W h=>⟨h.cell d0,h.cell d1⟩
  have hk0:=keepF _ (Fr.refl w1).drew
  have hk1:=keepF _ ((Fr.refl w1).alloc (.cells #[] 5))
  have hk2:=keepF _ (((Fr.refl w1).alloc (.cells #[] 5)).drew)
  have hk3:=keepF _ (((Fr.refl w1).drew).alloc (.cells #[] 5))
  have HS1:=hid s1
  have HD0:=hid d0
  have HD1:=hid d1
  clear s1 o1
  go_upto_region 2 with fail
  go_region_held_law (fun W => W.cell? ⟨B, 0, none⟩ = some (.slice a0 l.length cap) ∧ W.cell? ⟨B, 1, none⟩ = some (N n))
    (first | exact hk0 | exact hk1 | exact hk2 | exact hk3 | exact hk4 | go_keep)
    (((first
        | refine step_app eB rfl (.tmp 23) (.tmp 38) 22 rfl Tryz.underlying22 w1.heap.size rfl ((own0 w1 (Nat.le_refl _)).drew) _ q rfl (HS1.out.fr ((Fr.refl w1).alloc _).drew) (by have := hQ.out; have := h6.out; simp; omega) (by simp) ?_
        | refine step_app eB rfl (.tmp 23) (.tmp 38) 22 rfl Tryz.underlying22 w1.heap.size rfl (own0 w1.drew (Nat.le_refl _)) _ q rfl (HS1.out.fr ((Fr.refl w1).drew.alloc _)) (by have := hQ.out; have := h6.out; simp; omega) (by simp) ?_)
      intro v' w4 hap
      have own4 := hap.own
      have hf4 : Fr w1 w4 := by first | exact hap.below ((own0 w1 (Nat.le_refl _)).drew) (((Fr.refl w1).alloc _).drew) (Nat.le_refl _) (by simp) | exact hap.below (own0 w1.drew (Nat.le_refl _)) ((Fr.refl w1).drew.alloc _) (Nat.le_refl _) (by simp)
      have hk4 := keepF w4 hf4
      clear hap))
  obtain⟨x0,x1⟩:=hk4
  have m4:=hf4.heap k1
  have x2:=frozen_of_heap m4 1
  have hown:Ow w4 w1.heap.size eB v' q:=by simpa using own4
  obtain⟨p,z,hq⟩:=hown.shape'
  subst hq
  have hst:=setCell_chg w4 ⟨B,1,none⟩ (.int .i64 ((n:Int)+k))
  have hg:=heap_setCell_own m4 1 (.int .i64 ((n:Int)+k))
  have hB1:∀ i,(Value.slice p q.length z).ownBlock=some i->¬i=B:=fun i hi e=>by have:=(hown.lt i hi).1;omega
  have hB2:∀ i,(Value.slice a0 l.length cap).ownBlock=some i->¬i=B:=fun i hi e=>HO.out.ne_cells h1 (by decide) (by rw [hi,e])
  clear hk0 hk1 hk2 hk3 keepF own0 own4 d0 d1
  go_wp2_with fail
  go_ret
  refine⟨_,rfl,(hown.chg hst hB1).rebase hsz,⟨⟨_,?_,((HO.out.fr hf1).fr hf4).chg hst hB2⟩,h6.out.1⟩,?_⟩
  · exact hg
  · exact((hf1.trans hf4).chg _).trans hst (fun i _ e=>e)
theorem RFixed_yes (B base n k : Nat) (l : List UInt8) (w : World) (hc : CurF w 99 B base l n 0) (hk1 : 1 ≤ k) (hk8 : k ≤ 8) (hk : n + k ≤ l.length) (hl : l.length ≤ 1000000) (hb : base ≤ w.heap.size) :
    Calls Tryz.prog 41 #[.pointer (some ⟨B,0,none⟩),N k] w fun e w'=>e=.returned (.int .u64 (leN ((l.drop n).take k):Int))/\CurF w' 99 B base l (n+k) 0/\Chg (fun b=>b=B) w w':=by
  have HT:=hid (RTake_yes B base n k l w hc hk hl hb)
  have c2:w.cell? ⟨B,2,none⟩=some (.int .i64 0):=by
    obtain⟨⟨v,h1,_⟩,_⟩:=hc
    rw [cell_of_heap h1];rfl
  have hql:((l.drop n).take k).length=k:=by rw [List.length_take,List.length_drop];omega
  have HQl:=hid hql
  have h1:¬(k:Int)<1:=by omega
  have h8:¬(8:Int)<k:=by omega
  have HStep:=hid (fun i (h:i<((l.drop n).take k).length)=>show leN (((l.drop n).take k).drop i)=(((l.drop n).take k)[i]).toNat+256*leN (((l.drop n).take k).drop (i+1))from by rw [List.drop_eq_getElem_cons h];rfl)
  have HAll:Hid (leN (((l.drop n).take k).drop 0)=leN ((l.drop n).take k)):=rfl
  have HZ:Hid (leN (((l.drop n).take k).drop k)=0):=by show _=_;rw [List.drop_of_length_le (by omega)];rfl
  have HLt:Hid (∀ i,leN (((l.drop n).take k).drop i)<256 ^ 8):=fun i=>by
    refine Nat.lt_of_lt_of_le (leN_lt _) (Nat.pow_le_pow_right (by omega) ?_)
    rw [List.length_drop,hql];omega
  clear hc hql
  generalize (l.drop n).take k=q at *
  go_enter Tryz.func41, Tryz.ntmps41
  go_wp2_with fail
  refine(HT.out).mono ?_
  rintro e w1 ⟨u,rfl,hO,hC,hch⟩
  obtain⟨p,z,hq⟩:=hO.shape'
  rw [HQl.out]at hq
  subst hq
  have HO:=hid hO.see
  have hw:IntKind.i64.wrap ((k:Int) - 1)=(k:Int) - 1:=IntWalk.i64_in _ (by omega)
  clear hO HT
  go_wp2_with fail
  go_loop [6,7] (fun xv iv=>∃ i:Nat,i<=k/\iv=.int .i64 ((i:Int) - 1)/\xv=.int .u64 (leN (q.drop i):Int)) (fun _ iv=>(intOf iv+1).toNat)
  case atStart=>exact⟨k,Nat.le_refl _,rfl,by rw [HZ.out];rfl⟩
  case round=>
    obtain⟨i,hi,rfl,rfl⟩:=hrel
    cases i with
    | succ i=>
      have hiq:i<q.length:=by rw [HQl.out];omega
      obtain⟨b,off,cp,hv,c0⟩:=HO.out.cell1 Fk.u8 rfl i hiq
      simp only [Value.slice.injEq]at hv
      obtain⟨rfl,_,rfl⟩:=hv
      have d0:w1.cell? ⟨b,off+i,none⟩=some (.int .u8 (q[i].toNat:Int)):=c0
      clear c0
      have i0:(((i+1:Nat):Int) - 1)=(i:Int):=by omega
      have i1:(i:Int)<k:=by omega
      have i2:(0:Int)<=i:=by omega
      have HSt:=hid (HStep.out i hiq)
      have hlti:=HLt.out i
      have hbl:=q[i].toNat_lt
      generalize q[i].toNat=bb at *
      have hp9:(256:Nat) ^ 8=18446744073709551616:=by decide
      have HB:Hid (IntKind.u64.wrap (IntKind.u64.wrap ((leN (q.drop (i+1)):Int)*256)+(bb:Int))=((leN (q.drop i):Nat):Int)):=by
        show _=_
        have:=HSt.out
        rw [IntWalk.u64_in ((leN (q.drop (i+1)):Int)*256) (by omega),IntWalk.u64_in _ (by omega)]
        omega
      have hw2:IntKind.i64.wrap ((i:Int) - 1)=(i:Int) - 1:=IntWalk.i64_in _ (by omega)
      clear hp9 hlti HSt
      rw [i0]
      go_wp2_with fail
      go_round
      case rel=>exact⟨i,by omega,rfl,by rw [HB.out]⟩
      case measure=>first | (simp [intOf];done) | (simp [intOf];omega)
    | zero=>
      have hnl:¬((0:Int)<=((0:Nat):Int) - 1):=by omega
      have HA:=hid HAll.out
      rw [HAll.out]
      go_wp2_with fail
      go_ret
      exact⟨rfl,hC,hch⟩
set_option maxRecDepth 512
set_option maxRecDepth 100000
theorem Rscan_any(v:Value)(l:List UInt8)(at_:Nat)(w:World)(hs:See w eB v l)(hl:l.length<=1000000)(ha:at_<=l.length) :
  Calls Tryz.prog 147 #[v,N at_] w fun e w'=>e=.returned (.tuple #[.int .u64 ((numL (l.drop at_)).1:Int),N (at_+(numL (l.drop at_)).2.1),.int .i64 ((numL (l.drop at_)).2.2:Int)])/\w=w':=by
 obtain⟨a0,cap,hv,_⟩:=hs.shape
 subst hv
 have HS:=hid hs
 have HN:Hid (numL (l.drop at_)=numGo 0 0 ((l.drop at_).drop 0)):=rfl
 have hdl:(l.drop at_).length=l.length - at_:=List.length_drop ..
 have HG:Hid (∀ i (h:i<(l.drop at_).length) (h2:at_+i<l.length),(l.drop at_)[i]=l[at_+i]):=fun i h h2=>by rw [List.getElem_drop]
 clear hs
 generalize hq:l.drop at_=q at *
 have HQ:=hid hq
 clear hq
 generalize numL q=R at *
 go_enter Tryz.func147, Tryz.ntmps147
 go_wp2_with fail
 go_loop [7,8,9] (fun xv mv iv=>∃ i x m:Nat,i<=q.length/\i<=9/\iv=N i/\xv=.int .u64 (x:Int)/\mv=.int .u64 (m:Int)/\Hid (m=128 ^ i)/\Hid (x<128 ^ i)/\Hid (R=numGo i x (q.drop i))) (fun _ _ iv=>q.length - (intOf iv).toNat)
 case atStart=>exact⟨0,0,1,Nat.zero_le _,by omega,rfl,rfl,rfl,rfl,by show 0<_;decide,HN.out⟩
 case round=>
  obtain⟨i,x,m,hi,hi9,rfl,rfl,rfl,HMm,HX,HR⟩:=hrel
  clear HN
  have hw1:IntKind.i64.wrap ((at_:Int)+i)=(at_:Int)+i:=IntWalk.i64_in _ (by omega)
  by_cases hlt:i<q.length
  · have hal:at_+i<l.length:=by omega
    obtain⟨b,off,cp,hv,c0⟩:=HS.out.cell1 Fk.u8 rfl (at_+i) hal
    cases hv
    have d0:w.cell? ⟨b,off+(at_+i),none⟩=some (.int .u8 (q[i].toNat:Int)):=by rw [HG.out i hlt hal];exact c0
    have HR2:=hid (numGo_step q i x hlt)
    have hcb:=q[i].toNat_lt
    clear c0
    generalize q[i].toNat=c at *
    have i1:¬(l.length:Int)<=(at_:Int)+i:=by omega
    have i2:(0:Int)<=(at_:Int)+i:=by omega
    have i3:((at_:Int)+i).toNat=at_+i:=by omega
    have i4:(at_:Int)+i<l.length:=by omega
    clear hdl
    by_cases hf:(i=9/\¬c=1)\/(0<i/\c=0)
    · have HE:Hid (R=(0,0,2)):=by show _=_;rw [HR.out,HR2.out,if_pos hf]
      clear HR HR2 HX HMm
      by_cases h9:i=9
      · subst h9
        have k1:¬(c:Int)=1:=by omega
        clear hf
        go_wp2_with fail
        go_ret3
        rw [HE.out]
        exact⟨rfl,rfl⟩
      · have k0:¬(i:Int)=9:=by omega
        have k1:(0:Int)<i:=by omega
        have k2:c=0:=by omega
        subst k2
        clear hf h9
        go_wp2_with fail
        go_ret3
        rw [HE.out]
        exact⟨rfl,rfl⟩
    · have hf2:¬(i=9/\¬c=1):=fun h=>hf (.inl h)
      have hnx:=num_next i c x hi9 hcb HX.out hf2
      have hm1:m*128=128 ^ (i+1):=by rw [HMm.out,Nat.pow_succ]
      rw [<- HMm.out]at hnx
      by_cases h9:i=9
      · have hc1:c=1:=by omega
        subst h9 hc1
        have hm9:m=9223372036854775808:=HMm.out
        have hx9 : x < 9223372036854775808 := by have := HX.out; have e9 : (128 : Nat) ^ 9 = 9223372036854775808 := by decide
                                                 omega
        have HE:Hid (R=(x+m,10,0)):=by
         show _=_;rw [HR.out,HR2.out,if_neg hf,if_pos (by omega),HMm.out]
        have w2:IntKind.u64.wrap (m:Int)=(m:Int):=IntWalk.u64_in _ (by omega)
        have w4:IntKind.u64.wrap ((x:Int)+m)=(x:Int)+m:=IntWalk.u64_in _ (by omega)
        have w0:IntKind.u64.wrap 1=1:=by decide
        have HW:=hid w4
        clear hnx hf hf2 HR HR2 HX HMm hm1 hm9 hx9
        go_wp2_with fail
        go_ret3
        rw [HE.out]
        exact⟨by simp [N];omega,rfl⟩
      have w0:IntKind.u64.wrap (c:Int)=(c:Int):=IntWalk.u64_in _ (by omega)
      have w1:IntKind.u64.wrap ((c:Int) % 128)=(c:Int) % 128:=IntWalk.u64_in _ (by omega)
      have w2:IntKind.u64.wrap ((c:Int) % 128*m)=((c % 128*m:Nat):Int):=by rw [show(c:Int) % 128*m=((c % 128*m:Nat):Int) by simp];exact IntWalk.u64_in _ (by omega)
      have HR3:Hid (R=if c<128 then(x+c % 128*m,i+1,0)else numGo (i+1) (x+c % 128*m) (q.drop (i+1))):=by show _=_;rw [HR.out,HR2.out,if_neg hf,HMm.out]
      have HF:=hid hf
      have HNx:=hid hnx.1
      have w4:IntKind.u64.wrap ((x:Int)+((c % 128*m:Nat):Int))=((x+c % 128*m:Nat):Int):=by rw [IntWalk.u64_in _ (by rw [<- Int.natCast_add];omega)];simp
      have HM1:=hid hm1
      have HMb:Hid (i<=8->m*128<18446744073709551616):=fun h=>by
       rw [HM1.out];have:=pow128 (i+1) (by omega);omega
      have k0:¬(i:Int)=9:=by omega
      have hi8:i<=8:=by omega
      clear HR HR2 hf hnx hf2 hm1 h9 hi9
      generalize c % 128*m=y at *
      by_cases hi0:0<i
      · have k1:(0:Int)<i:=by omega
        have k2:¬(c:Int)=0:=by have:=HF.out;omega
        clear HF
        by_cases hc:c<128
        · have k3:(c:Int)<128:=by omega
          have HE:Hid (R=(x+y,i+1,0)):=by show _=_;rw [HR3.out,if_pos hc]
          have w6:IntKind.i64.wrap ((at_:Int)+i+1)=(at_:Int)+i+1:=IntWalk.i64_in _ (by omega)
          clear HR3
          go_wp2_with fail
          go_ret3
          rw [HE.out]
          exact⟨by simp [N];try omega,rfl⟩
        · have k3:¬(c:Int)<128:=by omega
          have HE:Hid (R=numGo (i+1) (x+y) (q.drop (i+1))):=by show _=_;rw [HR3.out,if_neg hc]
          have w6:IntKind.u64.wrap ((m:Int)*128)=(m:Int)*128:=IntWalk.u64_in _ (by have:=HMb.out hi8;omega)
          clear HR3
          go_wp2_with fail
          go_round
          case rel=>exact⟨i+1,x+y,m*128,by omega,by omega,by go_num,rfl,by simp,HM1.out,HNx.out,HE.out⟩
          case measure=>simp [intOf];omega
      · have k1:¬(0:Int)<i:=by omega
        clear HF
        by_cases hc:c<128
        · have k3:(c:Int)<128:=by omega
          have HE:Hid (R=(x+y,i+1,0)):=by show _=_;rw [HR3.out,if_pos hc]
          have w6:IntKind.i64.wrap ((at_:Int)+i+1)=(at_:Int)+i+1:=IntWalk.i64_in _ (by omega)
          clear HR3
          go_wp2_with fail
          go_ret3
          rw [HE.out]
          exact⟨by simp [N];try omega,rfl⟩
        · have k3:¬(c:Int)<128:=by omega
          have HE:Hid (R=numGo (i+1) (x+y) (q.drop (i+1))):=by show _=_;rw [HR3.out,if_neg hc]
          have w6:IntKind.u64.wrap ((m:Int)*128)=(m:Int)*128:=IntWalk.u64_in _ (by have:=HMb.out hi8;omega)
          clear HR3
          go_wp2_with fail
          go_round
          case rel=>exact⟨i+1,x+y,m*128,by omega,by omega,by go_num,rfl,by simp,HM1.out,HNx.out,HE.out⟩
          case measure=>simp [intOf];omega
  · have hqe:q.length<=i:=by omega
    have HE:Hid (R=(0,0,1)):=by show _=_;rw [HR.out,numGo_end q i x hqe]
    have j1:(l.length:Int)<=(at_:Int)+i:=by omega
    clear hdl HMm HX HR
    go_wp2_with fail
    go_ret3
    rw [HE.out]
    exact⟨rfl,rfl⟩
theorem RNum_cur (B base : Nat) (s : Cs) (l : List UInt8) (w : World) (hc : CurF w 99 B base l s.at_ s.er) (hl : l.length ≤ 1000000) :
    Calls Tryz.prog 92 #[.pointer (some ⟨B,0,none⟩)] w fun e w'=>e=.returned (.int .u64 ((s.num l).1:Int))/\CurF w' 99 B base l (s.num l).2.at_ (s.num l).2.er/\Chg (fun b=>b=B) w w':=by
  have HC:=hid hc
  obtain⟨⟨v,h1,hO⟩,hle⟩:=hc
  have c2:w.cell? ⟨B,2,none⟩=some (.int .i64 (s.er:Int)):=by rw [cell_of_heap h1];rfl
  by_cases h0:s.er=0
  · have HN:Hid (s.num l=((numL (l.drop s.at_)).1,⟨s.at_+(numL (l.drop s.at_)).2.1,(numL (l.drop s.at_)).2.2⟩)):=by
      show _=_
      unfold Cs.num Cs.val Cs.step
      by_cases hz:(numL (l.drop s.at_)).2.2=0
      · simp [h0,hz]
      · have:=numL_no _ hz
        simp [h0,hz,this.1,this.2.1]
    rw [HN.out]
    have c2:w.cell? ⟨B,2,none⟩=some (.int .i64 0):=by rw [cell_of_heap h1,h0];rfl
    have hlq:s.at_+(numL (l.drop s.at_)).2.1<=l.length:=by
      by_cases hz:(numL (l.drop s.at_)).2.2=0
      · have:=numL_ok _ hz;rw [List.length_drop]at this;omega
      · have:=numL_no _ hz;omega
    obtain⟨a0,cap,hv⟩:=hO.shape'
    subst hv
    have HS:=hid (fun m=>Rscan_any _ l s.at_ (w.drewN m) ((hO.fr ((Fr.refl w).drewN m)).see) hl hle)
    have c0:w.cell? ⟨B,0,none⟩=some (.slice a0 l.length cap):=by rw [cell_of_heap h1];rfl
    have c1:w.cell? ⟨B,1,none⟩=some (N s.at_):=by rw [cell_of_heap h1];rfl
    have HL:=hid hlq
    clear hlq hle
    generalize (numL (l.drop s.at_)).1=x at *
    generalize (numL (l.drop s.at_)).2.2=er at *
    generalize s.at_+(numL (l.drop s.at_)).2.1=n2 at *
    generalize s.at_=n at *
    go_enter Tryz.func92, Tryz.ntmps92
    go_wp2_with fail
    go_quiet ((go_at_call 147;exact Calls.quiet_of_same ((HS.out _).mono fun _ _ h=>⟨h.1,h.2.symm⟩)))
    have hf2:Fr w (w.drewN nq):=(Fr.refl w).drewN nq
    generalize w.drewN nq=w2 at *
    have h12:=hf2.heap h1
    have d1:w2.cell? ⟨B,1,none⟩=some (N n):=by rw [cell_of_heap h12];rfl
    have z1:=frozen_of_heap h12 1
    have hst:=setCell_chg w2 ⟨B,1,none⟩ (N n2)
    have h13:=heap_setCell_own h12 1 (N n2)
    have e2:(w2.setCell ⟨B,1,none⟩ (N n2)).cell? ⟨B,2,none⟩=some (.int .i64 (s.er:Int)):=by rw [cell_of_heap h13];rfl
    have z2:=frozen_of_heap h13 2
    have hst2:=setCell_chg (w2.setCell ⟨B,1,none⟩ (N n2)) ⟨B,2,none⟩ (.int .i64 (er:Int))
    have h14:=heap_setCell_own h13 2 (.int .i64 (er:Int))
    have hvB:=hO.ne_cells h1 (by decide)
    have hO4:=((hO.fr hf2).chg hst (fun i hi e=>hvB (by rw [hi,show i=B from e]))).chg hst2 (fun i hi e=>hvB (by rw [hi,show i=B from e]))
    have hch:=(((hf2.chg (fun b=>b=B)).trans hst fun _ _ h=>h).trans hst2 fun _ _ h=>h)
    clear HS c0 c1 c2
    go_wp2_with fail
    go_ret
    exact⟨rfl,⟨⟨_,h14,hO4⟩,HL.out⟩,hch⟩
  · have HN:Hid (s.num l=(0,s)):=by show _=_;unfold Cs.num Cs.val Cs.step;simp [h0]
    rw [HN.out]
    have k1:¬(s.er:Int)=0:=by omega
    clear h1 hO h0
    go_enter Tryz.func92, Tryz.ntmps92
    go_wp2_with fail
    go_ret
    exact⟨rfl,HC.out,Chg.refl _ _⟩
set_option maxRecDepth 512
theorem CurF.set2{w:World}{B base n er:Nat}{T:TypeId}(l:List UInt8)(h:CurF w T B base l n er)(hT:T≠5)(a e:Nat)(ha:a<=l.length) :
  CurF ((w.setCell ⟨B,1,none⟩ (N a)).setCell ⟨B,2,none⟩ (.int .i64 (e:Int))) T B base l a e/\Chg (fun b=>b=B) w ((w.setCell ⟨B,1,none⟩ (N a)).setCell ⟨B,2,none⟩ (.int .i64 (e:Int)))/\(w.setCell ⟨B,1,none⟩ (N a)).cell? ⟨B,2,none⟩=some (.int .i64 (er:Int))/\(w.setCell ⟨B,1,none⟩ (N a)).frozen? ⟨B,2,none⟩=false:=by
 obtain⟨⟨v,h1,hO⟩,hle⟩:=h
 have hvB:=hO.ne_cells h1 hT
 have hst:=setCell_chg w ⟨B,1,none⟩ (N a)
 have h13:=heap_setCell_own h1 1 (N a)
 have hst2:=setCell_chg (w.setCell ⟨B,1,none⟩ (N a)) ⟨B,2,none⟩ (.int .i64 (e:Int))
 have h14:=heap_setCell_own h13 2 (.int .i64 (e:Int))
 have hO4:=(hO.chg hst (fun i hi e=>hvB (by rw [hi,show i=B from e]))).chg hst2 (fun i hi e=>hvB (by rw [hi,show i=B from e]))
 exact⟨⟨⟨_,h14,hO4⟩,ha⟩,hst.trans hst2 fun _ _ h=>h,by rw [cell_of_heap h13];rfl,frozen_of_heap h13 2⟩
theorem CurF.set1{w:World}{B base n er:Nat}{T:TypeId}(l:List UInt8)(h:CurF w T B base l n er)(hT:T≠5)(e:Nat) :
  CurF (w.setCell ⟨B,2,none⟩ (.int .i64 (e:Int))) T B base l n e/\Chg (fun b=>b=B) w (w.setCell ⟨B,2,none⟩ (.int .i64 (e:Int))):=by
 obtain⟨⟨v,h1,hO⟩,hle⟩:=h
 have hvB:=hO.ne_cells h1 hT
 have hst:=setCell_chg w ⟨B,2,none⟩ (.int .i64 (e:Int))
 have h13:=heap_setCell_own h1 2 (.int .i64 (e:Int))
 exact⟨⟨⟨_,h13,hO.chg hst (fun i hi e=>hvB (by rw [hi,show i=B from e]))⟩,hle⟩,hst⟩
theorem CurF.cells{w:World}{B base n er:Nat}{T:TypeId}{l:List UInt8}(h:CurF w T B base l n er) :
  w.cell? ⟨B,1,none⟩=some (N n)/\w.cell? ⟨B,2,none⟩=some (.int .i64 (er:Int))/\w.frozen? ⟨B,1,none⟩=false/\w.frozen? ⟨B,2,none⟩=false:=by
 obtain⟨⟨v,h1,hO⟩,hle⟩:=h
 exact⟨by rw [cell_of_heap h1];rfl,by rw [cell_of_heap h1];rfl,frozen_of_heap h1 1,frozen_of_heap h1 2⟩
set_option maxRecDepth 100000
theorem RInt_cur(most:Nat)(hm:most<9223372036854775808)(B base:Nat)(s:Cs)(l:List UInt8)(w:World)(hc:CurF w 99 B base l s.at_ s.er)(hl:l.length<=1000000) :
  Calls Tryz.prog 45 #[.pointer (some ⟨B,0,none⟩),N most] w fun e w'=>e=.returned (N (s.int l most).1)/\CurF w' 99 B base l (s.int l most).2.at_ (s.int l most).2.er/\Chg (fun b=>b=B) w w':=by
 have HR:=hid (RNum_cur B base s l w hc hl)
 have HI:=hid (Cs.int_num s l most)
 have hle:=hc.le
 obtain⟨c1,c2,_,_⟩:=hc.cells
 have hw1:IntKind.u64.wrap (most:Int)=(most:Int):=IntWalk.u64_in _ (by omega)
 have m0:¬(most:Int)<0:=by omega
 clear hc
 have HE:Hid (s.num l=((s.num l).1,(s.num l).2)):=rfl
 generalize (s.num l).1=x at *
 generalize (s.num l).2=s2 at *
 by_cases h0:s2.er=0
 · rw [if_pos h0,HE.out]at HI
   by_cases h2:most<x
   · rw [if_pos h2]at HI
     have k3:(most:Int)<x:=by omega
     go_enter Tryz.func45, Tryz.ntmps45
     go_wp2_with fail
     refine(HR.out).mono ?_
     rintro e w2 ⟨rfl,hC,hg⟩
     obtain⟨d1,d2,z1,z2⟩:=hC.cells
     obtain⟨hC2,hg2,e2,z3⟩:=hC.set2 l (by decide) s.at_ 6 hle
     rw [h0]at d2
     have hch:=hg.trans hg2 fun _ _ h=>h
     clear HR hC hg hg2 h0
     go_wp2_with fail
     go_ret
     rw [HI.out]
     exact⟨rfl,hC2,hch⟩
   · rw [if_neg h2]at HI
     have k3:¬(most:Int)<x:=by omega
     have hw2:IntKind.i64.wrap (x:Int)=(x:Int):=IntWalk.i64_in _ (by omega)
     go_enter Tryz.func45, Tryz.ntmps45
     go_wp2_with fail
     refine(HR.out).mono ?_
     rintro e w2 ⟨rfl,hC,hg⟩
     obtain⟨d1,d2,z1,z2⟩:=hC.cells
     rw [h0]at d2
     have HC:=hid hC
     clear HR hC h0
     go_wp2_with fail
     go_ret
     rw [HI.out]
     exact⟨rfl,HC.out,hg⟩
 · rw [if_neg h0]at HI
   have k1:¬(s2.er:Int)=0:=by omega
   go_enter Tryz.func45, Tryz.ntmps45
   go_wp2_with fail
   refine(HR.out).mono ?_
   rintro e w2 ⟨rfl,hC,hg⟩
   obtain⟨d1,d2,z1,z2⟩:=hC.cells
   have HC:=hid hC
   clear HR hC h0
   go_wp2_with fail
   go_ret
   rw [HI.out]
   exact⟨rfl,HC.out,hg⟩
theorem RTake_cur(B base k:Nat)(s:Cs)(l:List UInt8)(w:World)(hc:CurF w 99 B base l s.at_ s.er)(hl:l.length<=1000000)(hb:base<=w.heap.size) :
  Calls Tryz.prog 89 #[.pointer (some ⟨B,0,none⟩),N k] w fun e w'=>∃ u,e=.returned u/\Ow w' w.heap.size eB u (s.take l k).1/\CurF w' 99 B base l (s.take l k).2.at_ (s.take l k).2.er/\Chg (fun b=>b=B) w w':=by
 by_cases h0:s.er=0
 · by_cases h1:l.length<s.at_+k
   · have h2:s.take l k=([],⟨s.at_,1⟩):=by unfold Cs.take;rw [if_pos h0,if_pos h1]
     rw [h2]
     have HL:=hid (RLeft_any B base s.at_ s.er l w hc hl)
     have HC:=hid hc
     obtain⟨c1,c2,_,_⟩:=hc.cells
     rw [h0]at c2
     have k1:¬(k:Int)<0:=by omega
     have k2:(l.length:Int) - s.at_<k:=by omega
     clear hc h0 h1 h2
     go_enter Tryz.func89, Tryz.ntmps89
     go_wp2_with fail
     refine(HL.out).mono ?_
     rintro e w2 ⟨rfl,hq⟩
     have hC:=HC.out.fr hq.fr
     obtain⟨d1,d2,z1,z2⟩:=hC.cells
     obtain⟨hC2,hg2⟩:=hC.set1 l (by decide) 1
     have hch:=(hq.fr.chg _).trans hg2 fun _ _ h=>h
     clear HL hC hg2
     go_wp2_with fail
     go_ret
     exact⟨_,rfl,Ow.nil,hC2,hch⟩
   · rw [h0]at hc
     refine(RTake_yes B base s.at_ k l w hc (by omega) hl hb).mono ?_
     rintro e w' ⟨u,rfl,hO,hC,hg⟩
     have h2:s.take l k=((l.drop s.at_).take k,⟨s.at_+k,0⟩):=by unfold Cs.take;rw [if_pos h0,if_neg h1]
     rw [h2]
     exact⟨u,rfl,hO,hC,hg⟩
 · have h2:s.take l k=([],s):=by unfold Cs.take;rw [if_neg h0]
   rw [h2]
   have HC:=hid hc
   obtain⟨c1,c2,_,_⟩:=hc.cells
   have k1:¬(s.er:Int)=0:=by omega
   clear hc h0 h2
   go_enter Tryz.func89, Tryz.ntmps89
   go_wp2_with fail
   go_ret
   exact⟨_,rfl,Ow.nil,HC.out,Chg.refl _ _⟩
set_option maxRecDepth 512
theorem rtake1_len(s:Cs)(l:List UInt8):(s.take l 1).1=[]\/∃ x,(s.take l 1).1=[x]:=by
 unfold Cs.take
 split
 · split
   · exact .inl rfl
   · show(l.drop s.at_).take 1=[]\/∃ x,(l.drop s.at_).take 1=[x]
     cases l.drop s.at_ with
     | nil=>exact .inl rfl
     | cons x t=>exact .inr ⟨x,rfl⟩
 · exact .inl rfl
set_option maxRecDepth 100000
theorem RByte_cur (B base : Nat) (s : Cs) (l : List UInt8) (w : World) (hc : CurF w 99 B base l s.at_ s.er) (hl : l.length ≤ 1000000) (hb : base ≤ w.heap.size) :
    Calls Tryz.prog 95 #[.pointer (some ⟨B,0,none⟩)] w fun e w'=>e=.returned (.int .u8 ((s.byte l).1:Int))/\CurF w' 99 B base l (s.byte l).2.at_ (s.byte l).2.er/\Chg (fun b=>b=B) w w':=by
  have HT:=hid (RTake_cur B base 1 s l w hc hl hb)
  have HB:Hid (s.byte l=((((s.take l 1).1).getD 0 0).toNat,(s.take l 1).2)):=rfl
  rw [HB.out]
  have h1:=rtake1_len s l
  clear hc HB
  generalize (s.take l 1).1=q at *
  generalize (s.take l 1).2=s2 at *
  rcases h1 with rfl | ⟨x,rfl⟩
  · go_enter Tryz.func95, Tryz.ntmps95
    go_wp2_with fail
    refine(HT.out).mono ?_
    rintro e w1 ⟨u,rfl,hO,hC,hch⟩
    obtain⟨p,z,hq⟩:=hO.shape'
    subst hq
    clear HT hO
    go_wp2_with fail
    go_ret
    exact⟨rfl,hC,hch⟩
  · go_enter Tryz.func95, Tryz.ntmps95
    go_wp2_with fail
    refine(HT.out).mono ?_
    rintro e w1 ⟨u,rfl,hO,hC,hch⟩
    obtain⟨b,off,cp,hv,c0⟩:=hO.see.cell1 Fk.u8 rfl 0 (by simp)
    subst hv
    have d0:w1.cell? ⟨b,off,none⟩=some (.int .u8 (x.toNat:Int)):=c0
    clear hO c0 HT
    go_wp2_with fail
    go_ret
    exact⟨rfl,hC,hch⟩
theorem RText_cur(most:Nat)(hm:most<=1000000000)(B base:Nat)(s:Cs)(l:List UInt8)(w:World)(hc:CurF w 99 B base l s.at_ s.er)(hl:l.length<=1000000)(hb:base<=w.heap.size) :
  Calls Tryz.prog 148 #[.pointer (some ⟨B,0,none⟩),N most] w fun e w'=>e=.returned (S (s.text l most).1)/\CurF w' 99 B base l (s.text l most).2.at_ (s.text l most).2.er/\Chg (fun b=>b=B) w w':=by
 have HR:=hid (RInt_cur most (by omega) B base s l w hc hl)
 have HI:=hid (Cs.text_int s l most hc.le)
 have hle:=hc.le
 obtain⟨c1,c2,_,_⟩:=hc.cells
 clear hc
 generalize (s.int l most).1=x at *
 generalize (s.int l most).2=s2 at *
 by_cases h0:s2.er=0
 · rw [if_pos h0]at HI
   have HLf:=hid (fun W (h:CurF W 99 B base l s2.at_ s2.er)=>RLeft_any B base s2.at_ s2.er l W h hl)
   by_cases h2:l.length<s2.at_+x
   · rw [if_pos h2]at HI
     have k3:(l.length:Int) - s2.at_<x:=by omega
     have H0:=hid h0
     clear h2
     go_enter Tryz.func148, Tryz.ntmps148
     go_wp2_with fail
     refine(HR.out).mono ?_
     rintro e w2 ⟨rfl,hC,hg⟩
     obtain⟨d1,d2,z1,z2⟩:=hC.cells
     rw [h0]at d2
     have HC:=hid hC
     have HL2:=hid (HLf.out w2 hC)
     clear HR hC h0 HLf
     go_wp2_with fail
     refine(HL2.out).mono ?_
     rintro e w3 ⟨rfl,hq⟩
     have hC3:=HC.out.fr hq.fr
     obtain⟨f1,f2,y1,y2⟩:=hC3.cells
     obtain⟨hC4,hg4,e2,z3⟩:=hC3.set2 l (by decide) s.at_ 1 hle
     have hch:=(hg.trans (hq.fr.chg (fun b=>b=B)) fun _ _ h=>h).trans hg4 fun _ _ h=>h
     clear HL2 hC3 hg4 d1 d2 z1 z2
     go_wp2_with fail
     go_ret
     rw [HI.out]
     exact⟨rfl,hC4,hch⟩
   · rw [if_neg h2]at HI
     have k3:¬(l.length:Int) - s2.at_<x:=by omega
     have HT:=hid (fun W (h:CurF W 99 B base l s2.at_ 0) (hb:base<=W.heap.size)=>RTake_yes B base s2.at_ x l W h (by omega) hl hb)
     have H0:=hid h0
     clear h2
     generalize (l.drop s2.at_).take x=q at *
     go_enter Tryz.func148, Tryz.ntmps148
     go_wp2_with fail
     refine(HR.out).mono ?_
     rintro e w2 ⟨rfl,hC,hg⟩
     obtain⟨d1,d2,z1,z2⟩:=hC.cells
     rw [h0]at d2
     have HC:=hid hC
     have HL2:=hid (HLf.out w2 hC)
     clear HR hC h0 HLf
     go_wp2_with fail
     refine(HL2.out).mono ?_
     rintro e w3 ⟨rfl,hq⟩
     have hC3:=HC.out.fr hq.fr
     rw [H0.out]at hC3
     have HT3:=hid (HT.out w3 hC3 (Nat.le_trans hb (Nat.le_trans hg.size hq.fr.size)))
     clear HL2 hC3 d1 d2 z1 z2
     go_wp2_with fail
     refine(HT3.out).mono ?_
     rintro e w4 ⟨u,rfl,hO,hC4,hg4⟩
     have hch:=(hg.trans (hq.fr.chg (fun b=>b=B)) fun _ _ h=>h).trans hg4 fun _ _ h=>h
     have hcv:=conv_at _ _ w4 hO.see
     obtain⟨p,z,hu⟩:=hO.shape'
     subst hu
     clear hO hg4 HT HT3
     go_wp2_with fail
     go_ret
     rw [HI.out]
     exact⟨rfl,hC4,hch⟩
 · rw [if_neg h0]at HI
   have k1:¬(s2.er:Int)=0:=by omega
   go_enter Tryz.func148, Tryz.ntmps148
   go_wp2_with fail
   refine(HR.out).mono ?_
   rintro e w2 ⟨rfl,hC,hg⟩
   obtain⟨d1,d2,z1,z2⟩:=hC.cells
   have HC:=hid hC
   clear HR hC h0
   go_wp2_with fail
   go_ret
   rw [HI.out]
   exact⟨rfl,HC.out,hg⟩
theorem REnd_cur(B base:Nat)(s:Cs)(l:List UInt8)(w:World)(hc:CurF w 99 B base l s.at_ s.er)(hl:l.length<=1000000) :
  Calls Tryz.prog 46 #[.pointer (some ⟨B,0,none⟩)] w fun e w'=>e=.returned (.int .i64 ((s.fin l).er:Int))/\CurF w' 99 B base l (s.fin l).at_ (s.fin l).er/\Chg (fun b=>b=B) w w':=by
 have HL:=hid (RLeft_any B base s.at_ s.er l w hc hl)
 have hle:=hc.le
 have HC:=hid hc
 obtain⟨c1,c2,_,_⟩:=hc.cells
 clear hc
 by_cases h0:s.er=0
 · rw [h0]at c2
   by_cases h1:s.at_<l.length
   · have HF:Hid (s.fin l=⟨s.at_,2⟩):=by show _=_;unfold Cs.fin;rw [if_pos ⟨h0,h1⟩]
     rw [HF.out]
     have k2:(0:Int)<(l.length:Int) - s.at_:=by omega
     clear h0 h1
     go_enter Tryz.func46, Tryz.ntmps46
     go_wp2_with fail
     refine(HL.out).mono ?_
     rintro e w3 ⟨rfl,hq⟩
     have hC3:=HC.out.fr hq.fr
     obtain⟨f1,f2,y1,y2⟩:=hC3.cells
     obtain⟨hC4,hg4⟩:=hC3.set1 l (by decide) 2
     obtain⟨g1,g2,_,_⟩:=hC4.cells
     have hch:=(hq.fr.chg (fun b=>b=B)).trans hg4 fun _ _ h=>h
     clear HL hC3 hg4
     go_wp2_with fail
     go_ret
     exact⟨rfl,hC4,hch⟩
   · have HF:Hid (s.fin l=s):=by show _=_;unfold Cs.fin;rw [if_neg (fun e=>h1 e.2)]
     rw [HF.out]
     have k2:¬(0:Int)<(l.length:Int) - s.at_:=by omega
     have H0:=hid h0
     clear h0 h1
     go_enter Tryz.func46, Tryz.ntmps46
     go_wp2_with fail
     refine(HL.out).mono ?_
     rintro e w3 ⟨rfl,hq⟩
     have hC3:=HC.out.fr hq.fr
     obtain⟨f1,f2,y1,y2⟩:=hC3.cells
     have HC3:=hid hC3
     clear HL hC3
     go_wp2_with fail
     go_ret
     exact⟨rfl,HC3.out,hq.fr.chg _⟩
 · have HF:Hid (s.fin l=s):=by show _=_;unfold Cs.fin;rw [if_neg (fun e=>h0 e.1)]
   rw [HF.out]
   have k1:¬(s.er:Int)=0:=by omega
   clear h0
   go_enter Tryz.func46, Tryz.ntmps46
   go_wp2_with fail
   go_ret
   exact⟨rfl,HC.out,Chg.refl _ _⟩
set_option maxRecDepth 512
theorem tmGo_nil(b:List UInt8)(k:Nat)(s:Cs)(was:Nat)(out:List Nat)(h:¬s.er=0):tmGo b k s was out=(out,s):=by
 cases k with
 | zero=>rfl
 | succ k=>rw [tmGo,if_neg h]
set_option maxRecDepth 100000
theorem RZag_any(z:Nat)(hz:z<18446744073709551616)(w:World):Calls Tryz.prog 94 #[.int .u64 (z:Int)] w fun e w'=>e=.returned (.int .u64 (zagN z:Int))/\w=w':=by
 have HZ:Hid (zagN z=if z % 2=1 then 18446744073709551615 - z / 2 else z / 2):=rfl
 have HB:=hid hz
 have w1:IntKind.u64.wrap ((z:Int) % 2)=(z:Int) % 2:=IntWalk.u64_in _ (by omega)
 have w2:IntKind.u64.wrap ((z:Int) / 2)=(z:Int) / 2:=IntWalk.u64_in _ (by omega)
 have w3:IntKind.u64.wrap (18446744073709551615 - (z:Int) / 2)=18446744073709551615 - (z:Int) / 2:=IntWalk.u64_in _ (by omega)
 generalize zagN z=Q at *
 by_cases h:z % 2=1
 · have k1:(z:Int) % 2=1:=by omega
   rw [if_pos h]at HZ
   have HW:=hid w3
   clear hz h w3
   go_enter Tryz.func94, Tryz.ntmps94
   go_wp2_with fail
   go_ret
   rw [HZ.out]
   have:=HB.out
   exact⟨by simp;first | omega | (rw [HW.out];omega),rfl⟩
 · have k1:¬(z:Int) % 2=1:=by omega
   rw [if_neg h]at HZ
   clear hz h w3
   go_enter Tryz.func94, Tryz.ntmps94
   go_wp2_with fail
   go_ret
   rw [HZ.out]
   exact⟨by simp,rfl⟩
theorem RRdCols_any (n : Nat) (hn : n ≤ 20000) (v : Value) (b : List UInt8) (w : World) (hs : See w eB v b) (hl : b.length ≤ 1000000) :
    Calls Tryz.prog 47 #[N n,v] w fun e w'=>∃ u t,e=.returned (.tuple #[u,t,N (colR n b).2.2.1,.int .i64 ((colR n b).2.2.2:Int)])/\Ow w' w.heap.size eQ u (colR n b).1/\Ow w' w.heap.size eB t (colR n b).2.1/\Fr w w':=by
  have HNew:=hid (RNew_any v b w hs hl)
  have HNum:=hid (fun B base s W (h:CurF W 99 B base b s.at_ s.er)=>RNum_cur B base s b W h hl)
  have HByte:=hid (fun B base s W (h:CurF W 99 B base b s.at_ s.er) hW=>RByte_cur B base s b W h hl hW)
  have HInt:=hid (fun most (hm:most<9223372036854775808) B base s W (h:CurF W 99 B base b s.at_ s.er)=>RInt_cur most hm B base s b W h hl)
  obtain⟨T,hT⟩:∃ T,T=tmGo b n ⟨0,0⟩ 0 []:=⟨_,rfl⟩
  have HR:Hid (colR n b=if(lvlGo b n n T.2 []).2.er=0 then(T.1,(lvlGo b n n T.2 []).1,(lvlGo b n n T.2 []).2.at_,0)else([],[],0,(lvlGo b n n T.2 []).2.er)):=by rw [hT];rfl
  have HT:Hid (T=tmGo b (n - 0) ⟨0,0⟩ 0 []):=hT
  clear hT
  have n1:¬(n:Int)<0:=by omega
  have n2:¬(20000:Int)<n:=by omega
  have HSt:Hid (∀ k s was out,k<n->s.er=0->tmGo b (n - k) s was out=tmGo b (n - (k+1)) (s.num b).2 ((was+zagN (s.num b).1) % 18446744073709551616) (out++[(was+zagN (s.num b).1) % 18446744073709551616])):=fun k s was out h he=>by
    rw [show n - k=(n - (k+1))+1 by omega,tmGo,if_pos he]
  have HLt:Hid (∀ s:Cs,(s.num b).1<18446744073709551616):=fun s=>by
    show s.val _<_
    unfold Cs.val;split
    · exact numL_lt _
    · decide
  obtain⟨a0,cap,hv,_⟩:=hs.shape
  subst hv
  clear hs
  generalize colR n b=R at *
  go_enter Tryz.func47, Tryz.ntmps47
  go_wp2_with fail
  refine(HNew.out).mono ?_
  rintro e w1 ⟨B,rfl,hC,hf1,hB⟩
  have hBw:=hC.lt
  have hsz1:=hf1.size
  clear HNew
  go_wp2_with fail
  go_loopw [9,10,11] (fun ov tv iv wr=>∃ (k was:Nat) (s:Cs) (out:List Nat),k<=n/\iv=N k/\out.length=k/\tv=.int .u64 (was:Int)/\Hid (was<18446744073709551616)/\Hid (s.er=0)/\Ow wr w1.heap.size eQ ov out/\CurF wr 99 B w.heap.size b s.at_ s.er/\Fr w wr/\w1.heap.size<=wr.heap.size/\Hid (T=tmGo b (n - k) s was out)) (fun _ _ iv _=>n - (intOf iv).toNat)
  case atStart=>exact⟨0,0,⟨0,0⟩,[],Nat.zero_le _,rfl,rfl,rfl,by show 0<_;decide,rfl,Ow.nil,hC,hf1,Nat.le_refl _,HT.out⟩
  case round=>
    clear hC hf1 HT
    obtain⟨k,was,s,out,hk,rfl,hol,rfl,HW,HEr,hO,hC,hf,hz,HTk⟩:=hrel
    obtain⟨oa,oc,hov⟩:=hO.shape'
    rw [hol]at hov
    subst hov
    have HOl:=hid hol
    clear hol
    by_cases hlt:k<n
    · have i1:(k:Int)<n:=by omega
      have HS1:=hid (HSt.out k s was out hlt HEr.out)
      have HN1:=hid (HNum.out B _ s wr hC)
      have hb1:=hC.cbox
      have HO:=hid hO
      have hzl:=zagN_lt (s.num b).1 (HLt.out s)
      have HZ1:=hid (fun W=>RZag_any (s.num b).1 (HLt.out s) W)
      have hmod:IntKind.u64.wrap ((was:Int)+((zagN (s.num b).1:Nat):Int))=(((was+zagN (s.num b).1) % 18446744073709551616:Nat):Int):=by rw [IntKind.wrap_u64];omega
      have HM:=hid (Nat.mod_lt (was+zagN (s.num b).1) (show 0<18446744073709551616 by omega))
      have HS2:Hid (T=tmGo b (n - (k+1)) (s.num b).2 ((was+zagN (s.num b).1) % 18446744073709551616) (out++[(was+zagN (s.num b).1) % 18446744073709551616])):=HTk.out.trans HS1.out
      have HC1:Hid (out.length+[(was+zagN (s.num b).1) % 18446744073709551616].length<=2147483648):=by have:=HOl.out;show _<=_;simp;omega
      clear hO hC HTk HS1 hzl
      generalize (was+zagN (s.num b).1) % 18446744073709551616=was2 at *
      generalize zagN (s.num b).1=zz at *
      generalize (s.num b).1=x1 at *
      generalize (s.num b).2=s2 at *
      go_wp2_with fail
      refine(HN1.out).mono ?_
      rintro e w2 ⟨rfl,hC2,hc2⟩
      have hO2 := HO.out.chg hc2 (fun i hi e => by
        obtain ⟨cs, h5⟩ := hb1
        exact HO.out.ne_cells h5 (by decide) (by rw [hi, show i = B from e]))
      have hf2:Fr w w2:=((hf.chg (fun i=>i=B)).trans hc2 fun _ _ h=>h).fr (fun i hi e=>by omega)
      have hz2:=Nat.le_trans hz hc2.size
      obtain⟨d1,d2,_,_⟩:=hC2.cells
      clear HN1 HO hb1 hc2
      by_cases he:s2.er=0
      · rw [he]at d2
        have HE2:=hid he
        clear he
        go_wp2_with fail
        refine(HZ1.out w2).mono ?_
        rintro e w3 ⟨rfl,rfl⟩
        clear HZ1
        go_wp2_with (at_builtin;refine wpList_app1 eQ rfl (.tmp 43) (.tmp 45) 32 rfl Tryz.underlying32 w1.heap.size rfl hO2 [was2] _ _ _ rfl rfl rfl HC1.out hz2 ?_)
        intro v4 w4 hap
        have hC4:=hC2.app hO2 hap (by decide) (by decide)
        have hf4:=hap.below hO2 hf2 hsz1 hf2.size
        have hz4:=Nat.le_trans hz2 hap.size
        have hOl:=HOl.out
        go_wp2_with fail
        go_roundw
        case rel=>exact⟨k+1,was2,s2,out++[was2],by omega,by go_num,by rw [List.length_append,hOl];rfl,rfl,HM.out,HE2.out,hap.own,hC4,hf4,hz4,HS2.out⟩
        case measure=>simp [intOf];omega
      · have HRe:Hid (R=([],[],0,s2.er)):=by
          have h1:T.2=s2:=by rw [HS2.out,tmGo_nil _ _ _ _ _ he]
          show _=_
          rw [HR.out,h1,lvlGo_nil _ _ _ _ _ he,if_neg he]
        have he':¬(s2.er:Int)=0:=by omega
        clear HR
        go_wp2_with fail
        refine(HZ1.out w2).mono ?_
        rintro e w3 ⟨rfl,rfl⟩
        go_wp2_with fail
        go_quiet (fail)
        go_wp2_with fail
        (try simp only [Exit.inBlock,Exit.then])
        refine bodyPost_ret (results_tmp4 rfl _ _ _) rfl ?_
        rw [HRe.out]
        exact⟨_,_,rfl,Ow.nil,Ow.nil,hf2.drewN _⟩
    · obtain rfl:k=n:=by omega
      have hnl:¬((k:Int)<k):=by omega
      have HT2:Hid (T=(out,s)):=by show _=_;rw [HTk.out,Nat.sub_self];rfl
      rw [HT2.out]at HR
      have HOl2:=hid HOl.out
      obtain⟨V,hV⟩:∃ V,V=lvlGo b k k s []:=⟨_,rfl⟩
      rw [show lvlGo b k k (out,s).2 []=V from hV.symm]at HR
      have HV:=hid hV
      have HTm:=hid hO
      have hzz:wr.heap.size<=wr.heap.size:=Nat.le_refl _
      have hsz:=hf.size
      have hBr:B<wr.heap.size:=hC.lt
      generalize hB2:wr.heap.size=B2 at hBr hsz
      have HB2:=hid hB2
      clear hV HTk HT2 HSt HNum hO hB2 hzz
      go_wp2_with fail
      go_loopw [12] (fun lv wr=>∃ (f:Nat) (s:Cs) (ls:List UInt8),ls.length<=k/\k<=ls.length+f/\Hid (s.er=0)/\Ow wr B2 eB lv ls/\CurF wr 99 B w.heap.size b s.at_ s.er/\Ow wr w1.heap.size eQ (.slice oa k oc) out/\Fr w wr/\B2<=wr.heap.size/\Hid (V=lvlGo b k f s ls)) (fun lv _=>k - (match lv with | .slice _ m _=>m | _=>0))
      case atStart=>exact⟨k,s,[],Nat.zero_le _,by simp,HEr.out,Ow.nil,hC,HTm.out,hf,Nat.le_of_eq HB2.out.symm,HV.out⟩
      case round=>
        clear hC hf HTm HV HEr
        obtain⟨f,s,ls,hll,hfu,HEr,hO,hC,hTm,hf,hz,HVk⟩:=hrel
        obtain⟨la,lc,hlv⟩:=hO.shape'
        subst hlv
        by_cases hlt:ls.length<k
        · obtain⟨f2,rfl⟩:∃ f2,f=f2+1:=⟨f - 1,by omega⟩
          have i1:(ls.length:Int)<k:=by omega
          have HV2:Hid (V=lvlGo b k f2 (lvC b k s ls) (ls++List.replicate (lvK b k s ls).1 (UInt8.ofNat (lvX b s)))):=by
            show _=_;rw [HVk.out,lvlGo,if_pos ⟨hlt,HEr.out⟩]
          have HB1:=hid (HByte.out B _ s wr hC (by omega))
          have hkl:=lvK_le b k s ls
          have hxl:=lvX_lt b s
          have HX:Hid (lvX b s=(s.byte b).1):=rfl
          have HKe:Hid (lvK b k s ls=(s.byte b).2.int b (k - ls.length)):=rfl
          have HLc:Hid (lvC b k s ls=if(lvK b k s ls).2.er=0/\((lvK b k s ls).1=0\/(0<ls.length/\(ls.getLastD 0).toNat=lvX b s))then⟨(lvK b k s ls).2.at_,2⟩else(lvK b k s ls).2):=rfl
          have HIn:=hid (fun W h=>HInt.out (k - ls.length) (by omega) B w.heap.size (s.byte b).2 W h)
          have hsub:IntKind.i64.wrap ((k:Int) - ls.length)=((k - ls.length:Nat):Int):=by rw [IntWalk.i64_in _ (by omega)];omega
          rw [<- HX.out]at HB1
          rw [<- HKe.out]at HIn
          have HO:=hid hO
          have HTm:=hid hTm
          have hb1:=hC.cbox
          clear hO hC hTm HVk HX HKe
          generalize lvC b k s ls=s3 at *
          generalize (lvK b k s ls).1=kk at *
          generalize (lvK b k s ls).2=s2 at *
          generalize lvX b s=x at *
          generalize (s.byte b).2=s1 at *
          go_wp2_with fail
          refine(HB1.out).mono ?_
          rintro e w2 ⟨rfl,hC2,hc2⟩
          have HI2:=hid (HIn.out w2 hC2)
          clear HB1 HIn
          go_wp2_with fail
          refine(HI2.out).mono ?_
          rintro e w3 ⟨rfl,hC3,hc3⟩
          have hc23:=hc2.trans hc3 fun _ _ h=>h
          have hO3:=HO.out.chg hc23 (fun i hi e=>by have:=(HO.out.lt i hi).1;have e:i=B:=e;omega)
          have hT3 := HTm.out.chg hc23 (fun i hi e => by
            obtain ⟨cs, h5⟩ := hb1
            exact HTm.out.ne_cells h5 (by decide) (by rw [hi, show i = B from e]))
          have hf3:Fr w w3:=((hf.chg (fun i=>i=B)).trans hc23 fun _ _ h=>h).fr (fun i hi e=>by omega)
          have hz3:=Nat.le_trans hz hc23.size
          obtain⟨d1,d2,_,_⟩:=hC3.cells
          clear HI2 hc23 hc2 hc3 HO HTm hb1
          by_cases he:s2.er=0
          · rw [he]at d2
            obtain⟨bad,hbad⟩:∃ bad:Bool,bad=decide (kk=0\/(0<ls.length/\(ls.getLastD 0).toNat=x)):=⟨_,rfl⟩
            have HLc2:Hid (s3=if bad=true then⟨s2.at_,2⟩else s2):=by
              show _=_;rw [HLc.out,hbad];simp only [decide_eq_true_eq,he,true_and]
            have HK1:Hid (bad=false->0<kk):=fun h=>by
              rw [hbad]at h
              have:=of_decide_eq_false h
              omega
            have HBad:=hid hbad
            have HE2:=hid he
            clear hbad HLc he
            go_upto_region 19 with fail
            go_cut [84]from 68 to 84 (fun cv wx=>cv=.bool bad/\w3=wx)
            case first=>
              by_cases hk0:kk=0
              · have h3:Hid (bad=true):=by show _=_;rw [HBad.out];exact decide_eq_true (.inl hk0)
                subst hk0
                go_wp2_with fail
                go_meet
                exact⟨by rw [h3.out],rfl⟩
              · have hk1:¬(kk:Int)=0:=by omega
                have hk2:((kk:Int) == 0)=false:=by rw [beq_eq_false_iff_ne];exact hk1
                by_cases hl0:0<ls.length
                · obtain⟨b5,o5,p5,hv5,e5⟩:=hO3.see.cell1 Fk.u8 rfl (ls.length - 1) (by omega)
                  have hlast:=lastD_at ls hl0
                  cases hv5
                  have e6:w3.cell? ⟨b5,o5+(ls.length - 1),none⟩=some (.int .u8 (ls[ls.length - 1].toNat:Int)):=e5
                  rw [<- hlast]at e6
                  have l0:(0:Int)<ls.length:=by omega
                  have l1:IntKind.i64.wrap ((ls.length:Int) - 1)=(ls.length:Int) - 1:=IntWalk.i64_in _ (by omega)
                  have l2:(0:Int)<=(ls.length:Int) - 1:=by omega
                  have l3:((ls.length:Int) - 1).toNat=ls.length - 1:=by omega
                  have l4:(ls.length:Int) - 1<ls.length:=by omega
                  have h3:Hid (bad=decide ((ls.getLastD 0).toNat=x)):=by show _=_;rw [HBad.out];simp [hk0,hl0]
                  clear e5 hlast HBad
                  generalize (ls.getLastD 0).toNat=z at *
                  have hzx:((z:Int) == x)=decide (z=x):=by rw [Bool.eq_iff_iff];simp;omega
                  have HZX:=hid hzx
                  clear hzx hl0
                  go_wp2_with fail
                  go_meet
                  exact⟨by rw [h3.out,<- HZX.out],rfl⟩
                · have h3:Hid (bad=false):=by show _=_;rw [HBad.out];exact decide_eq_false (fun h=>h.elim hk0 fun h=>hl0 h.1)
                  have l0:¬(0:Int)<ls.length:=by omega
                  clear hl0
                  go_wp2_with fail
                  go_meet
                  exact⟨by rw [h3.out],rfl⟩
            case rest=>
              obtain⟨rfl,rfl⟩:=hcut
              clear HBad
              cases bad
              · have h3:Hid (s3=s2):=by show _=_;rw [HLc2.out];rfl
                have hkp:=HK1.out rfl
                rw [h3.out]at HV2
                have hcell:=byte_cell x (by omega)
                have HCl:=hid hcell
                have HRs:Hid (∀ j,ls++List.replicate (j+1) (UInt8.ofNat x)=(ls++List.replicate j (UInt8.ofNat x))++[UInt8.ofNat x]):=fun j=>by rw [List.replicate_succ',List.append_assoc]
                clear hcell HLc2 HK1
                generalize UInt8.ofNat x=xb at *
                go_wp2_with fail
                go_loopw [12,15] (fun lv jv wr=>∃ j:Nat,j<=kk/\jv=N j/\Ow wr B2 eB lv (ls++List.replicate j xb)/\CurF wr 99 B w.heap.size b s2.at_ s2.er/\Ow wr w1.heap.size eQ (.slice oa k oc) out/\Fr w wr/\B2<=wr.heap.size) (fun _ jv _=>kk - (intOf jv).toNat)
                case atStart=>exact⟨0,Nat.zero_le _,rfl,by simpa using hO3,hC3,hT3,hf3,hz3⟩
                case round=>
                  clear hO3 hC3 hT3 hf3 hz3 d1 d2
                  obtain⟨j,hj,rfl,hO,hC,hTm,hf,hz⟩:=hrel
                  by_cases hjk:j<kk
                  · have j1:(j:Int)<kk:=by omega
                    have HLn:Hid ((ls++List.replicate j xb).length+[xb].length<=2147483648):=by show _<=_;simp;omega
                    have HR1:=hid (HRs.out j)
                    generalize ls++List.replicate j xb=P0 at *
                    go_wp2_with (at_builtin;refine wpList_app1 eB rfl (.tmp 90) (.tmp 92) 22 rfl Tryz.underlying22 B2 rfl hO [xb] _ _ _ HCl.out rfl rfl HLn.out hz ?_)
                    intro v4 w4 hap
                    have hC4:=hC.behind hO hap hBr
                    have hT4:=own_app hTm hO hap (by decide)
                    have hf4:=hap.below hO hf hsz hf.size
                    have hz4:=Nat.le_trans hz hap.size
                    go_wp2_with fail
                    go_roundw
                    case rel=>exact⟨j+1,by omega,by go_num,by rw [HR1.out];exact hap.own,hC4,hT4,hf4,hz4⟩
                    case measure=>simp [intOf];omega
                  · obtain rfl:j=kk:=by omega
                    have hnj:¬((j:Int)<j):=by omega
                    obtain⟨va,vc,hv9⟩:=hO.shape'
                    rw [List.length_append,List.length_replicate]at hv9
                    subst hv9
                    go_wp2_with fail
                    go_roundw
                    case rel=>exact⟨f2,s2,ls++List.replicate j xb,by rw [List.length_append,List.length_replicate];omega,by rw [List.length_append,List.length_replicate];omega,HE2.out,hO,hC,hTm,hf,hz,HV2.out⟩
                    case measure=>simp;omega
              · have h3:Hid (s3=⟨s2.at_,2⟩):=by show _=_;rw [HLc2.out];rfl
                have HRe:Hid (R=([],[],0,2)):=by
                  have h1:V.2=⟨s2.at_,2⟩:=by rw [HV2.out,h3.out,lvlGo_nil _ _ _ _ _ (fun h=>Nat.noConfusion h)]
                  show _=_
                  rw [HR.out,h1,if_neg (fun h=>Nat.noConfusion h)]
                clear HR
                go_wp2_with fail
                (try simp only [Exit.inBlock,Exit.then])
                refine bodyPost_ret (results_tmp4 rfl _ _ _) rfl ?_
                rw [HRe.out]
                exact⟨_,_,rfl,Ow.nil,Ow.nil,hf3⟩
          · have h3:Hid (s3=s2):=by show _=_;rw [HLc.out,if_neg (fun h=>he h.1)]
            have HRe:Hid (R=([],[],0,s2.er)):=by
              have h1:V.2=s2:=by rw [HV2.out,h3.out,lvlGo_nil _ _ _ _ _ he]
              show _=_
              rw [HR.out,h1,if_neg he]
            have he':¬(s2.er:Int)=0:=by omega
            clear HR
            go_wp2_with fail
            go_quiet (fail)
            go_wp2_with fail
            (try simp only [Exit.inBlock,Exit.then])
            refine bodyPost_ret (results_tmp4 rfl _ _ _) rfl ?_
            rw [HRe.out]
            exact⟨_,_,rfl,Ow.nil,Ow.nil,hf3.drewN _⟩
        · have hle:ls.length=k:=by omega
          have HV2:Hid (V=(ls,s)):=by
            show _=_;rw [HVk.out]
            cases f with
            | zero=>rfl
            | succ f=>rw [lvlGo,if_neg (fun h=>hlt h.1)]
          have HRe:Hid (R=(out,ls,s.at_,0)):=by show _=_;rw [HR.out,HV2.out,if_pos HEr.out]
          have i1:¬(ls.length:Int)<k:=by omega
          obtain⟨d1,d2,_,_⟩:=hC.cells
          have hOr:=hO.rebase (show w.heap.size<=B2 by omega)
          have hTr:=hTm.rebase hsz1
          clear HR HV2 hle hO hTm HVk
          go_wp2_with fail
          go_quiet (fail)
          go_wp2_with fail
          (try simp only [Exit.inBlock,Exit.then])
          refine bodyPost_ret (results_tmp4 rfl _ _ _) rfl ?_
          rw [HRe.out]
          exact⟨_,_,rfl,hTr.fr ((Fr.refl wr).drewN nq),hOr.fr ((Fr.refl wr).drewN nq),hf.drewN _⟩
set_option maxRecDepth 512
end Go.Proofs.YtijghcbpfcjjnaaGreatDoor
