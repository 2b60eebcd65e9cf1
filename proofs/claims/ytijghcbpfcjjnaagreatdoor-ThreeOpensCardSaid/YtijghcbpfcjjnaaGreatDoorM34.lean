/- Parts of the proof of ThreeOpens: Cr3. -/
import Derived.Test.YtijghcbpfcjjnaaGreatDoorM10
import Derived.Test.YtijghcbpfcjjnaaGreatDoorM05
import Derived.Deep.RegionHeldLaw
set_option linter.unusedVariables false
set_option linter.unusedSectionVars false
set_option linter.unusedSimpArgs false
set_option maxHeartbeats 8000000
namespace Go.Proofs.YtijghcbpfcjjnaaGreatDoor
open Go.RowKit Go.Fk
structure RbF (w:World) (B base:Nat) (q:List UInt8) (a:Nat):Prop where
 h:∃ v,w.heap[B]?=some (.cells #[v,N a] 219 (0,0))/\Ow w base eB v q
 le:a<=q.length
theorem RbF.fr{w w':World}{B base a:Nat}{q:List UInt8}(h:RbF w B base q a)(hf:Fr w w'):RbF w' B base q a:=by
 obtain⟨⟨v,h1,h2⟩,h3⟩:=h
 exact⟨⟨v,hf.heap h1,h2.fr hf⟩,h3⟩
theorem bit_of2(c:UInt8)(k:Nat)(hk:k<8):c.toNat / (128 / 2 ^ k) % 2=c.toNat / 2 ^ (7 - k) % 2:=by
 have:128 / 2 ^ k=2 ^ (7 - k):=by
  have h:k=0\/k=1\/k=2\/k=3\/k=4\/k=5\/k=6\/k=7:=by omega
  rcases h with rfl | rfl | rfl | rfl | rfl | rfl | rfl | rfl <;> rfl
 rw [this]
def ldBits:Op:=.load 22 (.tmp 22)
attribute [local go_sem] ldBits
set_option maxRecDepth 100000
theorem RReader_any (v : Value) (l : List UInt8) (w : World) (hs : See w eB v l) (hl : l.length ≤ 1000000) :
    Calls Tryz.prog 151 #[v] w fun e w'=>e=.returned (.pointer (some ⟨w.heap.size,0,none⟩))/\RbF w' w.heap.size (w.heap.size+1) (rbits l) 0/\Fr w w':=by
  obtain⟨a0,cap,hv,_⟩:=hs.shape
  subst hv
  have HS:=hid hs
  have HQ:=hid (rbits_take l)
  have HL:=hid (rbits_len l)
  have HT0:Hid ((rbits l).take (8*0)=[]):=rfl
  have hb0:(w.alloc (.cells #[.slice none 0 0,.int .i64 0] 219)).heap[w.heap.size]?=some (.cells #[.slice none 0 0,.int .i64 0] 219 (0,0)):=heap_new _ _ _ rfl
  have hf0:Fr w (w.alloc (.cells #[.slice none 0 0,.int .i64 0] 219)):=(Fr.refl w).alloc _
  have hz0:w.heap.size+1<=(w.alloc (.cells #[.slice none 0 0,.int .i64 0] 219)).heap.size:=by simp
  clear hs
  generalize rbits l=Q at *
  go_enter Tryz.func151, Tryz.ntmps151
  go_wp2_with fail
  generalize w.alloc (.cells #[.slice none 0 0,.int .i64 0] 219)=W0 at *
  have HW:Hid (∀ W:World,Fr w W->w.heap.size<=W.heap.size):=fun W h=>h.size
  generalize hg:w.heap.size=g at *
  go_loopw [4] (fun iv wr=>∃ (i:Nat) (rv:Value),i<=l.length/\iv=N i/\wr.heap[g]?=some (.cells #[rv,.int .i64 0] 219 (0,0))/\Ow wr (g+1) eB rv (Q.take (8*i))/\Fr w wr/\g+1<=wr.heap.size) (fun iv _=>l.length - (intOf iv).toNat)
  case atStart=>exact⟨0,_,Nat.zero_le _,rfl,hb0,by rw [HT0.out];exact Ow.nil,hf0,hz0⟩
  case round=>
    clear hb0 hf0 hz0
    obtain⟨i,rv,hi,rfl,hB,hO,hf,hz⟩:=hrel
    by_cases hlt:i<l.length
    · obtain⟨b,off,cp,hv,c0⟩:=HS.out.cell1 Fk.u8 rfl i hlt
      cases hv
      have d0:w.cell? ⟨b,off+i,none⟩=some (.int .u8 (l[i].toNat:Int)):=c0
      have hcb:=l[i].toNat_lt
      have HBt:Hid (∀ k,k<8->Q.take (8*i+(k+1))=Q.take (8*i+k)++[UInt8.ofNat (l[i].toNat / (128 / 2 ^ k) % 2)]):=fun k hk=>by
        rw [show 8*i+(k+1)=(8*i+k)+1 from rfl,HQ.out _ (by omega),bitR_at l _ (by omega),bit_of2 _ k hk]
        simp only [show(8*i+k) / 8=i by omega,show(8*i+k) % 8=k by omega]
      clear c0
      generalize l[i].toNat=c at *
      have i1:(i:Int)<l.length:=by omega
      have i2:(0:Int)<=i:=by omega
      go_wp2_with fail
      go_loopw [5,6] (fun mv kv wr=>∃ (k m:Nat) (rv:Value),k<=8/\kv=N k/\mv=N m/\Hid (m=128 / 2 ^ k)/\wr.heap[g]?=some (.cells #[rv,.int .i64 0] 219 (0,0))/\Ow wr (g+1) eB rv (Q.take (8*i+k))/\Fr w wr/\g+1<=wr.heap.size) (fun _ kv _=>8 - (intOf kv).toNat)
      case atStart=>exact⟨0,128,rv,Nat.zero_le _,rfl,rfl,rfl,hB,hO,hf,hz⟩
      case round=>
        clear hB hO hf hz
        obtain⟨k,m,rv,hk,rfl,rfl,HM,hB,hO,hf,hz⟩:=hrel
        by_cases hk8:k<8
        · have hm1:1<=m:=by
            rw [HM.out]
            have h:k=0\/k=1\/k=2\/k=3\/k=4\/k=5\/k=6\/k=7:=by omega
            rcases h with rfl | rfl | rfl | rfl | rfl | rfl | rfl | rfl <;> decide
          have hm128:m<=128:=by rw [HM.out];exact Nat.div_le_self _ _
          have HM2:Hid (m / 2=128 / 2 ^ (k+1)):=by show _=_;rw [HM.out,Nat.div_div_eq_div_mul,Nat.pow_succ]
          have HBk:=hid (HBt.out k hk8)
          rw [<- HM.out]at HBk
          have k1:(k:Int)<8:=by omega
          have k2:¬(m:Int)=0:=by omega
          have hqc:c / m<=c:=Nat.div_le_self _ _
          obtain⟨qq,hqq⟩:∃ qq,qq=c / m:=⟨_,rfl⟩
          have hqi:(c:Int) / m=(qq:Int):=by rw [hqq];simp
          rw [<- hqq]at hqc
          have HB2:Hid ((#[Value.int .u8 ((c:Int) / m % 2)]:Array Value).toList=eB.cells [UInt8.ofNat (c / m % 2)]):=by
            show _=_
            have:=byte_cell (c / m % 2) (by omega)
            rw [show((c / m % 2:Nat):Int)=(c:Int) / m % 2 by simp]at this
            exact this
          have q1:IntKind.i64.wrap (c:Int)=(c:Int):=IntWalk.i64_in _ (by omega)
          have q2:IntKind.i64.wrap ((c:Int) / m)=(c:Int) / m:=IntWalk.i64_in _ (by rw [hqi];omega)
          have q3:((c:Int) / m).tmod 2=(c:Int) / m % 2:=Int.tmod_eq_emod_of_nonneg (by rw [hqi];exact Int.natCast_nonneg _)
          have q4:IntKind.i64.wrap ((c:Int) / m % 2)=(c:Int) / m % 2:=IntWalk.i64_in _ (by omega)
          have q5:IntKind.u8.wrap ((c:Int) / m % 2)=(c:Int) / m % 2:=by rw [wrap_u8];omega
          have q6:(c:Int).tdiv m=(c:Int) / m:=Int.tdiv_eq_ediv_of_nonneg (by omega)
          have HLn:Hid ((Q.take (8*i+k)).length+1<=2147483648):=by show _<=_;rw [List.length_take];omega
          generalize Q.take (8*i+k)=P0 at *
          have hown:=hO
          have hownD:=hO.drew
          obtain⟨va,vc,hrv⟩:=hO.shape'
          subst hrv
          have hneq:∀ j,(Value.slice va P0.length vc).ownBlock=some j->g+1<=j:=fun j h=>(hO.lt j h).1
          have keepF:∀ W,Fr w W->W.cell? ⟨b,off+i,none⟩=some (.int .u8 (c:Int)):=fun W h=>h.cell d0
          have hfal:Fr wr (wr.alloc (.cells #[.int .u8 ((c:Int) / m % 2)] 5)):=(Fr.refl wr).alloc _
          have e0:wr.cell? ⟨g,0,none⟩=some (.slice va P0.length vc):=by rw [cell_of_heap hB];rfl
          have e0a:=hfal.cell e0
          have hk0:=keepF wr.drew (Fr.drew hf)
          have hk1:=keepF _ (hf.trans hfal)
          have hk2:=keepF _ (hf.trans hfal).drew
          have hk3:=keepF _ (hf.drew.trans ((Fr.refl wr.drew).alloc (.cells #[.int .u8 ((c:Int) / m % 2)] 5)))
          clear hqi HM HBt hqq hqc
          generalize UInt8.ofNat (c / m % 2)=x at *
          go_upto_region 9 with fail
          rw [show Op.load 22 (.tmp 22)=ldBits from rfl]
          go_region_held_law (fun W => W.cell? ⟨b, off + i, none⟩ = some (.int .u8 (c : Int)))
            (first | exact hk0 | exact hk1 | exact hk2 | exact hk3 | exact hk4 | exact hk5 _ | go_keep)
            (((first | refine step_app1 eB rfl (.tmp 23) (.tmp 33) 22 rfl Tryz.underlying22 (g + 1) rfl hownD [x] _ _ _ HB2.out rfl rfl HLn.out hz ?_ | refine step_app1d eB rfl (.tmp 23) (.tmp 33) 22 rfl Tryz.underlying22 (g + 1) rfl hown [x] _ _ _ HB2.out rfl rfl HLn.out hz ?_)
              intro v' w4 hap
              have own4 := hap.own
              obtain ⟨va2, vc2, hv'⟩ := own4.shape'
              rw [show (P0 ++ [x]).length = P0.length + 1 from by simp] at hv'
              subst hv'
              have m0 := hap.chg'.heap (show wr.drew.heap[g]? = _ from hB) (fun e => by have := hneq g e; omega)
              have hf4 : Fr w w4 := by first | exact hap.below hownD (Fr.drew hf) (by rw [hg]; omega) (Fr.drew hf).size | exact hap.below hown hf (by rw [hg]; omega) hf.size
              have hs4 : g + 1 ≤ w4.heap.size := Nat.le_trans hz hap.size
              have e3 : w4.cell? ⟨g, 0, none⟩ = some (.slice va P0.length vc) := by rw [cell_of_heap m0]; rfl
              have e4 : w4.frozen? ⟨g, 0, none⟩ = false := frozen_of_heap m0 0
              have hk4 := keepF w4 hf4
              have hk5 := fun (u : Value) => keepF (w4.setCell ⟨g, 0, none⟩ u) (Chg.below hf4 (setCell_chg w4 ⟨g, 0, none⟩ u) hf4.size (fun k e => by have e : k = g := e; omega))))
          all_goals go_wp2_with fail
          all_goals go_roundw
          all_goals first
            | (simp [intOf];omega)
            | (refine ⟨k + 1, m / 2, _, by omega, by go_num, by go_num, HM2.out, by simpa using heap_setCell_own m0 0 (.slice va2 (P0.length + 1) vc2), ?_, Chg.below hf4 (setCell_chg w4 ⟨g, 0, none⟩ _) hf4.size (fun i e => by have e : i = g := e; omega), by simp [World.setCell]; omega⟩
               rw [HBk.out]
               exact own4.chg (setCell_chg w4 ⟨g, 0, none⟩ _) fun k hk e => (own4.ne_cells m0 (by decide)) (by rw [hk, show k = g from e]))
        · obtain rfl:k=8:=by omega
          go_wp2_with fail
          go_roundw
          case rel=>exact⟨i+1,rv,by omega,by go_num,hB,by rw [show 8*(i+1)=8*i+8 from rfl];exact hO,hf,hz⟩
          case measure=>simp [intOf];omega
    · obtain rfl:i=l.length:=by omega
      have hnl:¬((l.length:Int)<l.length):=by omega
      have HAl:Hid (Q.take (8*l.length)=Q):=by show _=_;rw [<- HL.out,List.take_length]
      rw [HAl.out]at hO
      clear HQ HT0
      go_wp2_with fail
      go_ret
      exact⟨rfl,⟨⟨rv,hB,hO⟩,Nat.zero_le _⟩,hf⟩
theorem RBLeft_any(B base a:Nat)(q:List UInt8)(w:World)(hc:RbF w B base q a)(hl:q.length<=8000000) :
  Calls Tryz.prog 198 #[.pointer (some ⟨B,0,none⟩)] w fun e w'=>e=.returned (.int .i64 ((q.length:Int) - a))/\Qt w w':=by
 obtain⟨⟨v,h1,ho⟩,hle⟩:=hc
 obtain⟨a0,cap,hv⟩:=ho.shape'
 subst hv
 have c1:w.cell? ⟨B,0,none⟩=some (.slice a0 q.length cap):=by rw [cell_of_heap h1];rfl
 have c2:w.cell? ⟨B,1,none⟩=some (N a):=by rw [cell_of_heap h1];rfl
 have hw:IntKind.i64.wrap ((q.length:Int) - a)=(q.length:Int) - a:=IntWalk.i64_in _ (by omega)
 clear h1 ho
 go_enter Tryz.func198, Tryz.ntmps198
 go_wp2_with fail
 go_quiet (fail)
 go_wp2_with fail
 go_ret
 exact⟨rfl,Qt.drewN _ _⟩
theorem RPeek_any(B base a k:Nat)(l:List UInt8)(w:World)(hc:RbF w B base (rbits l) a)(hl:l.length<=1000000)(hk:k<=64) :
  Calls Tryz.prog 199 #[.pointer (some ⟨B,0,none⟩),N k] w fun e w'=>e=.returned (.tuple #[.int .u64 (Fk.numAt l a k:Int),N (min k (8*l.length - a))])/\Qt w w':=by
 have hL:=rbits_len l
 have HLf:=hid (fun W (h:Qt w W)=>RBLeft_any B base a (rbits l) W (hc.fr h.fr) (by omega))
 have HBt:Hid (∀ j (h:a+j<(rbits l).length),((rbits l)[a+j]).toNat=bitR l (a+j)):=fun j h=>rbits_nat l _ h
 have HT:=hid (fun j=>bitR_two l (a+j))
 have HO:Hid (∀ j,8*l.length<=j->bitR l j=0):=bitR_out l
 have HNl:=hid (fun j=>numAt_lt l a j)
 obtain⟨⟨v,h1,ho⟩,hle⟩:=hc
 obtain⟨a0,cap,hv⟩:=ho.shape'
 subst hv
 have HS:=hid ho.see
 have c0:w.cell? ⟨B,0,none⟩=some (.slice a0 (rbits l).length cap):=by rw [cell_of_heap h1];rfl
 have c1:w.cell? ⟨B,1,none⟩=some (N a):=by rw [cell_of_heap h1];rfl
 clear h1 ho
 generalize rbits l=q at *
 have k1:¬(k:Int)<0:=by omega
 have k2:¬(64:Int)<k:=by omega
 go_enter Tryz.func199, Tryz.ntmps199
 go_wp2_with fail
 go_loopw [6,7,8] (fun xv tv iv wr=>∃ j x:Nat,j<=k/\iv=N j/\xv=.int .u64 (x:Int)/\tv=N (min j (8*l.length - a))/\Hid (x=Fk.numAt l a j)/\Qt w wr) (fun _ _ iv _=>k - (intOf iv).toNat)
 case atStart=>exact⟨0,0,Nat.zero_le _,rfl,rfl,by simp [N],rfl,Qt.refl _⟩
 case round=>
  obtain⟨j,x,hj,rfl,rfl,rfl,HX,hq⟩:=hrel
  have hf:=hq.fr
  have HLf1:=hid (HLf.out wr hq)
  by_cases hlt:j<k
  · have hxb:x<9223372036854775808:=by
      have h1:=HNl.out j
      have h2:(2:Nat) ^ j<=2 ^ 63:=Nat.pow_le_pow_right (by omega) (by omega)
      rw [<- HX.out]at h1
      omega
    have HXb:=hid hxb
    have hw2:IntKind.u64.wrap (2*(x:Int))=2*(x:Int):=IntWalk.u64_in _ (by omega)
    have j1:(j:Int)<k:=by omega
    by_cases hn:a+j<q.length
    · obtain⟨b,off,cp,hv,e0⟩:=(HS.out.fr hf).cell1 Fk.u8 rfl (a+j) hn
      cases hv
      have hbt:=HBt.out j hn
      have hb2:=HT.out j
      have d0:wr.cell? ⟨b,off+(a+j),none⟩=some (.int .u8 (q[a+j].toNat:Int)):=e0
      have HX2:Hid (2*x+q[a+j].toNat=Fk.numAt l a (j+1)):=by show _=_;rw [HX.out,hbt];rfl
      have hc2:q[a+j].toNat<2:=by omega
      have hmin:min (j+1) (8*l.length - a)=min j (8*l.length - a)+1:=by omega
      clear e0 hbt hb2
      generalize q[a+j].toNat=c at *
      have m1:(min j (8*l.length - a))<=64:=by omega
      have HMin:=hid hmin
      clear hmin
      generalize min j (8*l.length - a)=mn at *
      have c0':=hf.cell c0
      have c1':=hf.cell c1
      have j2:(j:Int)<(q.length:Int) - a:=by omega
      have i1:IntKind.i64.wrap ((a:Int)+j)=(a:Int)+j:=IntWalk.i64_in _ (by omega)
      have i2:(0:Int)<=(a:Int)+j:=by omega
      have i3:((a:Int)+j).toNat=a+j:=by omega
      have i4:(a:Int)+j<q.length:=by omega
      have w1:IntKind.u64.wrap (c:Int)=(c:Int):=IntWalk.u64_in _ (by omega)
      have w2:IntKind.u64.wrap (2*(x:Int)+c)=2*(x:Int)+c:=IntWalk.u64_in _ (by omega)
      have w3:IntKind.i64.wrap ((mn:Int)+1)=(mn:Int)+1:=IntWalk.i64_in _ (by omega)
      clear hxb HX hL
      go_wp2_with fail
      refine(HLf1.out).mono ?_
      rintro e w5 ⟨rfl,hq5⟩
      have hq6:=hq.trans hq5
      have c0'':=hq5.fr.cell c0'
      have c1'':=hq5.fr.cell c1'
      have d0'':=hq5.fr.cell d0
      clear c0' c1' d0
      go_wp2_with fail
      go_quiet (fail)
      go_wp2_with fail
      go_roundw
      case rel=>exact⟨j+1,2*x+c,by omega,by go_num,by go_num,by rw [HMin.out];go_num,HX2.out,hq6.trans (Qt.drewN _ _)⟩
      case measure=>simp [intOf];omega
    · have HX2:Hid (2*x=Fk.numAt l a (j+1)):=by show _=_;rw [HX.out];show _=2*Fk.numAt l a j+bitR l (a+j);rw [HO.out _ (by omega)];rfl
      have hmin:min (j+1) (8*l.length - a)=min j (8*l.length - a):=by omega
      have j2:¬(j:Int)<(q.length:Int) - a:=by omega
      have HMin:=hid hmin
      clear hmin hxb HX hL
      generalize min j (8*l.length - a)=mn at *
      go_wp2_with fail
      refine(HLf1.out).mono ?_
      rintro e w5 ⟨rfl,hq5⟩
      have hq6:=hq.trans hq5
      go_wp2_with fail
      go_roundw
      case rel=>exact⟨j+1,2*x,by omega,by go_num,by go_num,by rw [HMin.out],HX2.out,hq6⟩
      case measure=>simp [intOf];omega
  · obtain rfl:j=k:=by omega
    have j1:¬(j:Int)<j:=by omega
    have HX2:=hid HX.out
    clear HX hL
    generalize hmn:min j (8*l.length - a)=mn at *
    have HMn:=hid hmn
    clear hmn
    go_wp2_with fail
    go_ret2
    exact⟨by rw [HX2.out,HMn.out];rfl,hq⟩
theorem RGet_any(B base a k:Nat)(l:List UInt8)(w:World)(hc:RbF w B base (rbits l) a)(hl:l.length<=1000000)(hk:k<=64) :
  Calls Tryz.prog 152 #[.pointer (some ⟨B,0,none⟩),N k] w fun e w'=>e=.returned (.tuple #[.int .u64 ((if 8*l.length<a+k then 0 else Fk.numAt l a k:Nat):Int),.int .i64 ((if 8*l.length<a+k then 1 else 0:Nat):Int)])/\RbF w' B base (rbits l) (if 8*l.length<a+k then a else a+k)/\Chg (fun b=>b=B) w w':=by
 have hL:=rbits_len l
 have HL:=hid (RBLeft_any B base a (rbits l) w hc (by omega))
 have k1:¬(k:Int)<0:=by omega
 have k2:¬(64:Int)<k:=by omega
 by_cases h:8*l.length<a+k
 · rw [if_pos h,if_pos h,if_pos h]
   have HC:=hid hc
   have k3:((rbits l).length:Int) - a<k:=by omega
   clear hc h hL
   generalize rbits l=q at *
   go_enter Tryz.func152, Tryz.ntmps152
   go_wp2_with fail
   refine(HL.out).mono ?_
   rintro e w1 ⟨rfl,hq⟩
   go_wp2_with fail
   go_ret2
   exact⟨rfl,HC.out.fr hq.fr,hq.fr.chg _⟩
 · rw [if_neg h,if_neg h,if_neg h]
   have k3:¬((rbits l).length:Int) - a<k:=by omega
   have HNm:=hid (fun W (hf:Fr w W)=>RPeek_any B base a k l W (hc.fr hf) hl hk)
   have hw:IntKind.i64.wrap ((a:Int)+k)=(a:Int)+k:=IntWalk.i64_in _ (by omega)
   obtain⟨⟨v,h1,hO⟩,hle⟩:=hc
   have HLe:Hid (a+k<=(rbits l).length):=by show _<=_;omega
   have hvB:=hO.ne_cells h1 (by decide)
   clear h hL
   generalize rbits l=q at *
   generalize Fk.numAt l a k=x at *
   generalize min k (8*l.length - a)=mn at *
   go_enter Tryz.func152, Tryz.ntmps152
   go_wp2_with fail
   refine(HL.out).mono ?_
   rintro e w1 ⟨rfl,hq⟩
   have HN2:=hid (HNm.out w1 hq.fr)
   clear HNm
   go_wp2_with fail
   refine(HN2.out).mono ?_
   rintro e w2 ⟨rfl,hq2⟩
   have hf2:Fr w w2:=hq.fr.trans hq2.fr
   have h12:=hf2.heap h1
   have d2:w2.cell? ⟨B,1,none⟩=some (N a):=by rw [cell_of_heap h12];rfl
   have z2:=frozen_of_heap h12 1
   have hst:=setCell_chg w2 ⟨B,1,none⟩ (.int .i64 ((a:Int)+k))
   have h13:=heap_setCell_own h12 1 (.int .i64 ((a:Int)+k))
   have hO3:=(hO.fr hf2).chg hst (fun i hi e=>hvB (by rw [hi,show i=B from e]))
   have hch:Chg (fun b=>b=B) w (w2.setCell ⟨B,1,none⟩ (.int .i64 ((a:Int)+k))):=(hf2.chg _).trans hst fun _ _ h=>h
   clear HN2 HL
   go_wp2_with fail
   go_ret2
   exact⟨rfl,⟨⟨v,h13,hO3⟩,HLe.out⟩,hch⟩
theorem RUnary_any(B base a:Nat)(l:List UInt8)(w:World)(hc:RbF w B base (rbits l) a)(hl:l.length<=1000000) :
  Calls Tryz.prog 153 #[.pointer (some ⟨B,0,none⟩)] w fun e w'=>e=.returned (.tuple #[N (unaR l a).1,.int .i64 ((unaR l a).2.2:Int)])/\RbF w' B base (rbits l) (unaR l a).2.1/\Chg (fun b=>b=B) w w':=by
 have hL:=rbits_len l
 have HC:=hid hc
 have HBt:Hid (∀ j (h:j<(rbits l).length),((rbits l)[j]).toNat=bitR l j):=fun j h=>rbits_nat l _ h
 have HU:Hid (unaR l a=match unGo l ((rbits l).length - a) a with | some i=>(i - a,i+1,0) | none=>(0,a,1)):=by show _=_;unfold unaR;rw [hL];cases unGo l (8*l.length - a) a <;> rfl
 have HS:Hid (∀ i,i<(rbits l).length->unGo l ((rbits l).length - i) i=if bitR l i=1 then some i else unGo l ((rbits l).length - (i+1)) (i+1)):=fun i h=>by rw [hL]at h ⊢;exact unGo_step l i h
 have HE:Hid (unGo l ((rbits l).length - (rbits l).length) (rbits l).length=none):=by show _=_;rw [Nat.sub_self];rfl
 have hn8:(rbits l).length<=8000000:=by omega
 obtain⟨⟨v,h1,hO⟩,hle⟩:=hc
 obtain⟨a0,cap,hv⟩:=hO.shape'
 subst hv
 have HSe:=hid hO.see
 have c0:w.cell? ⟨B,0,none⟩=some (.slice a0 (rbits l).length cap):=by rw [cell_of_heap h1];rfl
 have c1:w.cell? ⟨B,1,none⟩=some (N a):=by rw [cell_of_heap h1];rfl
 have hvB:=hO.ne_cells h1 (by decide)
 clear hL
 generalize rbits l=q at *
 generalize unaR l a=U at *
 go_enter Tryz.func153, Tryz.ntmps153
 go_wp2_with fail
 go_loopw [4] (fun iv wr=>∃ i:Nat,a+i<=q.length/\iv=N i/\Hid (unGo l (q.length - a) a=unGo l (q.length - (a+i)) (a+i))/\Qt w wr) (fun iv _=>q.length - (intOf iv).toNat)
 case atStart=>exact⟨0,hle,rfl,rfl,Qt.refl _⟩
 case round=>
  obtain⟨i,hin,rfl,HI,hq⟩:=hrel
  have d0:=hq.fr.cell c0
  have d1:=hq.fr.cell c1
  have i1:IntKind.i64.wrap ((a:Int)+i)=(a:Int)+i:=IntWalk.i64_in _ (by omega)
  by_cases hlt:a+i<q.length
  · have HS1:=hid (HS.out (a+i) hlt)
    have hb2:=bitR_two l (a+i)
    have hbq:=HBt.out (a+i) hlt
    have j1:(a:Int)+i<q.length:=by omega
    have j2:(0:Int)<=(a:Int)+i:=by omega
    have j3:((a:Int)+i).toNat=a+i:=by omega
    obtain⟨b,off,cp,hv,e0⟩:=(HSe.out.fr hq.fr).cell1 Fk.u8 rfl (a+i) hlt
    cases hv
    have f0:wr.cell? ⟨b,off+(a+i),none⟩=some (.int .u8 (q[a+i].toNat:Int)):=e0
    clear e0
    rw [hbq]at f0
    by_cases hb:bitR l (a+i)=1
    · have HU2:Hid (U=(i,a+i+1,0)):=by show _=_;rw [HU.out,HI.out,HS1.out,if_pos hb];show(a+i - a,_,_)=_;rw [Nat.add_sub_cancel_left]
      rw [hb]at f0
      clear HS1 HI hb hb2 hbq
      go_upto_region 2 with fail
      go_quiet (fail)
      obtain⟨wA,hA,hqA⟩:∃ wA,wA=wr.drewN nq/\Qt wr wA:=⟨_,rfl,Qt.drewN _ _⟩
      rw [<- hA]
      clear hA
      have e0:=hqA.fr.cell d0
      have e1:=hqA.fr.cell d1
      have e2:=hqA.fr.cell f0
      clear d0 d1 f0
      go_upto_region 4 with fail
      go_quiet (fail)
      obtain⟨wB,hB,hqB⟩:∃ wB,wB=wA.drewN nq/\Qt w wB:=⟨_,rfl,(hq.trans hqA).trans (Qt.drewN _ _)⟩
      rw [<- hB]
      clear hB hqA e0 e1 e2
      have h12:=hqB.fr.heap h1
      have d2:wB.cell? ⟨B,1,none⟩=some (N a):=by rw [cell_of_heap h12];rfl
      have z2:=frozen_of_heap h12 1
      have hst:=setCell_chg wB ⟨B,1,none⟩ (.int .i64 ((a:Int)+i+1))
      have h13:=heap_setCell_own h12 1 (.int .i64 ((a:Int)+i+1))
      have hO3:=(hO.fr hqB.fr).chg hst (fun i hi e=>hvB (by rw [hi,show i=B from e]))
      have hch:=(hqB.fr.chg (fun b=>b=B)).trans hst fun _ _ h=>h
      have i5:IntKind.i64.wrap ((a:Int)+i+1)=(a:Int)+i+1:=IntWalk.i64_in _ (by omega)
      go_wp2_with fail
      go_ret2
      rw [HU2.out]
      exact⟨rfl,⟨⟨_,h13,hO3⟩,hlt⟩,hch⟩
    · have hb0:bitR l (a+i)=0:=by omega
      have HI2:Hid (unGo l (q.length - a) a=unGo l (q.length - (a+(i+1))) (a+(i+1))):=by show _=_;rw [HI.out,HS1.out,if_neg hb];rfl
      rw [hb0]at f0
      clear HS1 HI hb hb2 hbq hb0
      go_upto_region 2 with fail
      go_quiet (fail)
      obtain⟨wA,hA,hqA⟩:∃ wA,wA=wr.drewN nq/\Qt wr wA:=⟨_,rfl,Qt.drewN _ _⟩
      rw [<- hA]
      clear hA
      have e0:=hqA.fr.cell d0
      have e1:=hqA.fr.cell d1
      have e2:=hqA.fr.cell f0
      clear d0 d1 f0
      go_upto_region 4 with fail
      go_quiet (fail)
      go_wp2_with fail
      go_roundw
      case rel=>exact⟨i+1,hlt,by go_num,HI2.out,(hq.trans hqA).trans (Qt.drewN _ _)⟩
      case measure=>simp [intOf];omega
  · have hae:a+i=q.length:=by omega
    have HU2:Hid (U=(0,a,1)):=by show _=_;rw [HU.out,HI.out,hae,HE.out]
    have j1:¬((a:Int)+i<q.length):=by omega
    clear HI hae
    go_upto_region 2 with fail
    go_quiet (fail)
    go_wp2_with fail
    go_ret2
    rw [HU2.out]
    exact⟨rfl,HC.out.fr (hq.trans (Qt.drewN _ _)).fr,(hq.trans (Qt.drewN _ _)).fr.chg _⟩
set_option maxRecDepth 512
end Go.Proofs.YtijghcbpfcjjnaaGreatDoor
