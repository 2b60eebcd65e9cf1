/- Parts of the proof of ThreeOpens: Mr4. -/
import Derived.Test.YtijghcbpfcjjnaaGreatDoorM29
import Derived.Test.YtijghcbpfcjjnaaGreatDoorM15
set_option linter.unusedVariables false
set_option linter.unusedSectionVars false
set_option linter.unusedSimpArgs false
set_option maxHeartbeats 8000000
namespace Go.Proofs.YtijghcbpfcjjnaaGreatDoor
open Go.RowKit Go.Fk
theorem rowOf_at(m:Nat)(A:Nat->Nat->UInt8)(i j:Nat)(h:j<m):(rowOf m A i)[j]'(by rw [rowOf_len];exact h)=A i j:=by simp [rowOf]
theorem rowOf_step(m:Nat)(A:Nat->Nat->UInt8)(i j:Nat)(h:j<m):(rowOf m A i).take (j+1)=(rowOf m A i).take j++[A i j]:=by
 rw [List.take_add_one,List.getElem?_eq_getElem (by rw [rowOf_len];exact h),rowOf_at m A i j h];rfl
theorem aug_low(M:List UInt8)(n i j:Nat)(h:j<n):augF (cellF M n) n i j=M.getD (i*n+j) 0:=by unfold augF cellF;rw [if_pos h]
theorem aug_high(M:List UInt8)(n i j:Nat)(h:¬j<n):augF (cellF M n) n i j=if j - n=i then 1 else 0:=by unfold augF;rw [if_neg h]
theorem _root_.Go.Fk.RowsF.app{P:Program}{β:Type}{E:Elt P UInt8}{F:Elt P β}{w w':World}{base b m:Nat}{ps:List Hd}{A:Nat->Nat->UInt8}{v v':Value}{l l':List β}(h:RowsF w base E ps m A)(ho:Ow w b F v l)(ha:App b F l' w v v' w')(hT:F.e≠E.e):RowsF w' base E ps m A:=
 ⟨fun t ht=>own_app (h.own t ht) ho ha hT,h.ne⟩
theorem rows_cell{w:World}{base rg rc n m r j:Nat}{ps:List Hd}{A:Nat->Nat->UInt8}(hO:Ow w base eHB (.slice (some ⟨rg,0,none⟩) n rc) ps)(hR:RowsF w base eB ps m A)(hr:r<ps.length)(hj:j<m) :
  ∃ gr cr,ps[r].v=.slice (some ⟨gr,0,none⟩) m cr/\w.cell? ⟨rg,r,none⟩=some (.slice (some ⟨gr,0,none⟩) m cr)/\w.cell? ⟨gr,j,none⟩=some (.int .u8 ((A r j).toNat:Int))/\w.frozen? ⟨gr,j,none⟩=false/\base<=gr/\w.frozen? ⟨rg,r,none⟩=false/\gr≠rg:=by
 have ho:=hR.own r hr
 obtain⟨gr,cr,hv,hb,_⟩:=ho.atHead (by intro e;have:=rowOf_len m A r;rw [e]at this;simp at this;omega)
 rw [rowOf_len]at hv
 rw [hv]at ho
 obtain⟨h1,h2⟩:=hO.cellAt (fun(h:Hd)=>h.v) rfl r hr
 obtain⟨h3,h4⟩:=ho.cellAt Fk.u8 rfl j (by rw [rowOf_len];exact hj)
 rw [rowOf_at m A r j hj]at h3
 rw [hv]at h1
 refine⟨gr,cr,hv,h1,h3,h4,hb,h2,fun e=>?_⟩
 rcases own_ne ho hO (by decide)with h | h
 · cases h
 · exact h (by rw [e];rfl)
theorem rowOf_drop(n:Nat)(A:Nat->Nat->UInt8)(i:Nat):(rowOf (n+n) A i).drop n=rowOf n (fun r j=>A r (n+j)) i:=by
 apply List.ext_getElem
 · rw [List.length_drop,rowOf_len,rowOf_len];omega
 · intro j h1 h2
   simp [rowOf]
theorem preL_rowS(n:Nat)(F:Nat->Nat->UInt8)(i:Nat):preL n F ((i+1)*n)=preL n F (i*n)++rowOf n F i:=by
 unfold preL rowOf
 rw [Nat.add_mul,Nat.one_mul,List.range_add,List.map_append,List.map_map]
 congr 1
 refine List.map_congr_left fun j hj=>?_
 have hj:=List.mem_range.1 hj
 simp only [Function.comp]
 rw [div_at n i j hj,mod_at n i j hj]
theorem swapF_comm(A:Nat->Nat->UInt8)(i p:Nat):swapF A p i=swapF A i p:=by
 funext r j
 unfold swapF
 by_cases h1:r=i <;> by_cases h2:r=p <;> simp_all
def elimK(S:Nat->Nat->UInt8)(i k J:Nat):Nat->Nat->UInt8:=fun r c=>if r=k/\c<J then S k c ^^^ mul8 (S k i) (S i c)else elimF S i k r c
theorem elimK_zero(S:Nat->Nat->UInt8)(i k:Nat):elimK S i k 0=elimF S i k:=by funext r c;simp [elimK]
theorem elimK_step(S:Nat->Nat->UInt8)(i k J:Nat):(fun r c=>if r=k/\c=J then S k J ^^^ mul8 (S k i) (S i J)else elimK S i k J r c)=elimK S i k (J+1):=by
 funext r c
 unfold elimK
 by_cases h1:r=k
 · by_cases h2:c=J
   · subst h1 h2;simp
   · by_cases h3:c<J
     · simp [h1,h2,h3,show c<J+1 by omega]
     · simp [h1,h2,h3,show ¬c<J+1 by omega]
 · simp [h1]
theorem elimK_all(S:Nat->Nat->UInt8)(i k m:Nat)(h:k≠i):∀ r c,c<m->elimK S i k m r c=elimF S i (k+1) r c:=by
 intro r c hc
 unfold elimK elimF
 by_cases h1:r=k
 · subst h1
   rw [if_pos ⟨rfl,hc⟩,if_pos ⟨by omega,h⟩]
 · rw [if_neg (fun e=>h1 e.1)]
   by_cases h2:r<k/\r≠i
   · rw [if_pos h2,if_pos ⟨by omega,h2.2⟩]
   · rw [if_neg h2,if_neg (fun e=>h2 ⟨by omega,e.2⟩)]
theorem scaleK_full(f:Nat->Nat->UInt8)(i:Nat)(c:UInt8)(m:Nat):∀ r j,j<m->scaleK f i c m r j=scaleF f i c r j:=by
 intro r j hj
 unfold scaleK scaleF
 by_cases h:r=i
 · rw [if_pos ⟨h,hj⟩,if_pos h]
 · rw [if_neg (fun e=>h e.1),if_neg h]
set_option maxRecDepth 100000
theorem RInverse_any (n : Nat) (M : List UInt8) (v : Value) (w : World) (hsM : See w eB v M) (hM : M.length = n * n) (h1 : 1 ≤ n) (hn : n ≤ 255) (hG : Goes M n) :
    Calls Tryz.prog 144 #[.agg #[N n,N n,v]] w fun e w'=>∃ u,e=.returned (.tuple #[.agg #[N n,N n,u],.int .i64 0])/\Ow w' w.heap.size eB u (invL M n)/\Fr w w':=by
  obtain⟨a,cap,hva,_⟩:=hsM.shape
  rw [hM]at hva
  subst hva
  have HM:=hid (RMMay_any n n a cap hn hn)
  have HML:=hid hM
  have HGo:Hid (∀ i,i<n->HasPiv (stG (augF (cellF M n) n) n i) n i):=hG
  have HS:Hid (∀ i,stG (augF (cellF M n) n) n (i+1)=elimF (scaledF (stG (augF (cellF M n) n) n i) n i) i n):=fun _=>rfl
  have HZ:Hid (stG (augF (cellF M n) n) n 0=augF (cellF M n) n):=rfl
  have HI:Hid (invL M n=preL n (fun r j=>stG (augF (cellF M n) n) n n r (n+j)) (n*n)):=rfl
  have HLow:=hid (fun i j h=>aug_low M n i j h)
  have HHigh:=hid (fun i j h=>aug_high M n i j h)
  generalize stG (augF (cellF M n) n) n=St at *
  generalize augF (cellF M n) n=A0 at *
  generalize invL M n=IV at *
  have hnn:n*n<=255*255:=Nat.mul_le_mul hn hn
  have HMul:Hid (∀ i j,i<n->j<n->i*n+j<n*n):=fun i j hi hj=>by have:=Nat.mul_le_mul_right n (show i+1<=n by omega);rw [Nat.add_mul]at this;omega
  obtain⟨n2,hn2⟩:∃ q,q=n+n:=⟨_,rfl⟩
  have HN2:=hid hn2
  have hw2:IntKind.i64.wrap (2*(n:Int))=(n2:Int):=by rw [show 2*(n:Int)=(n2:Int) by omega];exact wrap_i64 _ (by omega)
  have hn2b:n2<=510:=by omega
  have hn2g:n<n2:=by omega
  clear hG hM hn2
  generalize hnnE:n*n=nn at *
  have hb0:((w.alloc (.cells #[N n,N n,.slice a nn cap] 175)).alloc (.cells #[.int .i64 0,.int .i64 0,.slice none 0 0] 175)).heap[w.heap.size]?=some (.cells #[N n,N n,.slice a nn cap] 175 (0,0)):=by
    rw [heap_old _ _ _ (by simp),heap_new _ _ _ rfl]
  have hb1:((w.alloc (.cells #[N n,N n,.slice a nn cap] 175)).alloc (.cells #[.int .i64 0,.int .i64 0,.slice none 0 0] 175)).heap[w.heap.size+1]?=some (.cells #[.int .i64 0,.int .i64 0,.slice none 0 0] 175 (0,0)):=heap_new _ _ _ (by simp)
  have hf0:Fr w ((w.alloc (.cells #[N n,N n,.slice a nn cap] 175)).alloc (.cells #[.int .i64 0,.int .i64 0,.slice none 0 0] 175)):=((Fr.refl w).alloc _).alloc _
  have hs0:((w.alloc (.cells #[N n,N n,.slice a nn cap] 175)).alloc (.cells #[.int .i64 0,.int .i64 0,.slice none 0 0] 175)).heap.size=w.heap.size+2:=by simp
  go_enter Tryz.func144, Tryz.ntmps144
  go_upto_region 1 with fail
  generalize (w.alloc (.cells #[N n,N n,.slice a nn cap] 175)).alloc (.cells #[.int .i64 0,.int .i64 0,.slice none 0 0] 175)=w0 at *
  have k0:w0.cell? ⟨w.heap.size,0,none⟩=some (N n):=by rw [cell_of_heap hb0];rfl
  have k1:w0.cell? ⟨w.heap.size,1,none⟩=some (N n):=by rw [cell_of_heap hb0];rfl
  have k2:w0.cell? ⟨w.heap.size,2,none⟩=some (.slice a nn cap):=by rw [cell_of_heap hb0];rfl
  generalize hb:w.heap.size=g at *
  go_wp2_with fail
  refine(HM.out _).mono ?_
  rintro e w1 ⟨rfl,hf1⟩
  have c0:=hf1.cell k0
  have c1:=hf1.cell k1
  have hB0:=hf1.heap hb0
  have hB1:=hf1.heap hb1
  have hf01:=hf0.trans hf1
  have hs1:g+2<=w1.heap.size:=by have:=hf1.size;omega
  clear k0 k1 k2 hf0 hb0 hb1 hf1 HM hs0
  go_upto_region 6 with fail
  go_loopw [5,6] (fun rv iv wr=>∃ (i:Nat) (ps:List Hd),i<=n/\iv=N i/\Ow wr (g+2) eHB rv ps/\RowsF wr (g+2) eB ps n2 A0/\ps.length=i/\wr.heap[g]?=some (.cells #[N n,N n,.slice a nn cap] 175 (0,0))/\wr.heap[g+1]?=some (.cells #[.int .i64 0,.int .i64 0,.slice none 0 0] 175 (0,0))/\Fr w wr/\g+2<=wr.heap.size) (fun _ iv _=>n - (intOf iv).toNat)
  case atStart=>exact⟨0,[],Nat.zero_le _,rfl,Ow.nil,RowsF.nil,rfl,hB0,hB1,hf01,hs1⟩
  case round=>
    clear c0 c1 hB0 hB1 hf01 hs1
    obtain⟨i,ps,hi,rfl,hO,hR,hpl,hB0,hB1,hf,hs⟩:=hrel
    by_cases hlt:i<n
    · have hi':(i:Int)<n:=by omega
      obtain⟨oa,oc,hov⟩:=hO.shape'
      have HPl:=hid hpl
      rw [hpl]at hov
      subst hov
      clear hpl
      obtain⟨W,hWe⟩:∃ W:World,W=wr:=⟨_,rfl⟩
      subst hWe
      have HZr:Hid ((rowOf n2 A0 i).take 0=[]):=rfl
      have HRt:=hid (fun j h=>rowOf_step n2 A0 i j h)
      have HLowI:=hid (HLow.out i)
      have HHighI:=hid (HHigh.out i)
      have HMulI:=hid (fun j=>HMul.out i j hlt)
      have hin:i*n<=255*255:=Nat.mul_le_mul (by omega) hn
      have hwin:=wrap_nmul i n 255 255 (by omega) hn (by omega)
      have hRl:(rowOf n2 A0 i).length=n2:=rowOf_len _ _ _
      have HRl:=hid hRl
      generalize i*n=inn at *
      clear hRl
      go_wp2_with fail
      go_loopw [7,8] (fun sv jv wr=>∃ j:Nat,j<=n2/\jv=N j/\Ow wr W.heap.size eB sv ((rowOf n2 A0 i).take j)/\Fr W wr) (fun _ jv _=>n2 - (intOf jv).toNat)
      case atStart=>exact⟨0,Nat.zero_le _,rfl,by rw [HZr.out];exact Ow.nil,Fr.refl W⟩
      case round=>
        obtain⟨j,hj,rfl,hr,hf2⟩:=hrel
        have hB0w:=hf2.heap hB0
        have c2:wr.cell? ⟨g,2,none⟩=some (.slice a nn cap):=by rw [cell_of_heap hB0w];rfl
        by_cases hjl:j<n2
        · have hj':(j:Int)<n2:=by omega
          have HStep:=hid (HRt.out j hjl)
          have HLn:Hid (((rowOf n2 A0 i).take j).length+1<=2147483648):=by show _<=_;rw [List.length_take];omega
          obtain⟨P3,hP3⟩:∃ q,q=(rowOf n2 A0 i).take (j+1):=⟨_,rfl⟩
          rw [<- hP3]at HStep
          have HP3:=hid hP3
          have hP3l:P3.length=j+1:=by rw [hP3,List.length_take,HRl.out];omega
          have HP3l:=hid hP3l
          clear hP3 hP3l
          generalize hP0:(rowOf n2 A0 i).take j=P0 at *
          clear hP0
          have key:∃ x,A0 i j=x:=⟨_,rfl⟩
          obtain⟨x,hx⟩:=key
          rw [hx]at HStep
          by_cases hjn:j<n
          · have hjn':(j:Int)<n:=by omega
            have hml:=HMulI.out j hjn
            have hmM:inn+j<M.length:=by rw [HML.out];exact hml
            obtain⟨mb,moff,mc,hmv,em⟩:=(hsM.fr (hf.trans hf2)).cell1 (fun c=>Fk.u8 c) rfl (inn+j) hmM
            rw [<- getD_at M _ 0 hmM,<- HLowI.out j hjn,hx]at em
            simp only [Value.slice.injEq]at hmv
            obtain⟨rfl,hk9,rfl⟩:=hmv
            have hwij:IntKind.i64.wrap ((inn:Int)+j)=((inn+j:Nat):Int):=by rw [show(inn:Int)+j=((inn+j:Nat):Int) by omega];exact wrap_i64 _ (by omega)
            have em2:wr.cell? ⟨mb,moff+(inn+j),none⟩=some (.int .u8 (x.toNat:Int)):=em
            generalize inn+j=ij at *
            have i4:(ij:Int)<nn:=by omega
            have i5:(0:Int)<=ij:=by omega
            clear hk9 em hx
            go_wp2_with (at_builtin;refine wpList_app1 eB rfl (.tmp 61) (.tmp 63) 22 rfl Tryz.underlying22 W.heap.size rfl hr [x] _ _ _ rfl rfl rfl HLn.out hf2.size ?_)
            intro v' w4 hap
            have own4:=hap.own
            rw [<- HStep.out]at own4
            obtain⟨va,vc,hv'⟩:=own4.shape'
            rw [HP3l.out]at hv'
            subst hv'
            have hf4:Fr W w4:=hap.below hr hf2 (Nat.le_refl _) hf2.size
            clear hap
            go_wp2_with fail
            go_roundw
            case rel=>exact⟨j+1,by omega,by go_num,by rw [<- HP3.out];exact own4,hf4⟩
            case measure=>simp [intOf];omega
          · have hjn':¬(j:Int)<n:=by omega
            have hwj:IntKind.i64.wrap ((j:Int) - n)=((j - n:Nat):Int):=by rw [show(j:Int) - n=((j - n:Nat):Int) by omega];exact wrap_i64 _ (by omega)
            have hx2:=HHighI.out j hjn
            rw [hx]at hx2
            generalize j - n=jn at *
            by_cases hji:jn=i
            · rw [if_pos hji]at hx2
              have hji':(jn:Int)=i:=by omega
              subst hx2
              clear hx hji
              go_wp2_with (at_builtin;refine wpList_app1 eB rfl (.tmp 61) (.tmp 63) 22 rfl Tryz.underlying22 W.heap.size rfl hr [1] _ _ _ rfl rfl rfl HLn.out hf2.size ?_)
              intro v' w4 hap
              have own4:=hap.own
              rw [<- HStep.out]at own4
              obtain⟨va,vc,hv'⟩:=own4.shape'
              rw [HP3l.out]at hv'
              subst hv'
              have hf4:Fr W w4:=hap.below hr hf2 (Nat.le_refl _) hf2.size
              clear hap
              go_wp2_with fail
              go_roundw
              case rel=>exact⟨j+1,by omega,by go_num,by rw [<- HP3.out];exact own4,hf4⟩
              case measure=>simp [intOf];omega
            · rw [if_neg hji]at hx2
              have hji':¬(jn:Int)=i:=by omega
              subst hx2
              clear hx hji
              go_wp2_with (at_builtin;refine wpList_app1 eB rfl (.tmp 61) (.tmp 63) 22 rfl Tryz.underlying22 W.heap.size rfl hr [0] _ _ _ rfl rfl rfl HLn.out hf2.size ?_)
              intro v' w4 hap
              have own4:=hap.own
              rw [<- HStep.out]at own4
              obtain⟨va,vc,hv'⟩:=own4.shape'
              rw [HP3l.out]at hv'
              subst hv'
              have hf4:Fr W w4:=hap.below hr hf2 (Nat.le_refl _) hf2.size
              clear hap
              go_wp2_with fail
              go_roundw
              case rel=>exact⟨j+1,by omega,by go_num,by rw [<- HP3.out];exact own4,hf4⟩
              case measure=>simp [intOf];omega
        · have hjc:j=n2:=by omega
          rw [hjc]at hr ⊢
          rw [List.take_of_length_le (by rw [HRl.out];exact Nat.le_refl _)]at hr
          have hnl:¬((n2:Int)<n2):=by omega
          clear hjc
          obtain⟨sa,sc,hsv⟩:=hr.shape'
          rw [HRl.out]at hsv
          subst hsv
          have hO2:=hO.fr hf2
          have hR2:=hR.fr hf2
          have hfw2:=hf.trans hf2
          have hs2:g+2<=wr.heap.size:=Nat.le_trans hs hf2.size
          have hB1w:=hf2.heap hB1
          go_wp2_with (at_builtin;refine wpList_app1 eHB rfl (.tmp 65) (.tmp 67) 31 rfl Tryz.underlying31 (g+2) rfl hO2 [⟨sa,n2,sc⟩] _ _ _ rfl rfl rfl ?c1 hs2 ?_)
          case c1=>rw [HPl.out];omega
          intro v' w4 hap
          have hR4 := (hR2.app hO2 hap (by decide)).snoc (x := ⟨sa, n2, sc⟩) (by rw [HPl.out]; exact own_app (hr.rebase hs) hO2 hap (by decide)) (fun t ht => by
            cases hx : ps[t].v.ownBlock with
            | none => exact .inl rfl
            | some k =>
              refine .inr fun e => ?_
              have h1 := (hr.lt k e.symm).1
              have h2 := ((hR.own t ht).lt k hx).2
              omega)
          obtain⟨X2,hX2⟩:∃ q,q=ps++[(⟨sa,n2,sc⟩:Hd)]:=⟨_,rfl⟩
          have own4:=hap.own
          rw [<- hX2]at own4 hR4
          have hX2l:X2.length=i+1:=by rw [hX2,List.length_append,HPl.out];rfl
          have HX2l:=hid hX2l
          obtain⟨va,vc,hv'⟩:=own4.shape'
          rw [hX2l]at hv'
          subst hv'
          have hneq:∀ k,(Value.slice oa i oc).ownBlock=some k->g+2<=k:=fun k hk=>(hO2.lt k hk).1
          have m0:=hap.chg'.heap hB0w (fun e=>by have:=hneq _ e;omega)
          have m1:=hap.chg'.heap hB1w (fun e=>by have:=hneq _ e;omega)
          have hf4:Fr w w4:=hap.below hO2 hfw2 (by rw [hb];omega) hfw2.size
          have hs4:g+2<=w4.heap.size:=Nat.le_trans hs2 hap.size
          clear hap hX2 hX2l hO2 hR2 hR hO hr
          go_wp2_with fail
          go_roundw
          case rel=>exact⟨i+1,X2,by omega,by go_num,own4,hR4,HX2l.out,m0,m1,hf4,hs4⟩
          case measure=>simp [intOf];omega
    · obtain rfl:n=i:=by omega
      have hnl:¬((n:Int)<n):=by omega
      rw [<- HZ.out]at hR
      obtain⟨rg,rc,hrv,_⟩:=hO.atHead (by intro e;rw [e]at hpl;simp at hpl;omega)
      rw [hpl]at hrv
      subst hrv
      have HPl:=hid hpl
      clear hpl HLow HHigh HMul hB0 HML
      go_upto_region 20 with fail
      go_loopw [10] (fun iv wr=>∃ (i:Nat) (ps:List Hd),i<=n/\iv=N i/\Ow wr (g+2) eHB (.slice (some ⟨rg,0,none⟩) n rc) ps/\RowsF wr (g+2) eB ps n2 (St i)/\ps.length=n/\wr.heap[g+1]?=some (.cells #[.int .i64 0,.int .i64 0,.slice none 0 0] 175 (0,0))/\Fr w wr/\g+2<=wr.heap.size) (fun iv _=>n - (intOf iv).toNat)
      case atStart=>exact⟨0,ps,Nat.zero_le _,rfl,hO,hR,HPl.out,hB1,hf,hs⟩
      case round=>
        clear hO hR HPl hB1 hf hs
        obtain⟨i,ps,hi,rfl,hO,hR,hpl,hB1,hf,hs⟩:=hrel
        by_cases hlt:i<n
        · have hi':(i:Int)<n:=by omega
          obtain⟨hge,hPl,hne,hze⟩:=HGo.out i hlt
          have HS1:=hid (HS.out i)
          have HSc:Hid (scaledF (St i) n i=scaleF (swapF (St i) i (piv (St i) n i)) i (inv8 (St i (piv (St i) n i) i))):=rfl
          generalize piv (St i) n i=P at *
          obtain⟨A9,hA9⟩:∃ q,q=St (i+1):=⟨_,rfl⟩
          rw [<- hA9]at HS1
          have HA9:=hid hA9
          clear hA9
          generalize St i=A at *
          have hi0:(0:Int)<=i:=by omega
          have hi2:(i:Int)<n2:=by omega
          go_wp2_with fail
          go_loop [11] (fun pv=>∃ p:Nat,i<=p/\p<=P/\pv=N p) (fun pv=>P - (intOf pv).toNat)
          case atStart=>exact⟨i,Nat.le_refl _,hge,rfl⟩
          case round=>
            obtain⟨p,hp1,hp2,rfl⟩:=hrel
            obtain⟨gr,cr,hv9,e1,e2,_,_,_,_⟩:=rows_cell (r:=p) (j:=i) hO hR (by omega) (by omega)
            have HV9:=hid hv9
            clear hv9
            have hpn:(p:Int)<n:=by omega
            have hp0:(0:Int)<=p:=by omega
            by_cases hpP:p<P
            · have hz:(A p i).toNat=0:=by rw [hze p hp1 hpP];rfl
              rw [hz]at e2
              go_wp2_with fail
              go_round
              case rel=>exact⟨p+1,by omega,by omega,by go_num⟩
              case measure=>simp [intOf];omega
            · obtain rfl:P=p:=by omega
              have hz:¬((A P i).toNat:Int)=0:=fun e=>hne (UInt8.toNat_inj.1 (by rw [UInt8.toNat_zero];omega))
              have hPn:¬(P:Int)=n:=by omega
              obtain⟨gi,ci,hvi,d1,_,_,_,dz,_⟩:=rows_cell (r:=i) (j:=i) hO hR (by omega) (by omega)
              have HVi:=hid hvi
              clear hvi
              generalize (A P i).toNat=ap at *
              go_upto_region 27 with fail
              have hPL:P<ps.length:=by omega
              have hiL:i<ps.length:=by omega
              obtain⟨hdP,hhP⟩:∃ x,x=ps[P]'hPL:=⟨_,rfl⟩
              obtain⟨hdI,hhI⟩:∃ x,x=ps[i]'hiL:=⟨_,rfl⟩
              have hvP:hdP.v=.slice (some ⟨gr,0,none⟩) n2 cr:=by rw [hhP];exact HV9.out
              have hvI:hdI.v=.slice (some ⟨gi,0,none⟩) n2 ci:=by rw [hhI];exact HVi.out
              have s1:=hO.set (fun(h:Hd)=>h.v) rfl i hiL hdP _ hvP
              have s2:=s1.set (fun(h:Hd)=>h.v) rfl P (by simpa using hPL) hdI _ hvI
              have r2:=((hR.beside (i:=i) (u:=.slice (some ⟨gr,0,none⟩) n2 cr) hO rfl (by decide)).beside (i:=P) (u:=.slice (some ⟨gi,0,none⟩) n2 ci) s1 rfl (by decide)).swap i P hiL hPL
              have t1:=hO.set (fun(h:Hd)=>h.v) rfl P hPL hdI _ hvI
              have t2:=t1.set (fun(h:Hd)=>h.v) rfl i (by simpa using hiL) hdP _ hvP
              have q2:=((hR.beside (i:=P) (u:=.slice (some ⟨gi,0,none⟩) n2 ci) hO rfl (by decide)).beside (i:=i) (u:=.slice (some ⟨gr,0,none⟩) n2 cr) t1 rfl (by decide)).swap P i hPL hiL
              obtain⟨z1,f1⟩:∃ z,(wr.setCell ⟨rg,i,none⟩ (.slice (some ⟨gr,0,none⟩) n2 cr)).cell? ⟨rg,P,none⟩=some z:=⟨_,(s1.cellAt (fun(h:Hd)=>h.v) rfl P (by simpa using hPL)).1⟩
              have f2:=(s1.cellAt (fun(h:Hd)=>h.v) rfl P (by simpa using hPL)).2
              obtain⟨z2,f3⟩:∃ z,(wr.setCell ⟨rg,P,none⟩ (.slice (some ⟨gi,0,none⟩) n2 ci)).cell? ⟨rg,i,none⟩=some z:=⟨_,(t1.cellAt (fun(h:Hd)=>h.v) rfl i (by simpa using hiL)).1⟩
              have f4:=(t1.cellAt (fun(h:Hd)=>h.v) rfl i (by simpa using hiL)).2
              rw [swapF_comm]at q2
              rw [<- hhP,<- hhI]at q2 r2
              have hgr:=(hO.lt rg rfl).1
              have hcS:∀ (i P:Nat) (u v:Value),Chg (fun k=>k=rg) wr ((wr.setCell ⟨rg,i,none⟩ u).setCell ⟨rg,P,none⟩ v):=fun i P u v=>(setCell_chg wr ⟨rg,i,none⟩ u).trans (setCell_chg _ ⟨rg,P,none⟩ v) fun _ _ h=>h
              have hbS:∀ (i P:Nat) (u v:Value),Fr w ((wr.setCell ⟨rg,i,none⟩ u).setCell ⟨rg,P,none⟩ v):=fun i P u v=>Chg.below hf (hcS i P u v) hf.size (fun k e=>by rw [e,hb];omega)
              have hhS:∀ (i P:Nat) (u v:Value),((wr.setCell ⟨rg,i,none⟩ u).setCell ⟨rg,P,none⟩ v).heap[g+1]?=some (.cells #[.int .i64 0,.int .i64 0,.slice none 0 0] 175 (0,0)):=fun i P u v=>(hcS i P u v).heap hB1 (fun e=>by omega)
              have hsS:∀ (i P:Nat) (u v:Value),g+2<=((wr.setCell ⟨rg,i,none⟩ u).setCell ⟨rg,P,none⟩ v).heap.size:=fun i P u v=>Nat.le_trans hs (hcS i P u v).size
              have hl1:((ps.set i hdP).set P hdI).length=n:=by simp [hpl]
              have hl2:((ps.set P hdI).set i hdP).length=n:=by simp [hpl]
              have HX:=hid (And.intro s2 (And.intro r2 (And.intro t2 (And.intro q2 (And.intro hl1 hl2)))))
              clear s1 s2 r2 t1 t2 q2 hl1 hl2 hcS hvP hvI HV9 HVi
              generalize (ps.set i hdP).set P hdI=ps1 at *
              generalize (ps.set P hdI).set i hdP=ps2 at *
              clear hpl hR hO hPL hiL hhP hhI
              go_cut []from 86 to 108 (fun wx=>∃ ps2,Ow wx (g+2) eHB (.slice (some ⟨rg,0,none⟩) n rc) ps2/\RowsF wx (g+2) eB ps2 n2 (swapF A i P)/\ps2.length=n/\wx.heap[g+1]?=some (.cells #[.int .i64 0,.int .i64 0,.slice none 0 0] 175 (0,0))/\Fr w wx/\g+2<=wx.heap.size)
              case first=>
                go_region
                all_goals go_wp2_with fail
                all_goals go_meet
                all_goals first
                  | exact⟨ps1,HX.out.1,HX.out.2.1,HX.out.2.2.2.2.1,hhS _ _ _ _,hbS _ _ _ _,hsS _ _ _ _⟩
                  | exact⟨ps2,HX.out.2.2.1,HX.out.2.2.2.1,HX.out.2.2.2.2.2,hhS _ _ _ _,hbS _ _ _ _,hsS _ _ _ _⟩
                  | exact⟨ps1,HX.out.1.drew,HX.out.2.1.drew,HX.out.2.2.2.2.1,hhS _ _ _ _,(hbS _ _ _ _).drew,hsS _ _ _ _⟩
                  | exact⟨ps2,HX.out.2.2.1.drew,HX.out.2.2.2.1.drew,HX.out.2.2.2.2.2,hhS _ _ _ _,(hbS _ _ _ _).drew,hsS _ _ _ _⟩
              case rest=>
                clear HX hB1 hf hs hhS hbS hsS e1 e2 d1 dz ps1 ps2 f1 f2 f3 f4
                obtain⟨ps,hO,hR,hpl,hB1,hf,hs⟩:=hcut
                have hiL:i<ps.length:=by omega
                obtain⟨gi,ci,hvi,d1,d2,dz,hgb,_,hgn⟩:=rows_cell (r:=i) (j:=i) hO hR hiL (by omega)
                have hsi:swapF A i P i i=A P i:=by unfold swapF;rw [if_pos rfl]
                rw [hsi]at d2
                have HI:=hid (RInv_any (A P i).toNat (A P i).toNat_lt)
                obtain⟨er,hiv⟩:=inv_tuple (A P i).toNat
                rw [hiv,inv8_u8]at HI
                have HVi:=hid hvi
                have HPl:=hid hpl
                clear hiv hsi hne hze hvi hpl dz
                obtain⟨cc,hcc⟩:∃ q,q=inv8 (A P i):=⟨_,rfl⟩
                rw [<- hcc]at HI HSc
                clear hcc
                generalize swapF A i P=A2 at *
                generalize (A P i).toNat=ap2 at *
                have hcl:=cc.toNat_lt
                go_wp2_with fail
                refine(HI.out _).mono ?_
                rintro e w5 ⟨rfl,rfl⟩
                go_upto_region 30 with fail
                have HR0:=hid (hR.congr (A':=scaleK A2 i cc 0) (fun t _ j _=>by rw [scaleK_zero]))
                clear hR d1 d2 HI
                go_loopw [14] (fun jv wr=>∃ j:Nat,j<=n2/\jv=N j/\Ow wr (g+2) eHB (.slice (some ⟨rg,0,none⟩) n rc) ps/\RowsF wr (g+2) eB ps n2 (scaleK A2 i cc j)/\wr.heap[g+1]?=some (.cells #[.int .i64 0,.int .i64 0,.slice none 0 0] 175 (0,0))/\Fr w wr/\g+2<=wr.heap.size) (fun jv _=>n2 - (intOf jv).toNat)
                case atStart=>exact⟨0,Nat.zero_le _,rfl,hO,HR0.out,hB1,hf,hs⟩
                case round=>
                  clear hO HR0 hB1 hf hs
                  obtain⟨j,hj,rfl,hO,hR,hB1,hf,hs⟩:=hrel
                  by_cases hjl:j<n2
                  · have hj':(j:Int)<n2:=by omega
                    have hj0:(0:Int)<=j:=by omega
                    obtain⟨gi',ci',hvi',d1,d2,dz,_,_,_⟩:=rows_cell (r:=i) (j:=j) hO hR hiL hjl
                    rw [HVi.out]at hvi'
                    simp only [Value.slice.injEq,Option.some.injEq,Addr.mk.injEq,and_true]at hvi'
                    obtain⟨rfl,_,rfl⟩:=hvi'
                    have hsk:scaleK A2 i cc j i j=A2 i j:=by unfold scaleK;rw [if_neg (by omega)]
                    rw [hsk]at d2
                    have HMl:=hid (RMul_any (A2 i j).toNat cc.toNat (A2 i j).toNat_lt hcl)
                    have HB:Hid (Value.int .u8 ((mulN (A2 i j).toNat cc.toNat:Nat):Int)=Fk.u8 (mul8 cc (A2 i j))):=by
                      show _=Value.int .u8 _
                      rw [mul8_comm,mul8_nat]
                    have hset:=hR.set rfl i j hiL hjl (mul8 cc (A2 i j)) HVi.out
                    rw [scaleK_step,<- HB.out]at hset
                    have HSet:=hid hset
                    have hst:=setCell_chg wr ⟨gi,j,none⟩ (Value.int .u8 ((mulN (A2 i j).toNat cc.toNat:Nat):Int))
                    have hO2:=hO.chg hst (fun k hk e=>by simp [Value.ownBlock]at hk;exact hgn (by rw [hk];exact e.symm))
                    have hf2:Fr w (wr.setCell ⟨gi,j,none⟩ (Value.int .u8 ((mulN (A2 i j).toNat cc.toNat:Nat):Int))):=Chg.below hf hst hf.size (fun k e=>by have e:k=gi:=e;omega)
                    have hB2:=hst.heap hB1 (fun e=>by have e:g+1=gi:=e;omega)
                    have hs2:g+2<=(wr.setCell ⟨gi,j,none⟩ (Value.int .u8 ((mulN (A2 i j).toNat cc.toNat:Nat):Int))).heap.size:=Nat.le_trans hs hst.size
                    clear hset hst HB hsk hR
                    generalize mulN (A2 i j).toNat cc.toNat=mm at *
                    generalize (A2 i j).toNat=xx at *
                    go_upto_region 32 with fail
                    go_still_tail 15,(by kernel_rfl)
                    still_call ((HMl.out _).mono fun _ _ h=>⟨h.1,h.2.symm⟩)
                    repeat still_step
                    refine wpStill_nil ?_
                    change wpList _ _ _ _ _ wr.drew
                    go_wp2_with fail
                    go_roundw
                    case rel=>exact⟨j+1,by omega,by go_num,hO2.drew,HSet.out.drew,hB2,hf2.drew,hs2⟩
                    case measure=>simp [intOf];omega
                  · have hjc:j=n2:=by omega
                    rw [hjc]at hR ⊢
                    have hR2:=hR.congr (A':=scaledF A n i) (fun t _ c hc=>by rw [HSc.out];exact scaleK_full A2 i cc n2 t c hc)
                    have hR3:=hid (hR2.congr (A':=elimF (scaledF A n i) i 0) (fun t _ c _=>by rw [elim_zero]))
                    have hnl:¬((n2:Int)<n2):=by omega
                    clear hjc hR hR2 HVi HSc
                    generalize scaledF A n i=S at *
                    go_upto_region 34 with fail
                    go_loopw [15] (fun kv wr=>∃ k:Nat,k<=n/\kv=N k/\Ow wr (g+2) eHB (.slice (some ⟨rg,0,none⟩) n rc) ps/\RowsF wr (g+2) eB ps n2 (elimF S i k)/\wr.heap[g+1]?=some (.cells #[.int .i64 0,.int .i64 0,.slice none 0 0] 175 (0,0))/\Fr w wr/\g+2<=wr.heap.size) (fun kv _=>n - (intOf kv).toNat)
                    case atStart=>exact⟨0,Nat.zero_le _,rfl,hO,hR3.out,hB1,hf,hs⟩
                    case round=>
                      clear hO hR3 hB1 hf hs
                      obtain⟨k,hk,rfl,hO,hR,hB1,hf,hs⟩:=hrel
                      by_cases hkl:k<n
                      · have hk':(k:Int)<n:=by omega
                        have hk0:(0:Int)<=k:=by omega
                        have hkL:k<ps.length:=by rw [HPl.out];exact hkl
                        obtain⟨gk,ck,hvk,d1,d2,_,hkb,_,hkn⟩:=rows_cell (r:=k) (j:=i) hO hR hkL (by omega)
                        have hSk:elimF S i k k i=S k i:=by unfold elimF;rw [if_neg (by omega)]
                        rw [hSk]at d2
                        have HVk:=hid hvk
                        clear hvk hSk
                        by_cases hki:k=i
                        · have hR9:=hid (hR.congr (A':=elimF S i (k+1)) (fun t _ c _=>by rw [elim_skip S i k (.inl hki)]))
                          obtain rfl:i=k:=hki.symm
                          generalize (S i i).toNat=dk at *
                          clear hR
                          go_upto_region 38 with fail
                          go_loopw [17] (fun jv wr9=>jv=N 0/\wr9=wr) (fun _ _=>0)
                          case atStart=>exact⟨rfl,rfl⟩
                          case round=>
                            obtain⟨rfl,rfl⟩:=hrel
                            go_wp2_with fail
                            go_roundw
                            case rel=>exact⟨i+1,by omega,by go_num,hO,hR9.out,hB1,hf,hs⟩
                            case measure=>simp [intOf];omega
                        · have hki':¬(k:Int)=i:=by omega
                          have hki2:((k:Int) != i)=true:=by rw [bne,show((k:Int) == i)=false from by simp;omega];rfl
                          have hR9:=hid (hR.congr (A':=elimK S i k 0) (fun t _ c _=>by rw [elimK_zero]))
                          have HAll:=hid (elimK_all S i k n2 hki)
                          have hdl:=(S k i).toNat_lt
                          obtain⟨dk,hdk⟩:∃ q,q=(S k i).toNat:=⟨_,rfl⟩
                          rw [<- hdk]at d2 hdl
                          have HDk:=hid hdk
                          clear hdk hR
                          go_upto_region 38 with fail
                          go_loopw [17] (fun jv wr=>∃ j:Nat,j<=n2/\jv=N j/\Ow wr (g+2) eHB (.slice (some ⟨rg,0,none⟩) n rc) ps/\RowsF wr (g+2) eB ps n2 (elimK S i k j)/\wr.heap[g+1]?=some (.cells #[.int .i64 0,.int .i64 0,.slice none 0 0] 175 (0,0))/\Fr w wr/\g+2<=wr.heap.size) (fun jv _=>n2 - (intOf jv).toNat)
                          case atStart=>exact⟨0,Nat.zero_le _,rfl,hO,hR9.out,hB1,hf,hs⟩
                          case round=>
                            clear hO hR9 hB1 hf hs d1 d2
                            obtain⟨j,hj,rfl,hO,hR,hB1,hf,hs⟩:=hrel
                            by_cases hjl:j<n2
                            · have hj':(j:Int)<n2:=by omega
                              have hj0:(0:Int)<=j:=by omega
                              obtain⟨gk',ck',hvk',d1,d2,dz,_,_,_⟩:=rows_cell (r:=k) (j:=j) hO hR hkL hjl
                              rw [HVk.out]at hvk'
                              simp only [Value.slice.injEq,Option.some.injEq,Addr.mk.injEq,and_true]at hvk'
                              obtain⟨rfl,_,rfl⟩:=hvk'
                              obtain⟨gi',ci',hvi',d3,d4,_,_,_,_⟩:=rows_cell (r:=i) (j:=j) hO hR hiL hjl
                              have HVi':=hid hvi'
                              clear hvi'
                              have hs1:elimK S i k j k j=S k j:=by unfold elimK elimF;rw [if_neg (by omega),if_neg (by omega)]
                              have hs2:elimK S i k j i j=S i j:=by unfold elimK elimF;rw [if_neg (by omega),if_neg (by simp)]
                              rw [hs1]at d2
                              rw [hs2]at d4
                              have HMl:=hid (RMul_any dk (S i j).toNat hdl (S i j).toNat_lt)
                              have hml:=mul_lt dk (S i j).toNat hdl
                              have hxr:=xor_u8 (S k j).toNat (mulN dk (S i j).toNat) (S k j).toNat_lt hml
                              have HB:Hid (Value.int .u8 (((S k j).toNat ^^^ mulN dk (S i j).toNat:Nat):Int)=Fk.u8 (S k j ^^^ mul8 (S k i) (S i j))):=by
                                show _=Value.int .u8 _
                                rw [UInt8.toNat_xor,mul8_nat,HDk.out]
                              have hset:=hR.set rfl k j hkL hjl (S k j ^^^ mul8 (S k i) (S i j)) HVk.out
                              rw [elimK_step,<- HB.out]at hset
                              have HSet:=hid hset
                              have hst:=setCell_chg wr ⟨gk,j,none⟩ (Value.int .u8 (((S k j).toNat ^^^ mulN dk (S i j).toNat:Nat):Int))
                              have hO2:=hO.chg hst (fun q hq e=>by simp [Value.ownBlock]at hq;exact hkn (by rw [hq];exact e.symm))
                              have hf2:Fr w (wr.setCell ⟨gk,j,none⟩ (Value.int .u8 (((S k j).toNat ^^^ mulN dk (S i j).toNat:Nat):Int))):=Chg.below hf hst hf.size (fun q e=>by have e:q=gk:=e;omega)
                              have hB2:=hst.heap hB1 (fun e=>by have e:g+1=gk:=e;omega)
                              have hs2:g+2<=(wr.setCell ⟨gk,j,none⟩ (Value.int .u8 (((S k j).toNat ^^^ mulN dk (S i j).toNat:Nat):Int))).heap.size:=Nat.le_trans hs hst.size
                              clear hset hst HB hs1 hR
                              generalize (S k j).toNat ^^^ mulN dk (S i j).toNat=xm at *
                              generalize mulN dk (S i j).toNat=mm at *
                              generalize (S i j).toNat=yy at *
                              generalize (S k j).toNat=xx at *
                              go_upto_region 40 with fail
                              go_still_tail 23,(by kernel_rfl)
                              still_call ((HMl.out _).mono fun _ _ h=>⟨h.1,h.2.symm⟩)
                              repeat still_step
                              refine wpStill_nil ?_
                              change wpList _ _ _ _ _ wr.drew
                              go_wp2_with fail
                              go_roundw
                              case rel=>exact⟨j+1,by omega,by go_num,hO2.drew,HSet.out.drew,hB2,hf2.drew,hs2⟩
                              case measure=>simp [intOf];omega
                            · have hjc:j=n2:=by omega
                              rw [hjc]at hR ⊢
                              have hR2:=hR.congr (A':=elimF S i (k+1)) (fun t _ c hc=>HAll.out t c hc)
                              have hnl:¬((n2:Int)<n2):=by omega
                              clear hjc hR
                              go_wp2_with fail
                              go_roundw
                              case rel=>exact⟨k+1,by omega,by go_num,hO,hR2,hB1,hf,hs⟩
                              case measure=>simp [intOf];omega
                      · obtain rfl:n=k:=by omega
                        have hnl9:¬((n:Int)<n):=by omega
                        have hR2:=hid (hR.congr (A':=A9) (fun t _ c _=>by rw [HS1.out]))
                        clear hR
                        go_wp2_with fail
                        go_roundw
                        case rel=>exact⟨i+1,ps,by omega,by go_num,hO,by rw [<- HA9.out];exact hR2.out,HPl.out,hB1,hf,hs⟩
                        case measure=>simp [intOf];omega
        · obtain rfl:n=i:=by omega
          have hnl9:¬((n:Int)<n):=by omega
          have HPl:=hid hpl
          clear hpl HGo HS HZ
          have HDr:Hid (∀ i,(rowOf n2 (St n) i).drop n=rowOf n (fun r j=>St n r (n+j)) i):=fun i=>by rw [HN2.out];exact rowOf_drop n (St n) i
          have HFl:=hid (fun r=>rowOf_len n2 (St n) r)
          generalize hF:(fun r j=>St n r (n+j))=F at *
          clear hF
          have HPs:=hid (fun i=>preL_rowS n F i)
          have HP0:Hid (preL n F (0*n)=[]):=by show _=_;rw [Nat.zero_mul];rfl
          have HPn:=hid (fun t=>preL_len n F t)
          have HIn:Hid (∀ i,i<=n->i*n<=255*255):=fun i hi=>Nat.mul_le_mul (by omega) hn
          have hq:wr.heap.size=wr.heap.size:=rfl
          have hA:(wr.alloc (.cells #[N n,N n,.slice none 0 0] 175)).heap[wr.heap.size]?=some (.cells #[N n,N n,.slice none 0 0] 175 (0,0)):=heap_new _ _ _ rfl
          have hfA:Fr wr (wr.alloc (.cells #[N n,N n,.slice none 0 0] 175)):=(Fr.refl wr).alloc _
          have hOA:=hO.fr hfA
          have hRA:=hR.fr hfA
          have hBA:=hfA.heap hB1
          have hfwA:=hf.trans hfA
          have hsA:g+2<=(wr.alloc (.cells #[N n,N n,.slice none 0 0] 175)).heap.size:=Nat.le_trans hs hfA.size
          have HRlt:=hid (fun r (h:r<ps.length) k hk=>((hR.own r h).lt k hk).2)
          clear hO hR hB1 hf
          go_upto_region 43 with fail
          obtain⟨W0,hW0⟩:∃ q,q=wr.alloc (.cells #[N n,N n,.slice none 0 0] 175):=⟨_,rfl⟩
          rw [<- hW0]at hA hfA hOA hRA hBA hfwA hsA ⊢
          have hxs:wr.heap.size+1<=W0.heap.size:=by rw [hW0];simp
          clear hW0 hq
          generalize wr.heap.size=qx at *
          go_loopw [19] (fun iv wr=>∃ (i:Nat) (sv:Value),i<=n/\iv=N i/\Ow wr (qx+1) eB sv (preL n F (i*n))/\wr.heap[qx]?=some (.cells #[N n,N n,sv] 175 (0,0))/\Ow wr (g+2) eHB (.slice (some ⟨rg,0,none⟩) n rc) ps/\(∀ r (h:r<ps.length),Ow wr (g+2) eB ps[r].v (rowOf n2 (St n) r))/\wr.heap[g+1]?=some (.cells #[.int .i64 0,.int .i64 0,.slice none 0 0] 175 (0,0))/\Fr w wr/\qx+1<=wr.heap.size) (fun iv _=>n - (intOf iv).toNat)
          case atStart=>exact⟨0,_,Nat.zero_le _,rfl,by rw [HP0.out];exact Ow.nil,hA,hOA,fun r h=>hRA.own r h,hBA,hfwA,hxs⟩
          case round=>
            clear hA hOA hRA hBA hfwA hsA hxs hfA
            obtain⟨i,sv,hi,rfl,hX,hXb,hO,hR,hB1,hf,hs9⟩:=hrel
            by_cases hlt:i<n
            · have hi':(i:Int)<n:=by omega
              have hi0:(0:Int)<=i:=by omega
              have hiL:i<ps.length:=by rw [HPl.out];exact hlt
              have hrow:=(hR i hiL).see
              obtain⟨h1c,_⟩:=hO.cellAt (fun(h:Hd)=>h.v) rfl i hiL
              obtain⟨ra,rcp,hrv,_,_,_⟩:=hrow.shape
              rw [HFl.out]at hrv
              rw [hrv]at h1c hrow
              obtain⟨f1,f2,hfrun,hfsee⟩:=run_from eB 22 Tryz.underlying22 hrow n (by rw [HFl.out];omega)
              rw [HDr.out i]at hfsee
              rw [HFl.out]at hfrun hfsee
              rw [show n2 - n=n by have:=HN2.out;omega]at hfrun hfsee
              have HPi:=hid (HPs.out i)
              have HC1:Hid ((preL n F (i*n)).length+(rowOf n F i).length<=2147483648):=by
                show _<=_
                rw [HPn.out,rowOf_len]
                have:=HIn.out i hi
                omega
              have c2:wr.cell? ⟨qx,2,none⟩=some sv:=by rw [cell_of_heap hXb];rfl
              have hXne:=hX.ne_cells hXb (by decide)
              have hXlt:=fun k hk=>(hX.lt k hk).1
              have HRlti:=HRlt
              obtain⟨P2,hP2⟩:∃ q,q=preL n F ((i+1)*n):=⟨_,rfl⟩
              rw [<- hP2]at HPi
              have HP2:=hid hP2
              clear hP2 hrow hrv
              generalize preL n F (i*n)=P1 at *
              generalize rowOf n F i=rwF at *
              have hXD:=hX.drew
              have hsD:=hfsee.drew
              go_upto_region 45 with fail
              go_region_law (refine step_app eB rfl (.tmp 195) (.tmp 201) 22 rfl Tryz.underlying22 (qx + 1) rfl hXD _ _ rfl hsD HC1.out hs9 ?_
                             intro v' w4 hap
                             have own4 := hap.own
                             rw [← HPi.out] at own4
                             obtain ⟨va, vc, hv'⟩ := own4.shape'
                             subst hv'
                             have hXb4 := hap.chg'.heap (show wr.drew.heap[qx]? = _ from hXb) hXne
                             have hO4 := own_app hO.drew hXD hap (by decide)
                             have hR4 : ∀ r (h : r < ps.length), Ow w4 (g + 2) eB ps[r].v (rowOf n2 (St n) r) := fun r h => hap.other (hR r h).drew (by
                               cases hx : ps[r].v.ownBlock with
                               | none => exact .inl rfl
                               | some k =>
                                 refine .inr fun e => ?_
                                 have h1 := hXlt k e.symm
                                 have h2 := HRlti.out r h k hx
                                 omega)
                             have hB4 := hap.chg'.heap (show wr.drew.heap[g + 1]? = _ from hB1) (fun e => by have := hXlt _ e; omega)
                             have hf4 : Fr w w4 := hap.below hXD (Fr.drew hf) (by rw [hb]; omega) (Fr.drew hf).size
                             have hs4 : qx + 1 ≤ w4.heap.size := Nat.le_trans hs9 hap.size
                             have e3 : w4.cell? ⟨qx, 2, none⟩ = some sv := by rw [cell_of_heap hXb4]; rfl
                             have e4 : w4.frozen? ⟨qx, 2, none⟩ = false := frozen_of_heap hXb4 2)
              all_goals go_wp2_with fail
              all_goals go_roundw
              all_goals first
                | (simp [intOf];omega)
                | (refine ⟨i + 1, _, by omega, by go_num, ?_, heap_setCell_own hXb4 2 _, ?_, ?_, ?_, ?_, ?_⟩
                   · rw [← HP2.out]
                     exact own4.chg (setCell_chg w4 ⟨qx, 2, none⟩ _) fun k hk e => (own4.ne_cells hXb4 (by decide)) (by rw [hk, show k = qx from e])
                   · exact hO4.chg (setCell_chg w4 ⟨qx, 2, none⟩ _) fun k hk e => (hO4.ne_cells hXb4 (by decide)) (by rw [hk, show k = qx from e])
                   · exact fun r h => (hR4 r h).chg (setCell_chg w4 ⟨qx, 2, none⟩ _) fun k hk e => ((hR4 r h).ne_cells hXb4 (by decide)) (by rw [hk, show k = qx from e])
                   · exact (setCell_chg w4 ⟨qx, 2, none⟩ _).heap hB4 (fun e => by have e : g + 1 = qx := e; omega)
                   · exact Chg.below hf4 (setCell_chg w4 ⟨qx, 2, none⟩ _) hf4.size (fun k e => by have e : k = qx := e; omega)
                   · simp [World.setCell]; omega)
            · obtain rfl:n=i:=by omega
              have hnl8:¬((n:Int)<n):=by omega
              rw [hnnE,<- HI.out]at hX
              have hinf:(Tryz.prog.info? 175).map (·.size)=some 3:=by kernel_rfl
              have hone:(#[N n,N n,sv]:Array Value).all (·.oneCell')=true:=by
                obtain⟨va,vc,hv⟩:=hX.shape'
                subst hv
                rw [List.all_toArray]
                rfl
              have hneq:∀ q,sv.ownBlock=some q->qx+1<=q:=fun q hq=>(hX.lt q hq).1
              have hset:Ow (wr.setRow (g+1) #[N n,N n,sv]) (qx+1) eB sv IV:=hX.chg (setRow_chg wr (g+1) _) fun q hq=>by have:=hneq q hq;show ¬q=g+1;omega
              have hfin:Fr w (wr.setRow (g+1) #[N n,N n,sv]):=Chg.below hf (setRow_chg wr (g+1) _) hf.size (fun q hq=>by rw [hq];omega)
              have z0:=cell_setRow_same wr (g+1) 0 _ #[N n,N n,sv] _ _ hB1
              have z1:=cell_setRow_same wr (g+1) 1 _ #[N n,N n,sv] _ _ hB1
              have z2:=cell_setRow_same wr (g+1) 2 _ #[N n,N n,sv] _ _ hB1
              clear hX hO hR
              go_wp2_with (first | (refine wpList_load_row rfl 175 (.tmp 18) rfl qx rfl 175 #[N n,N n,sv] (0,0) _ hXb Tryz.underlying175 rfl hinf ?_) | (refine wpList_store_row rfl 175 (.tmp 2) (.tmp 204) rfl (g+1) #[N n,N n,sv] rfl rfl 175 _ hB1 hinf rfl hone ?_))
              exact bodyPost_ret (v:=.tuple #[.agg #[N n,N n,sv],.int .i64 0]) (by simp [results,Tryz.results144,go_sem, *]) rfl ⟨_,rfl,hset.rebase (by omega),hfin⟩
set_option maxRecDepth 512
end Go.Proofs.YtijghcbpfcjjnaaGreatDoor
