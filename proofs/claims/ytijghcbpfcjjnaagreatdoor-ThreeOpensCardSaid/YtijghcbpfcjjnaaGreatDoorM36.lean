/- Parts of the proof of ThreeOpens: Cr4. -/
import Derived.Test.YtijghcbpfcjjnaaGreatDoorM18
import Derived.Test.YtijghcbpfcjjnaaGreatDoorM34
import Derived.Test.YtijghcbpfcjjnaaGreatDoorM35
import Derived.Test.YtijghcbpfcjjnaaGreatDoorM16
set_option linter.unusedVariables false
set_option linter.unusedSectionVars false
set_option linter.unusedSimpArgs false
set_option maxHeartbeats 8000000
namespace Go.Proofs.YtijghcbpfcjjnaaGreatDoor
open Go.RowKit Go.Fk
theorem RbF.box{w:World}{B base a:Nat}{q:List UInt8}(h:RbF w B base q a):∃ v,w.heap[B]?=some (.cells #[v,N a] 219 (0,0))/\Ow w base eB v q:=h.h
theorem RbF.app{w w':World}{B base a b:Nat}{q:List UInt8}{v v':Value}{l l':List Nat}(h:RbF w B base q a)(ho:Ow w b eJ v l)(hap:App b eJ l' w v v' w'):RbF w' B base q a:=by
 obtain⟨⟨x,h1,h2⟩,h3⟩:=h
 exact⟨⟨x,hap.chg'.heap h1 (fun e=>ho.ne_cells h1 (by decide) e),own_app h2 ho hap (by decide)⟩,h3⟩
def rbLeft(B n:Nat)(wr:World):Nat:=match wr.heap[B]? with | some (.cells cs _ _)=>n - (intOf (cs.getD 1 undef)).toNat | _=>0
theorem rbLeft_at{w:World}{B base a n:Nat}{q:List UInt8}(h:RbF w B base q a):rbLeft B n w=n - a:=by
 obtain⟨⟨x,h1,h2⟩,h3⟩:=h
 unfold rbLeft;rw [h1];simp [intOf]
theorem pad_no(l:List UInt8)(a j:Nat)(hj:j<(8 - a % 8) % 8)(hb:bitR l (a+j)=1):padB l a=false:=by
 unfold padB
 rw [decide_eq_false]
 intro h
 have:=(numAt_zero l a _).1 h j hj
 omega
theorem pad_yes(l:List UInt8)(a:Nat)(h:∀ i,i<(8 - a % 8) % 8->bitR l (a+i)=0):padB l a=true:=by
 unfold padB
 rw [decide_eq_true]
 exact(numAt_zero l a _).2 h
theorem rowR_eq(bound m:Nat)(r:List UInt8):rowR bound m r=if 8*r.length<m*Nat.log2 (bound / m)then([],0,1)else if(efGo bound (Nat.log2 (bound / m)) r (m - 0) 0 (Nat.log2 (bound / m)*m) 0 0 []).2.2=0 then(if padB r (efGo bound (Nat.log2 (bound / m)) r (m - 0) 0 (Nat.log2 (bound / m)*m) 0 0 []).2.1 then((efGo bound (Nat.log2 (bound / m)) r (m - 0) 0 (Nat.log2 (bound / m)*m) 0 0 []).1,((efGo bound (Nat.log2 (bound / m)) r (m - 0) 0 (Nat.log2 (bound / m)*m) 0 0 []).2.1+7) / 8,0)else([],0,2))else([],0,(efGo bound (Nat.log2 (bound / m)) r (m - 0) 0 (Nat.log2 (bound / m)*m) 0 0 []).2.2):=by
 rw [Nat.mul_comm (Nat.log2 (bound / m)) m];rfl
set_option maxRecDepth 100000
theorem RERead_any (bound : Nat) (hb : bound ≤ 20000) (v : Value) (b : List UInt8) (w : World) (hs : See w eB v b) (hl : b.length ≤ 1000000) :
    Calls Tryz.prog 97 #[N bound,v] w fun e w'=>∃ u,e=.returned (.tuple #[u,N (efR bound b).2.1,.int .i64 ((efR bound b).2.2:Int)])/\Ow w' w.heap.size eJ u (efR bound b).1/\Fr w w':=by
  have HNew:=hid (RNew_any v b w hs hl)
  have HInt:=hid (fun B base W (h:CurF W 99 B base b 0 0)=>RInt_cur bound (by omega) B base ⟨0,0⟩ b W h hl)
  rw [int0]at HInt
  have HR:Hid (efR bound b=_):=efR_row bound b
  have hok:=limL_ok bound b
  have HS:=hid hs
  obtain⟨a0,cap,hv,_⟩:=hs.shape
  subst hv
  clear hs
  generalize efR bound b=R at *
  have b1:¬(bound:Int)<0:=by omega
  have b2:¬(20000:Int)<bound:=by omega
  by_cases h0:(limL bound b).2.2=0
  · rw [if_pos h0]at HR
    rw [h0]at HInt
    obtain⟨ha1,ha2,ha3⟩:=hok h0
    clear h0 hok
    generalize (limL bound b).1=n at *
    generalize (limL bound b).2.1=at_ at *
    by_cases hn:n=0
    · rw [if_pos hn]at HR
      subst hn
      go_enter Tryz.func97, Tryz.ntmps97
      go_wp2_with fail
      refine(HNew.out).mono ?_
      rintro e w1 ⟨B,rfl,hC,hf1,hB⟩
      have hBw:B<w1.heap.size:=by obtain⟨⟨v,h1,_⟩,_⟩:=hC;exact(Array.getElem?_eq_some_iff.1 h1).1
      have HI1:=hid (HInt.out B _ w1 hC)
      clear HNew
      go_wp2_with fail
      refine(HI1.out).mono ?_
      rintro e w2 ⟨rfl,hC2,hc2⟩
      have hf2:Fr w w2:=((hf1.chg (fun b=>b=B)).trans hc2 fun _ _ h=>h).fr (fun k hk e=>by omega)
      obtain⟨d1,d2,_,_⟩:=hC2.cells
      clear HI1 hC2 hC
      go_wp2_with fail
      go_quiet (fail)
      go_wp2_with fail
      go_ret3
      rw [HR.out]
      exact⟨_,rfl,Ow.nil,hf2.drewN _⟩
    · rw [if_neg hn]at HR
      have n1:¬(n:Int)=0:=by omega
      obtain⟨f1,f2,hfr,hfs⟩:=run_from eB 22 Tryz.underlying22 HS.out at_ ha2
      have HFs:=hid hfs
      have hdl:(b.drop at_).length=b.length - at_:=List.length_drop ..
      have HRd:=hid (fun W (hf:Fr w W)=>RReader_any _ (b.drop at_) W (HFs.out.fr hf) (by omega))
      have hq1:1<=bound / n:=Nat.div_pos ha3 (by omega)
      have hq2:bound / n<=20000:=Nat.le_trans (Nat.div_le_self _ _) hb
      have HWd:=hid (fun W=>Rwidth_any (bound / n) hq1 hq2 W)
      have hdv:(bound:Int) / n=((bound / n:Nat):Int):=by simp
      have hwd:IntKind.i64.wrap ((bound:Int) / n)=((bound / n:Nat):Int):=by rw [hdv];exact IntWalk.i64_in _ (by omega)
      have hk14:Nat.log2 (bound / n)<=14:=Nat.le_of_lt_succ ((Nat.log2_lt (by omega)).2 (by omega))
      have HQ:=hid (rowR_eq bound n (b.drop at_))
      have HQL:Hid ((b.drop at_).length<=1000000):=by show _<=_;omega
      have HG:=hid (fun B base a k W h hk=>RGet_any B base a k (b.drop at_) W h (by omega) hk)
      have HU:=hid (fun B base a W h=>RUnary_any B base a (b.drop at_) W h (by omega))
      have HAb:=hid ha2
      clear hfs hdl ha1 ha2 hq1 hdv
      generalize Nat.log2 (bound / n)=K at *
      generalize bound / n=bq at *
      generalize b.length - at_=bl at *
      generalize b.drop at_=q at *
      generalize rowR bound n q=Q at *
      obtain⟨E0,hE0⟩:∃ E0,E0=efGo bound K q (n - 0) 0 (K*n) 0 0 []:=⟨_,rfl⟩
      rw [<- hE0]at HQ
      have HE0:=hid hE0
      clear hE0
      have hpw1:2 ^ K<=16384:=Nat.pow_le_pow_right (by omega) hk14
      have HPw0:Hid (∃ pw,pw=2 ^ K):=⟨_,rfl⟩
      obtain⟨pw,hpw⟩:=HPw0.out
      rw [<- hpw]at HWd hpw1
      have HPw:=hid hpw
      clear hpw HPw0
      go_enter Tryz.func97, Tryz.ntmps97
      go_wp2_with fail
      refine(HNew.out).mono ?_
      rintro e w1 ⟨B,rfl,hC,hf1,hB⟩
      have hBw:B<w1.heap.size:=by obtain⟨⟨v,h1,_⟩,_⟩:=hC;exact(Array.getElem?_eq_some_iff.1 h1).1
      have HI1:=hid (HInt.out B _ w1 hC)
      clear HNew
      go_wp2_with fail
      refine(HI1.out).mono ?_
      rintro e w2 ⟨rfl,hC2,hc2⟩
      have hf2:Fr w w2:=((hf1.chg (fun b=>b=B)).trans hc2 fun _ _ h=>h).fr (fun k hk e=>by omega)
      have hs2:=hc2.size
      obtain⟨d1,d2,_,_⟩:=hC2.cells
      clear HI1 hC
      go_wp2_with fail
      refine(HWd.out w2).mono ?_
      rintro e w3 ⟨rfl,rfl⟩
      clear HWd
      have HRd2:=hid (HRd.out w2 hf2)
      go_wp2_with fail
      refine(HRd2.out).mono ?_
      rintro e w4 ⟨rfl,hRb,hf4⟩
      obtain⟨Br,hBr⟩:∃ Br,Br=w2.heap.size:=⟨_,rfl⟩
      rw [<- hBr]at hRb ⊢
      have hBB:B≠Br:=by omega
      have hwBr:w.heap.size<=Br:=by have:=hf2.size;omega
      have hBx:∃ cv,w4.heap[B]?=some (.cells #[cv,N at_,.int .i64 0] 99 (0,0)):=by
        obtain⟨⟨cv,h1,_⟩,_⟩:=hC2.fr hf4;exact⟨cv,h1⟩
      obtain⟨cv,hBx⟩:=hBx
      have hf4w:=hf2.trans hf4
      have HLl:=hid (lowR_len q K n)
      have HLs:Hid (∀ i (h:i<n),(lowR q K n).take (i+1)=(lowR q K n).take i++[Fk.numAt q (K*i) K]):=fun i h=>by
        rw [List.take_succ_eq_append_getElem (by rw [lowR_len];exact h),lowR_at]
      have HNl:=hid (fun i=>numAt_lt q (K*i) K)
      have HLz:Hid ((lowR q K n).take 0=[]):=rfl
      clear HRd HRd2 hf4 hC2 hc2 hs2 hBw hB hf1 hBr d1 d2 hf2
      have HLA:=hid (lowR_at q K n)
      generalize lowR q K n=LW at *
      have hRb0:RbF w4 Br (Br+1) (rbits q) (K*0):=hRb
      clear hRb
      go_wp2_with fail
      go_loopw [12,13] (fun lv iv wr=>∃ i:Nat,i<=n/\iv=N i/\RbF wr Br (Br+1) (rbits q) (K*i)/\Ow wr w.heap.size eJ lv (LW.take i)/\wr.heap[B]?=some (.cells #[cv,N at_,.int .i64 0] 99 (0,0))/\Fr w wr) (fun _ iv _=>n - (intOf iv).toNat)
      case atStart=>exact⟨0,Nat.zero_le _,rfl,hRb0,by rw [HLz.out];exact Ow.nil,hBx,hf4w⟩
      case round=>
        clear hRb0 hBx hf4w
        obtain⟨i,hi,rfl,hRb,hO,hBx,hf⟩:=hrel
        by_cases hlt:i<n
        · have HG1:=hid (HG.out Br _ (K*i) K wr hRb (by omega))
          have i1:(i:Int)<n:=by omega
          by_cases hsh:8*q.length<K*i+K
          · have hshn:8*q.length<n*K:=by
              have h1:K*(i+1)<=K*n:=Nat.mul_le_mul_left _ hlt
              rw [Nat.mul_succ,Nat.mul_comm K n]at h1;omega
            rw [if_pos hsh,if_pos hsh,if_pos hsh]at HG1
            rw [if_pos hshn]at HQ
            rw [HQ.out]at HR
            clear hsh hshn
            go_wp2_with fail
            refine(HG1.out).mono ?_
            rintro e w5 ⟨rfl,hRb5,hc5⟩
            have hf5:Fr w w5:=((hf.chg (fun b=>b=Br)).trans hc5 fun _ _ h=>h).fr (fun k hk e=>by omega)
            go_wp2_with fail
            go_ret3
            rw [HR.out]
            exact⟨_,rfl,Ow.nil,hf5⟩
          · rw [if_neg hsh,if_neg hsh,if_neg hsh]at HG1
            have HT:=hid (HLs.out i hlt)
            have hx:=HNl.out i
            have hx14:(2:Nat) ^ K<=2 ^ 14:=Nat.pow_le_pow_right (by omega) hk14
            have HKi:Hid (K*i+K=K*(i+1)):=(Nat.mul_succ K i).symm
            rw [HKi.out]at HG1
            have HLk:Hid ((LW.take i).length<=20000):=by show _<=_;rw [List.length_take];omega
            generalize Fk.numAt q (K*i) K=x at *
            generalize LW.take i=P0 at *
            have wx:IntKind.i64.wrap (x:Int)=(x:Int):=IntWalk.i64_in _ (by omega)
            have HC1:Hid (P0.length+[x].length<=2147483648):=by have:=HLk.out;show _<=_;simp;omega
            have HO:=hid hO
            have HBx:=hid hBx
            have HRb:=hid hRb
            clear hO hRb hBx hsh hx hx14
            go_wp2_with fail
            refine(HG1.out).mono ?_
            rintro e w5 ⟨rfl,hRb5,hc5⟩
            have hO5 := HO.out.chg hc5 (fun k hk e => by
              obtain ⟨vb, h5, _⟩ := HRb.out.box
              exact HO.out.ne_cells h5 (by decide) (by rw [hk, show k = Br from e]))
            have hB5:=hc5.heap HBx.out hBB
            have hf5:Fr w w5:=((hf.chg (fun b=>b=Br)).trans hc5 fun _ _ h=>h).fr (fun k hk e=>by omega)
            go_wp2_with (at_builtin;refine wpList_app1 eJ rfl (.tmp 76) (.tmp 79) 30 rfl Tryz.underlying30 w.heap.size rfl hO5 [x] _ _ _ rfl rfl rfl HC1.out hf5.size ?_)
            intro v' w6 hap
            have hRb6:=hRb5.app hO5 hap
            have hB6:=hap.chg'.heap hB5 (fun e=>hO5.ne_cells hB5 (by decide) e)
            have hf6:=hap.below hO5 hf5 (Nat.le_refl _) hf5.size
            go_wp2_with fail
            go_roundw
            case rel=>exact⟨i+1,by omega,by go_num,hRb6,by rw [HT.out];exact hap.own,hB6,hf6⟩
            case measure=>simp [intOf];omega
        · obtain rfl:i=n:=by omega
          have hnl:¬((i:Int)<i):=by omega
          have hRle:=hRb.le
          rw [rbits_len]at hRle
          rw [if_neg (by rw [Nat.mul_comm i K];omega)]at HQ
          rw [List.take_of_length_le (by rw [HLl.out];exact Nat.le_refl _)]at hO
          have HLa:Hid (∀ j (h:j<LW.length),LW[j]=Fk.numAt q (K*j) K):=HLA.out
          have HSt:=hid (efGo_step bound K q i)
          have HUk:=hid (fun a (ha:a<=8*q.length)=>unaR_ok q a ha)
          have HRl:=hid (rbits_len q)
          have hsz:=hf.size
          obtain⟨la,lc,hlv⟩:=hO.shape'
          rw [HLl.out]at hlv
          subst hlv
          have hlwb:∀ k,(Value.slice la i lc).ownBlock=some k->k<wr.heap.size:=fun k hk=>(hO.lt k hk).2
          have hqL:=HQL.out
          have HLw:=hid hO
          have hzz:wr.heap.size<=wr.heap.size:=Nat.le_refl _
          generalize hB2:wr.heap.size=B2 at hlwb hsz
          have HB2:=hid hB2
          clear hRle HLs HLz HG hB2 hO
          generalize K*i=A0 at *
          go_wp2_with fail
          go_loopw [16,17,18] (fun dv hv_ jv wr=>∃ (j high lo a:Nat) (ids:List Nat),j<=i/\jv=N j/\hv_=N high/\high<=20000/\lo<=20000/\ids.length=j/\Hid (j=0->lo=0)/\Hid (∀ h:0<j,ids.getD (j - 1) 0+1=lo)/\RbF wr Br (Br+1) (rbits q) a/\Ow wr w.heap.size eJ (.slice la i lc) LW/\Ow wr B2 eJ dv ids/\wr.heap[B]?=some (.cells #[cv,N at_,.int .i64 0] 99 (0,0))/\Fr w wr/\B2<=wr.heap.size/\Hid (E0=efGo bound K q (i - j) j a high lo ids)) (fun _ _ jv _=>i - (intOf jv).toNat)
          case atStart=>exact⟨0,0,0,A0,[],Nat.zero_le _,rfl,rfl,by omega,by omega,rfl,fun _=>rfl,fun h=>absurd h (by decide),hRb,HLw.out,Ow.nil,hBx,hf,Nat.le_of_eq HB2.out.symm,HE0.out⟩
          case round=>
            clear hRb hBx hf HE0 hzz
            obtain⟨j,high,lo,a,ids,hj,rfl,rfl,hhi,hlo,hil,HZ,HLo,hRb,hO,hD,hBx,hf,hz,HE⟩:=hrel
            by_cases hlt:j<i
            · have hjL:j<LW.length:=by rw [HLl.out];exact hlt
              obtain⟨lb,lo_,lcp,hlv',c0⟩:=hO.see.cell1 N rfl j hjL
              rw [HLl.out]at hlv'
              cases hlv'
              have hRle:=hRb.le
              rw [HRl.out]at hRle
              have d0:wr.cell? ⟨lb,lo_+j,none⟩=some (N (Fk.numAt q (K*j) K)):=by rw [<- HLa.out j hjL];exact c0
              have HS1:=hid (HSt.out j a high lo ids hlt)
              have hxl:=numAt_lt q (K*j) K
              have hUa:=HUk.out a hRle
              have HU1:=hid (HU.out Br _ a wr hRb)
              have i1:(0:Int)<=j:=by omega
              have i2:(j:Int)<i:=by omega
              have HEi:Hid (E0=_):=HE.out.trans HS1.out
              have HEr:Hid (¬(unaR q a).2.2=0->(unaR q a).2.2=1):=fun h=>unaR_er q a h
              have hbx:=hRb.box
              have HXj:Hid (∀ h:j<LW.length,LW[j]=Fk.numAt q (K*j) K):=fun h=>HLa.out j h
              clear c0 HE HS1 hRle
              generalize Fk.numAt q (K*j) K=x at *
              generalize (unaR q a).1=d at *
              generalize (unaR q a).2.1=a2 at *
              generalize (unaR q a).2.2=er at *
              rw [<- HPw.out]at hxl HEi
              have HRb:=hid hRb
              have HO:=hid hO
              have HD:=hid hD
              have HBx:=hid hBx
              clear hRb hO hD hBx
              go_wp2_with fail
              refine(HU1.out).mono ?_
              rintro e w5 ⟨rfl,hRb5,hc5⟩
              obtain⟨vb,hbx1,_⟩:=hbx
              have hO5:=HO.out.chg hc5 (fun k hk e=>HO.out.ne_cells hbx1 (by decide) (by rw [hk,show k=Br from e]))
              have hD5:=HD.out.chg hc5 (fun k hk e=>HD.out.ne_cells hbx1 (by decide) (by rw [hk,show k=Br from e]))
              have hB5:=hc5.heap HBx.out hBB
              have hf5:Fr w w5:=((hf.chg (fun b=>b=Br)).trans hc5 fun _ _ h=>h).fr (fun k hk e=>by omega)
              have hz5:=Nat.le_trans hz hc5.size
              obtain⟨lb2,lo2,lcp2,hv5,e5⟩:=hO5.see.cell1 N rfl j hjL
              rw [HXj.out hjL,HLl.out]at *
              cases hv5
              have d5:w5.cell? ⟨lb,lo_+j,none⟩=some (N x):=e5
              clear HU1 hc5 HRb HO HD HBx hbx1 d0 e5 hjL
              by_cases her:er=0
              · rw [if_pos her]at HEi
                subst her
                obtain⟨h2,hh2e⟩:∃ h2,h2=high+d:=⟨_,rfl⟩
                have hh2b:h2<=10000000:=by omega
                have w0:IntKind.i64.wrap ((high:Int)+d)=(h2:Int):=by rw [IntWalk.i64_in _ (by omega),hh2e];simp
                rw [<- hh2e]at HEi
                have HH2:=hid hh2e
                clear hh2e
                have hmul:h2*pw<=10000000*16384:=Nat.mul_le_mul hh2b hpw1
                have hpw0:1<=pw:=by rw [HPw.out];exact Nat.two_pow_pos K
                have w1:IntKind.i64.wrap ((h2:Int)*pw)=((h2*pw:Nat):Int):=by rw [show(h2:Int)*pw=((h2*pw:Nat):Int) by simp];exact IntWalk.i64_in _ (by omega)
                obtain⟨x1,hx1⟩:∃ x1,x1=h2*pw+x:=⟨_,rfl⟩
                have hhx:h2<=x1:=by have:=Nat.le_mul_of_pos_right h2 hpw0;omega
                have w2:IntKind.i64.wrap (((h2*pw:Nat):Int)+x)=(x1:Int):=by rw [IntWalk.i64_in _ (by omega),hx1];simp
                rw [<- hx1]at HEi
                have hx1b:x1<=200000000000:=by omega
                have HX1:=hid hx1
                clear hx1 hmul hpw0 hxl
                generalize h2*pw=y at *
                have HIl:=hid hil
                clear hil
                by_cases hlo1:x1<lo
                · rw [if_pos hlo1]at HEi
                  have HRe:Hid (R=([],0,2)):=by show _=_;rw [HR.out,HQ.out,HEi.out];simp
                  have hjp:0<j:=by
                    rcases Nat.eq_zero_or_pos j with h | h
                    · have:=HZ.out h;omega
                    · exact h
                  obtain⟨db,do_,dc,hdv,e6⟩:=hD5.see.cell1 N rfl (j - 1) (by rw [HIl.out];omega)
                  have hidj:ids[j - 1]'(by rw [HIl.out];omega)+1=lo:=by
                    have h1:=HLo.out hjp
                    rw [getD_at ids (j - 1) 0 (by rw [HIl.out];omega)]at h1
                    exact h1
                  generalize ids[j - 1]'(by rw [HIl.out];omega)=z at *
                  subst hdv
                  have e7:w5.cell? ⟨db,do_+(j - 1),none⟩=some (N z):=e6
                  have k0:(0:Int)<j:=by omega
                  have k1:IntKind.i64.wrap ((j:Int) - 1)=(j:Int) - 1:=IntWalk.i64_in _ (by omega)
                  have k2:(0:Int)<=(j:Int) - 1:=by omega
                  have k3:(j:Int) - 1<ids.length:=by rw [HIl.out];omega
                  have k4:((j:Int) - 1).toNat=j - 1:=by omega
                  have k5:(x1:Int)<=z:=by omega
                  clear HEi HR hidj e6 hjp hlo1
                  go_wp2_with fail
                  go_ret3
                  rw [HRe.out]
                  exact⟨_,rfl,Ow.nil,hf5⟩
                · rw [if_neg hlo1]at HEi
                  rcases Nat.eq_zero_or_pos j with hj0 | hjp
                  · have k0:¬(0:Int)<j:=by omega
                    obtain⟨db,dc,hdv⟩:=hD5.shape'
                    subst hdv
                    have HD5:=hid hD5
                    clear hD5 hj0 hlo1
                    by_cases hbd:bound<=x1
                    · rw [if_pos hbd]at HEi
                      have HRe:Hid (R=([],0,8)):=by show _=_;rw [HR.out,HQ.out,HEi.out];simp
                      have m2:(bound:Int)<=x1:=by omega
                      clear HEi HR
                      go_wp2_with fail
                      go_ret3
                      rw [HRe.out]
                      exact⟨_,rfl,Ow.nil,hf5⟩
                    · rw [if_neg hbd]at HEi
                      have m2:¬(bound:Int)<=x1:=by omega
                      have hh3:h2<=20000:=by omega
                      have hx3:x1+1<=20000:=by omega
                      have HC1:Hid (ids.length+[x1].length<=2147483648):=by have:=HIl.out;show _<=_;simp;omega
                      have hD5b:=HD5.out
                      go_wp2_with (at_builtin;refine wpList_app1 eJ rfl (.tmp 119) (.tmp 121) 30 rfl Tryz.underlying30 B2 rfl hD5b [x1] _ _ _ rfl rfl rfl HC1.out hz5 ?_)
                      intro v' w6 hap
                      have hRb6:=hRb5.app hD5b hap
                      have hB6:=hap.chg'.heap hB5 (fun e=>hD5b.ne_cells hB5 (by decide) e)
                      have hO6:=hO5.chg hap.chg' (fun k hk e=>by have h1:=hlwb k hk;have h2:=(hD5b.lt k e).1;omega)
                      have hf6:=Fr.grown hf5 hap.chg (Fr.size hf5) (fun k e=>by have:=(hD5b.lt k e).1;omega)
                      have hz6:=Nat.le_trans hz5 hap.size
                      have hIl:=HIl.out
                      go_wp2_with fail
                      go_roundw
                      case rel=>exact⟨j+1,h2,x1+1,a2,ids++[x1],by omega,by go_num,rfl,hh3,hx3,by rw [List.length_append,hIl];rfl,fun h=>by omega,fun _=>by rw [Nat.add_sub_cancel,<- hIl];simp,hRb6,hO6,hap.own,hB6,hf6,hz6,HEi.out⟩
                      case measure=>simp [intOf];omega
                  · obtain⟨db,do_,dc,hdv,e6⟩:=hD5.see.cell1 N rfl (j - 1) (by rw [HIl.out];omega)
                    have hidj:ids[j - 1]'(by rw [HIl.out];omega)+1=lo:=by
                      have h1:=HLo.out hjp
                      rw [getD_at ids (j - 1) 0 (by rw [HIl.out];omega)]at h1
                      exact h1
                    generalize ids[j - 1]'(by rw [HIl.out];omega)=z at *
                    subst hdv
                    have e7:w5.cell? ⟨db,do_+(j - 1),none⟩=some (N z):=e6
                    have k0:(0:Int)<j:=by omega
                    have k1:IntKind.i64.wrap ((j:Int) - 1)=(j:Int) - 1:=IntWalk.i64_in _ (by omega)
                    have k2:(0:Int)<=(j:Int) - 1:=by omega
                    have k3:(j:Int) - 1<ids.length:=by rw [HIl.out];omega
                    have k4:((j:Int) - 1).toNat=j - 1:=by omega
                    have k5:¬(x1:Int)<=z:=by omega
                    have HD5:=hid hD5
                    clear hD5 hidj e6 hjp hlo1
                    by_cases hbd:bound<=x1
                    · rw [if_pos hbd]at HEi
                      have HRe:Hid (R=([],0,8)):=by show _=_;rw [HR.out,HQ.out,HEi.out];simp
                      have m2:(bound:Int)<=x1:=by omega
                      clear HEi HR
                      go_wp2_with fail
                      go_ret3
                      rw [HRe.out]
                      exact⟨_,rfl,Ow.nil,hf5⟩
                    · rw [if_neg hbd]at HEi
                      have m2:¬(bound:Int)<=x1:=by omega
                      have hh3:h2<=20000:=by omega
                      have hx3:x1+1<=20000:=by omega
                      have HC1:Hid (ids.length+[x1].length<=2147483648):=by have:=HIl.out;show _<=_;simp;omega
                      have hD5b:=HD5.out
                      go_wp2_with (at_builtin;refine wpList_app1 eJ rfl (.tmp 119) (.tmp 121) 30 rfl Tryz.underlying30 B2 rfl hD5b [x1] _ _ _ rfl rfl rfl HC1.out hz5 ?_)
                      intro v' w6 hap
                      have hRb6:=hRb5.app hD5b hap
                      have hB6:=hap.chg'.heap hB5 (fun e=>hD5b.ne_cells hB5 (by decide) e)
                      have hO6:=hO5.chg hap.chg' (fun k hk e=>by have h1:=hlwb k hk;have h2:=(hD5b.lt k e).1;omega)
                      have hf6:=Fr.grown hf5 hap.chg (Fr.size hf5) (fun k e=>by have:=(hD5b.lt k e).1;omega)
                      have hz6:=Nat.le_trans hz5 hap.size
                      have hIl:=HIl.out
                      go_wp2_with fail
                      go_roundw
                      case rel=>exact⟨j+1,h2,x1+1,a2,ids++[x1],by omega,by go_num,rfl,hh3,hx3,by rw [List.length_append,hIl];rfl,fun h=>by omega,fun _=>by rw [Nat.add_sub_cancel,<- hIl];simp,hRb6,hO6,hap.own,hB6,hf6,hz6,HEi.out⟩
                      case measure=>simp [intOf];omega
              · rw [if_neg her]at HEi
                have her':¬(er:Int)=0:=by omega
                have HRe:Hid (R=([],0,er)):=by
                  have h1:=HEr.out her
                  show _=_;rw [HR.out,HQ.out,HEi.out];simp [h1]
                clear HEi HR
                go_wp2_with fail
                go_ret3
                rw [HRe.out]
                exact⟨_,rfl,Ow.nil,hf5⟩
            · obtain rfl:j=i:=by omega
              have hnl:¬((j:Int)<j):=by omega
              have HEf:Hid (E0=(ids,a,0)):=by show _=_;rw [HE.out,Nat.sub_self];rfl
              rw [HEf.out]at HQ
              have hale:=hRb.le
              rw [HRl.out]at hale
              have HQ2:Hid (Q=if padB q a then(ids,(a+7) / 8,0)else([],0,2)):=by show _=_;rw [HQ.out];simp
              obtain⟨rs,hrs⟩:∃ rs,rs=(8 - a % 8) % 8:=⟨_,rfl⟩
              have HRs:=hid hrs
              have hars:a+rs<=8*q.length:=by omega
              have HB1:Hid (∀ k (h:k<(rbits q).length),((rbits q)[k]).toNat=bitR q k):=fun k h=>rbits_nat q k h
              have hHB2:=HB2.out
              obtain⟨da,dc,hdv⟩:=hD.shape'
              rw [hil]at hdv
              subst hdv
              have HIl:=hid hil
              clear hil
              clear HE HEf HQ hrs hale hO
              go_wp2_with fail
              go_loopw [] (fun wr=>∃ t:Nat,t<=rs/\RbF wr Br (Br+1) (rbits q) (a+t)/\Ow wr B2 eJ (.slice da j dc) ids/\wr.heap[B]?=some (.cells #[cv,N at_,.int .i64 0] 99 (0,0))/\Fr w wr/\Hid (∀ s,s<t->bitR q (a+s)=0)) (fun wr=>rbLeft Br (8*q.length) wr)
              case atStart=>exact⟨0,Nat.zero_le _,hRb,hD,hBx,hf,fun s h=>absurd h (by omega)⟩
              case round=>
                clear hRb hD hBx hf
                obtain⟨t,ht,hRb,hD,hBx,hf,HZs⟩:=hrel
                obtain⟨a3,ha3⟩:∃ a3,a3=a+t:=⟨_,rfl⟩
                have hrt:(t<rs->¬(a3 % 8=0))/\(¬t<rs->a3 % 8=0/\a3 / 8=(a+7) / 8):=by have:=HRs.out;omega
                rw [<- ha3]at hRb
                have hm:=rbLeft_at (n:=8*q.length) hRb
                have ha8:a3<=8*q.length:=by omega
                have hbx:=hRb.box
                obtain⟨vb,hbx1,hvb⟩:=hbx
                have c1:wr.cell? ⟨Br,1,none⟩=some (N a3):=by rw [cell_of_heap hbx1];rfl
                have cB:wr.cell? ⟨B,1,none⟩=some (N at_):=by rw [cell_of_heap hBx];rfl
                have hqL:=HQL.out
                have hrem:(a3:Int).tmod 8=((a3 % 8:Nat):Int):=by rw [Int.tmod_eq_emod_of_nonneg (by omega)];simp
                have hwr:IntKind.i64.wrap ((a3 % 8:Nat):Int)=((a3 % 8:Nat):Int):=IntWalk.i64_in _ (by omega)
                by_cases hlt:t<rs
                · have hn8:=hrt.1 hlt
                  have hn8':¬((a3 % 8:Nat):Int)=0:=by omega
                  have ha9:a3<8*q.length:=by omega
                  have haq:a3<(rbits q).length:=by rw [HRl.out];exact ha9
                  have hbq:=HB1.out a3 haq
                  obtain⟨b5,o5,p5,hv5,e5⟩:=hvb.see.cell1 Fk.u8 rfl a3 haq
                  subst hv5
                  have e6:wr.cell? ⟨b5,o5+a3,none⟩=some (.int .u8 ((bitR q a3:Nat):Int)):=by rw [<- hbq];exact e5
                  have c0:wr.cell? ⟨Br,0,none⟩=some (.slice (some ⟨b5,o5,none⟩) (rbits q).length p5):=by rw [cell_of_heap hbx1];rfl
                  have hb2:=bitR_two q a3
                  have i1:(0:Int)<=a3:=by omega
                  have i2:(a3:Int)<(rbits q).length:=by omega
                  have HA3:=hid ha3
                  clear e5 hbq hrt hn8 haq hqL ha3
                  generalize a3 % 8=m8 at *
                  by_cases hb:bitR q a3=1
                  · have HRe:Hid (R=([],0,2)):=by
                      have h1:padB q a=false:=pad_no q a t (by have:=HRs.out;omega) (by rw [<- HA3.out];exact hb)
                      show _=_;rw [HR.out,HQ2.out,h1];simp
                    rw [hb]at e6
                    clear hb hb2 HR
                    go_wp2_with fail
                    go_quiet (fail)
                    go_wp2_with fail
                    go_ret3
                    rw [HRe.out]
                    exact⟨_,rfl,Ow.nil,hf.drewN _⟩
                  · have hb0:bitR q a3=0:=by omega
                    have HZ2:Hid (∀ s,s<t+1->bitR q (a+s)=0):=fun s h=>by
                      rcases Nat.lt_or_ge s t with h1 | h1
                      · exact HZs.out s h1
                      · obtain rfl:s=t:=by omega
                        rw [<- HA3.out];exact hb0
                    rw [hb0]at e6
                    have w9:IntKind.i64.wrap ((a3:Int)+1)=(a3:Int)+1:=IntWalk.i64_in _ (by have:=HQL.out;omega)
                    have HRb:=hid hRb
                    clear hb hb2 hb0 hRb
                    go_wp2_with fail
                    go_quiet (fail)
                    obtain⟨wA,hA,hqA⟩:∃ wA,wA=wr.drewN nq/\Qt wr wA:=⟨_,rfl,Qt.drewN _ _⟩
                    rw [<- hA]
                    clear hA
                    have h11:=hqA.fr.heap hbx1
                    have d1:wA.cell? ⟨Br,1,none⟩=some (N a3):=by rw [cell_of_heap h11];rfl
                    have z1:=frozen_of_heap h11 1
                    have hst:=setCell_chg wA ⟨Br,1,none⟩ (.int .i64 ((a3:Int)+1))
                    have h12:=heap_setCell_own h11 1 (.int .i64 ((a3:Int)+1))
                    have hvBr:=hvb.ne_cells hbx1 (by decide)
                    have hv12:=(hvb.fr hqA.fr).chg hst (fun k hk e=>hvBr (by rw [hk,show k=Br from e]))
                    have hD12:=(hD.fr hqA.fr).chg hst (fun k hk e=>hD.ne_cells hbx1 (by decide) (by rw [hk,show k=Br from e]))
                    have hB12:=hst.heap (hqA.fr.heap hBx) hBB
                    have hf12:Fr w (wA.setCell ⟨Br,1,none⟩ (.int .i64 ((a3:Int)+1))):=(((hf.trans hqA.fr).chg (fun b=>b=Br)).trans hst fun _ _ h=>h).fr (fun k hk e=>by omega)
                    have hRb12:RbF (wA.setCell ⟨Br,1,none⟩ (.int .i64 ((a3:Int)+1))) Br (Br+1) (rbits q) (a3+1):=⟨⟨_,h12,hv12⟩,by rw [HRl.out];omega⟩
                    have hm2:=rbLeft_at (n:=8*q.length) hRb12
                    clear c0 c1 cB e6 hbx1
                    go_wp2_with fail
                    go_roundw
                    case rel=>exact⟨t+1,by omega,by rw [show a+(t+1)=a3+1 by rw [HA3.out];rfl];exact hRb12,hD12,hB12,hf12,HZ2.out⟩
                    case measure=>rw [hm2,hm];omega
                · obtain⟨hn8,hdiv⟩:=hrt.2 hlt
                  have hteq:t=rs:=by omega
                  have HRe:Hid (R=(ids,at_+(a+7) / 8,0)):=by
                    have h1:padB q a=true:=pad_yes q a (fun s hs=>HZs.out s (by have:=HRs.out;omega))
                    show _=_;rw [HR.out,HQ2.out,h1];simp
                  rw [<- hdiv]at HRe
                  have hn8':((a3 % 8:Nat):Int)=0:=by omega
                  rw [hn8']at hrem
                  have hab:=HAb.out
                  have hdi:(a3:Int) / 8=((a3 / 8:Nat):Int):=by simp
                  have hw1:IntKind.i64.wrap ((a3:Int) / 8)=((a3 / 8:Nat):Int):=by rw [hdi];exact IntWalk.i64_in _ (by omega)
                  have hw2:IntKind.i64.wrap ((at_:Int)+((a3 / 8:Nat):Int))=((at_+a3 / 8:Nat):Int):=by rw [IntWalk.i64_in _ (by omega)];simp
                  have hw0:IntKind.i64.wrap 0=0:=by decide
                  have HD:=hid (hD.rebase (show w.heap.size<=B2 by omega))
                  clear hrt hn8 hn8' hdi hdiv hwr HR hab hlt hteq ha3 ha8 hqL hars hD
                  generalize a3 / 8=z8 at *
                  go_wp2_with fail
                  go_quiet (fail)
                  go_wp2_with fail
                  go_ret3
                  rw [HRe.out]
                  exact⟨_,rfl,HD.out.fr ((Fr.refl wr).drewN nq),hf.drewN _⟩
  · rw [if_neg h0]at HR
    have h1:¬((limL bound b).2.2:Int)=0:=by omega
    have H0:=hid h0
    clear hok h0
    generalize (limL bound b).2.2=er at *
    generalize (limL bound b).1=n at *
    generalize (limL bound b).2.1=at_ at *
    go_enter Tryz.func97, Tryz.ntmps97
    go_wp2_with fail
    refine(HNew.out).mono ?_
    rintro e w1 ⟨B,rfl,hC,hf1,hB⟩
    have hBw:B<w1.heap.size:=by obtain⟨⟨v,h1,_⟩,_⟩:=hC;exact(Array.getElem?_eq_some_iff.1 h1).1
    have HI1:=hid (HInt.out B _ w1 hC)
    clear HNew
    go_wp2_with fail
    refine(HI1.out).mono ?_
    rintro e w2 ⟨rfl,hC2,hc2⟩
    have hf2:Fr w w2:=((hf1.chg (fun b=>b=B)).trans hc2 fun _ _ h=>h).fr (fun k hk e=>by omega)
    obtain⟨d1,d2,_,_⟩:=hC2.cells
    clear HI1 hC2 hC
    go_wp2_with fail
    go_quiet (fail)
    go_wp2_with fail
    go_ret3
    rw [HR.out]
    exact⟨_,rfl,Ow.nil,hf2.drewN _⟩
set_option maxRecDepth 512
end Go.Proofs.YtijghcbpfcjjnaaGreatDoor
