/- Parts of the proof of ThreeOpens: Cr8. -/
import Derived.Test.YtijghcbpfcjjnaaGreatDoorM17
import Derived.Test.YtijghcbpfcjjnaaGreatDoorM18
import Derived.Test.YtijghcbpfcjjnaaGreatDoorM26
import Derived.BigQuiet
set_option linter.unusedVariables false
set_option linter.unusedSectionVars false
set_option linter.unusedSimpArgs false
set_option maxHeartbeats 8000000
namespace Go.Proofs.YtijghcbpfcjjnaaGreatDoor
open Go.RowKit Go.Fk
set_option maxRecDepth 100000
theorem RDRead_any (size : Nat) (h1 : 1 ≤ size) (h2 : size ≤ 64) (v : Value) (b : List UInt8) (w : World) (hs : See w eB v b) (hl : b.length ≤ 1000000) :
    Calls Tryz.prog 96 #[N size,v] w fun e w'=>∃ tv,e=.returned (.tuple #[tv,N (dictR size b).2.1,.int .i64 ((dictR size b).2.2:Int)])/\Ow w' w.heap.size eS tv (dictR size b).1/\Fr w w':=by
  have HNew:=hid (RNew_any v b w hs hl)
  have HInt:=hid (fun most (hm:most<9223372036854775808) B base s W h=>RInt_cur most hm B base s b W h hl)
  have HBad:=hid (dictR_bad size b)
  have HNb:=hid (dictN_bad size b)
  have HN:Hid (dictN b=(⟨0,0⟩:Cs).int b 1048576):=rfl
  have hnl:(dictN b).1<=1048576:=by
    show Cs.val _ _<=_
    unfold Cs.val
    split
    · rename_i h;exact(limL_ok _ _ h.2).2.2
    · exact Nat.zero_le _
  have HZ0:Hid (dictZ size b=szGo b (((dictN b).1+size - 1) / size - 0) (dictN b).2 []):=rfl
  have HR:Hid (dictR size b=if(dictGo b size (dictN b).1 (dictZ size b).1 0 (dictZ size b).2 []).2.2=0 then((dictGo b size (dictN b).1 (dictZ size b).1 0 (dictZ size b).2 []).1,(dictGo b size (dictN b).1 (dictZ size b).1 0 (dictZ size b).2 []).2.1.at_,0)else([],0,(dictGo b size (dictN b).1 (dictZ size b).1 0 (dictZ size b).2 []).2.2)):=rfl
  generalize dictR size b=R at *
  generalize dictZ size b=Z at *
  generalize hDN:dictN b=DN at *
  obtain⟨n,s0⟩:=DN
  have hn:n<=1048576:=hnl
  have HCe:=hid (fun j=>ceil_lt n size j h1)
  have hKn:(n+size - 1) / size<=1048640:=Nat.le_trans (Nat.div_le_self _ _) (by omega)
  have HZ:Hid (Z=szGo b ((n+size - 1) / size - 0) s0 []):=HZ0.out
  have HNb2:Hid (¬s0.er=0->R=([],0,s0.er)):=HNb.out
  clear HZ0 hnl hDN HNb
  generalize (n+size - 1) / size=K at *
  have z1:¬(size:Int)<1:=by omega
  have z2:¬(64:Int)<size:=by omega
  obtain⟨a0,cap,hv,_⟩:=hs.shape
  subst hv
  clear hs
  go_enter Tryz.func96, Tryz.ntmps96
  go_wp2_with fail
  refine(HNew.out).mono ?_
  rintro e w1 ⟨B,rfl,hC,hf1,hB⟩
  have HI1:=hid (HInt.out 1048576 (by omega) B _ ⟨0,0⟩ w1 hC)
  rw [<- HN.out]at HI1
  have hsz1:=hf1.size
  clear HNew hC
  go_wp2_with fail
  refine(HI1.out).mono ?_
  rintro e w2 ⟨rfl,hC2,hc2⟩
  have hf2:Fr w w2:=((hf1.chg (fun b=>b=B)).trans hc2 fun _ _ h=>h).fr (fun k hk e=>by omega)
  have hs2:=hc2.size
  obtain⟨_,k2,_,_⟩:=hC2.cells
  clear HI1 hc2
  by_cases h0:s0.er=0
  · have k2':w2.cell? ⟨B,2,none⟩=some (.int .i64 0):=by rw [k2,h0];rfl
    have HE0:=hid h0
    clear k2 h0 HNb2
    go_wp2_with fail
    go_loopw [9,10] (fun zv av wr=>∃ (j at_:Nat) (s:Cs) (l:List Nat),j<=K/\Hid (l.length=j)/\av=N at_/\at_<=n+64/\Hid (at_=j*size)/\Hid (s.er=0)/\Ow wr w1.heap.size eJ zv l/\CurF wr 99 B w.heap.size b s.at_ s.er/\Fr w wr/\w1.heap.size<=wr.heap.size/\Hid (Z=szGo b (K - j) s l)) (fun _ av _=>n - (intOf av).toNat)
    case atStart=>exact⟨0,0,s0,[],Nat.zero_le _,rfl,rfl,by omega,by show 0=_;simp,HE0.out,Ow.nil,hC2,hf2,hs2,HZ.out⟩
    case round=>
      clear hC2 hf2 HZ k2' HE0
      obtain⟨j,at_,s,l,hj,HLj,rfl,hat,HAt_,HSe,hO,hC,hf,hz,HZk⟩:=hrel
      obtain⟨za,zc,hzv⟩:=hO.shape'
      rw [HLj.out]at hzv
      subst hzv
      by_cases hlt:at_<n
      · have i1:(at_:Int)<n:=by omega
        have hjK:j<K:=(HCe.out j).2 (by rw [<- HAt_.out];exact hlt)
        have HZ2:Hid (Z=szGo b (K - (j+1)) (s.int b 2000).2 (l++[(s.int b 2000).1])):=by
          show _=_;rw [HZk.out,show K - j=(K - (j+1))+1 by omega,szGo,if_pos HSe.out]
        have HI:=hid (HInt.out 2000 (by omega) B _ s wr hC)
        have HC1:Hid (l.length+[(s.int b 2000).1].length<=2147483648):=by have:=HLj.out;show _<=_;simp;omega
        obtain⟨bcs,hbx⟩:=hC.cbox
        have HO:=hid hO
        have hnx:at_+size<=n+64:=by omega
        have HAn:Hid (at_+size=(j+1)*size):=by show _=_;rw [HAt_.out,Nat.succ_mul]
        clear hO hC HZk
        generalize (s.int b 2000).1=x at *
        generalize (s.int b 2000).2=s2 at *
        go_wp2_with fail
        refine(HI.out).mono ?_
        rintro e w3 ⟨rfl,hC3,hc3⟩
        have hO3:=HO.out.chg hc3 (fun i hi e=>HO.out.ne_cells hbx (by decide) (by rw [hi,show i=B from e]))
        have hf3:Fr w w3:=((hf.chg (fun b=>b=B)).trans hc3 fun _ _ h=>h).fr (fun k hk e=>by omega)
        have hz3:=Nat.le_trans hz hc3.size
        clear HI HO hbx hc3
        go_wp2_with (at_builtin;refine wpList_app1 eJ rfl (.tmp 45) (.tmp 48) 30 rfl Tryz.underlying30 w1.heap.size rfl hO3 [x] _ _ _ rfl rfl rfl HC1.out hz3 ?_)
        intro v4 w4 hap
        have hC4:=hC3.app hO3 hap (by decide) (by decide)
        have hf4:=hap.below hO3 hf3 hsz1 hf3.size
        have hz4:=Nat.le_trans hz3 hap.size
        obtain⟨va4,vc4,hv4⟩:=hap.own.shape'
        rw [show(l++[x]).length=j+1 from by rw [List.length_append,HLj.out];rfl]at hv4
        subst hv4
        obtain⟨_,k4,_,_⟩:=hC4.cells
        have HO4:=hid hap.own
        clear hap hO3 hC3
        by_cases he:s2.er=0
        · have k4':w4.cell? ⟨B,2,none⟩=some (.int .i64 0):=by rw [k4,he];rfl
          have HSe2:=hid he
          clear k4 he
          go_wp2_with fail
          go_roundw
          case rel=>exact⟨j+1,at_+size,s2,l++[x],by omega,by show _=_;rw [List.length_append,HLj.out];rfl,by go_num,hnx,HAn.out,HSe2.out,HO4.out,hC4,hf4,hz4,HZ2.out⟩
          case measure=>simp [intOf];omega
        · have HRe:Hid (R=([],0,s2.er)):=by
            have hZe:Z=(l++[x],s2):=by rw [HZ2.out,szGo_nil _ _ _ _ he]
            have:=HBad.out (by rw [hZe];exact he)
            show _=_
            rw [this,hZe]
          have i0:¬(s2.er:Int)=0:=by omega
          clear he HZ2
          go_wp2_with fail
          go_quiet (fail)
          go_wp2_with fail
          go_ret3
          rw [HRe.out]
          exact⟨_,rfl,Ow.nil,(show Fr w w4 from hf4).trans (Fr.drewN (Fr.refl w4) _)⟩
      · have hjK:j=K:=by
          rcases Nat.lt_or_ge j K with h | h
          · have:=(HCe.out j).1 h;rw [<- HAt_.out]at this;omega
          · omega
        have HZ2:Hid (Z=(l,s)):=by show _=_;rw [HZk.out,hjK,Nat.sub_self];rfl
        have i1:¬(at_:Int)<n:=by omega
        clear HZk
        have HLK:Hid (l.length=K):=HLj.out.trans hjK
        subst hjK
        have HR2:Hid (R=if(dictGo b size n (l.drop 0) 0 s []).2.2=0 then((dictGo b size n (l.drop 0) 0 s []).1,(dictGo b size n (l.drop 0) 0 s []).2.1.at_,0)else([],0,(dictGo b size n (l.drop 0) 0 s []).2.2)):=by
          have h:=HR.out
          rw [HZ2.out]at h
          exact h
        obtain⟨DR,hDR⟩:∃ DR,DR=dictGo b size n (l.drop 0) 0 s []:=⟨_,rfl⟩
        rw [<- hDR]at HR2
        have HD:=hid hDR
        have HTake:=hid (fun k s W h hb=>RTake_cur B w.heap.size k s b W h hl hb)
        have HNw:=hid (fun v q W hs hq=>RNew_any v q W hs hq)
        clear hDR HR HBad HZ2 HN
        obtain⟨wo,rfl⟩:∃ wo:World,wo=wr:=⟨_,rfl⟩
        go_wp2_with fail
        go_loopw [11,12] (fun ov iv wr2=>∃ (i:Nat) (s:Cs) (t:List (List UInt8)),i<=j/\iv=N i/\Hid (∀ x∈t,x.length<=25)/\Hid (t.length=min (i*size) n)/\Hid (s.er=0)/\Ow wr2 wo.heap.size eS ov t/\Ow wr2 w1.heap.size eJ (.slice za j zc) l/\CurF wr2 99 B w.heap.size b s.at_ s.er/\Fr w wr2/\wo.heap.size<=wr2.heap.size/\Hid (DR=dictGo b size n (l.drop i) i s t)) (fun _ iv _=>j - (intOf iv).toNat)
        case atStart=>exact⟨0,s,[],Nat.zero_le _,rfl,(show ∀ x∈([]:List (List UInt8)),x.length<=25 from fun x hx=>(List.not_mem_nil hx).elim),by show 0=_;simp,HSe.out,Ow.nil,hO,hC,hf,Nat.le_refl _,HD.out⟩
        case round=>
          clear hO hC hf HD HSe
          obtain⟨i,s,t,hi,rfl,H25,HTl,HSe,hT,hO,hC,hf,hz2,HDk⟩:=hrel
          obtain⟨ta,tc,htv⟩:=hT.shape'
          subst htv
          by_cases hlt:i<j
          · have hll:i<l.length:=by have:=HLK.out;omega
            have hiK:=(HCe.out i).1 hlt
            have HS1:=hid (dictGo_step b size n l i s t hll)
            obtain⟨b5,o5,p5,hv5,e5⟩:=hO.see.cell1 N rfl i hll
            rw [HLK.out]at hv5
            cases hv5
            have e6:wr.cell? ⟨b5,o5+i,none⟩=some (N l[i]):=e5
            have HT1:=hid (HTake.out l[i] s wr hC hf.size)
            have htk:=take_len s b l[i]
            have HFo:=hid (fun part=>fillGo_ok part (min size (n - i*size)) 0 ⟨0,0⟩ t H25.out)
            have HFl:=hid (fun part=>fillGo_len part (min size (n - i*size)) 0 ⟨0,0⟩ t)
            have HBk:=hid (fun k=>bucket_lt size n i k hiK)
            have HTq:Hid (t.length=i*size):=by have:=HTl.out;show _=_;omega
            have HMn:Hid (i*size+min size (n - i*size)=min ((i+1)*size) n):=by show _=_;rw [Nat.succ_mul];omega
            obtain⟨bcs,hbx⟩:=hC.cbox
            have i1:(0:Int)<=i:=by omega
            have i2:(i:Int)<j:=by omega
            have hTm:t.length<=2000000:=by have:=HTl.out;omega
            generalize (s.take b l[i]).1=part at *
            generalize (s.take b l[i]).2=s2 at *
            generalize l[i]=k at *
            clear e5 hll
            go_wp2_with fail
            refine(HT1.out).mono ?_
            rintro e w3 ⟨pv,rfl,hP3,hC3,hc3⟩
            have hT3:=hT.chg hc3 (fun q hq e=>hT.ne_cells hbx (by decide) (by rw [hq,show q=B from e]))
            have hO3:=hO.chg hc3 (fun q hq e=>hO.ne_cells hbx (by decide) (by rw [hq,show q=B from e]))
            have hf3:Fr w w3:=((hf.chg (fun b=>b=B)).trans hc3 fun _ _ h=>h).fr (fun k hk e=>by omega)
            have hz3:=Nat.le_trans hz2 hc3.size
            obtain⟨pa,pc,hpv⟩:=hP3.shape'
            subst hpv
            obtain⟨_,k3,_,_⟩:=hC3.cells
            clear HT1 hbx hc3 e6 hT hO hC hf hz2
            by_cases he:s2.er=0
            · have k3':w3.cell? ⟨B,2,none⟩=some (.int .i64 0):=by rw [k3,he];rfl
              rw [if_pos he]at HS1
              have HDe:=hid (HDk.out.trans HS1.out)
              have HNp:=hid (HNw.out _ part w3 hP3.see (by omega))
              have HE2:=hid he
              clear HDk HS1 k3 he hP3
              go_wp2_with fail
              refine(HNp.out).mono ?_
              rintro e w4 ⟨B2,rfl,hC4,hf4,hB2⟩
              have hB3:=hC3.lt
              have hT4:=hT3.fr hf4
              have hO4:=hO3.fr hf4
              have hCB4:=hC3.fr hf4
              have hff:=hf3.trans hf4
              have hz4:=Nat.le_trans hz3 hf4.size
              have hBB:B≠B2:=by omega
              have hB2w:w.heap.size<=B2:=Nat.le_trans hf3.size hB2
              clear HNp hT3 hO3 hC3 hf3 hz3 hf4
              obtain⟨m,hm⟩:∃ m,m=min size (n - i*size):=⟨_,rfl⟩
              obtain⟨q,hq⟩:∃ q,q=i*size:=⟨_,rfl⟩
              rw [<- hm]at HDe HFo HFl HBk HMn
              rw [<- hq]at HBk HTq HMn hiK
              obtain⟨F,hF⟩:∃ F,F=fillGo part (m - 0) 0 ⟨0,0⟩ t:=⟨_,rfl⟩
              have HDf:Hid (DR=if F.2=0 then dictGo b size n (l.drop (i+1)) (i+1) s2 F.1 else([],s2,F.2)):=by rw [hF];exact HDe.out
              have HF:=hid hF
              have hmm:m<=64:=by omega
              have HFo2:=HFo.out part
              have HFl2:=hid (HFl.out part)
              have HSt:=hid (fillGo_step part m)
              have HTl4:Hid (t.length=q+0):=HTq.out
              clear HDe hF HFo HFl hm hq
              obtain⟨wq,rfl⟩:∃ wq:World,wq=wr:=⟨_,rfl⟩
              go_wp2_with fail
              go_loopw [11,15] (fun ov kv wr2=>∃ (k:Nat) (d:Cs) (t:List (List UInt8)),k<=m/\kv=N k/\Hid (∀ x∈t,x.length<=25)/\Hid (t.length=q+k)/\Hid (d.er=0)/\Ow wr2 wo.heap.size eS ov t/\Ow wr2 w1.heap.size eJ (.slice (some ⟨b5,o5,none⟩) j zc) l/\CurF wr2 99 B w.heap.size b s2.at_ s2.er/\CurF wr2 99 B2 w3.heap.size part d.at_ d.er/\Fr w wr2/\w4.heap.size<=wr2.heap.size/\Hid (F=fillGo part (m - k) k d t)) (fun _ kv _=>m - (intOf kv).toNat)
              case atStart=>exact⟨0,⟨0,0⟩,t,Nat.zero_le _,rfl,H25.out,HTl4.out,rfl,hT4,hO4,hCB4,hC4,hff,Nat.le_refl _,HF.out⟩
              case round=>
                clear hT4 hO4 hCB4 hC4 hff HF HTl4
                obtain⟨k,d,t',hk,rfl,H25',HTl',HDr,hT,hO,hCB,hC,hf,hz,HFk⟩:=hrel
                obtain⟨ta',tc',htv'⟩:=hT.shape'
                subst htv'
                have htq:=HTl'.out
                have hbk:=HBk.out k
                have hne:∀ a c:Nat,((a:Int)<c)=(a<c):=fun a c=>by simp
                by_cases hkm:k<m
                · obtain⟨y1,y2⟩:=hbk.2 hkm
                  have j1:(k:Int)<size:=by omega
                  have j2:(t'.length:Int)<n:=by omega
                  have j3:decide (t'.length<n)=true:=decide_eq_true (by omega)
                  have HStp:=hid (HFk.out.trans (HSt.out k d t' hkm))
                  have hwl:=lastD_le t' H25'.out
                  have HI2:=hid (fun most (hm:most<9223372036854775808) W h=>RInt_cur most hm B2 w3.heap.size d part W h (by omega))
                  have HTx:=hid (fun s W h hb=>RText_cur 25 (by omega) B2 w3.heap.size s part W h (by omega) hb)
                  have HM:Hid (nxM d part (t'.getLastD []) (decide (k=0))=if decide (k=0)=true then(0,d)else d.int part (t'.getLastD []).length):=rfl
                  have HCM:=hid hC
                  have HTs:=hid hT.see
                  have HTw:=hid hT
                  have HOw:=hid hO
                  obtain⟨tb,htb⟩:∃ tb:Bool,decide (0<t'.length)=tb:=⟨_,rfl⟩
                  have htbI:decide ((0:Int)<t'.length)=tb:=by rw [<- htb];simp
                  clear hbk htq hT hO hC HFk
                  go_upto_if 95 with fail
                  go_cut [16]from 96 to 101 (fun wv wx=>wv=S (t'.getLastD [])/\Qt wr wx)
                  case first=>
                    cases tb
                    · have ht00:t'=[]:=List.eq_nil_of_length_eq_zero (by have:=of_decide_eq_false htb;omega)
                      subst ht00
                      go_wp2_with fail
                      go_meet
                      exact⟨rfl,Qt.refl _⟩
                    · have ht0:0<t'.length:=of_decide_eq_true htb
                      obtain⟨b6,o6,p6,hv6,e6⟩:=HTs.out.cell1 (fun s:List UInt8=>S s) rfl (t'.length - 1) (by omega)
                      rw [<- lastD_str t' ht0]at e6
                      cases hv6
                      have l0:(0:Int)<t'.length:=by omega
                      have l1:IntKind.i64.wrap ((t'.length:Int) - 1)=(t'.length:Int) - 1:=IntWalk.i64_in _ (by omega)
                      have l2:(0:Int)<=(t'.length:Int) - 1:=by omega
                      have l3:((t'.length:Int) - 1).toNat=t'.length - 1:=by omega
                      have l4:(t'.length:Int) - 1<t'.length:=by omega
                      generalize t'.getLastD []=ls at *
                      go_wp2_with fail
                      go_meet
                      exact⟨rfl,Qt.refl _⟩
                  case rest=>
                    obtain⟨rfl,hqw⟩:=hcut
                    have hfw:=hqw.fr
                    have HNs:=hid (nxS_le d part (t'.getLastD []) (decide (k=0)))
                    have HLe:=hid (nxM_le d part (t'.getLastD []) (decide (k=0)))
                    have hrl:=nxR_le d part (t'.getLastD []) (decide (k=0))
                    have HRR:Hid (nxR d part (t'.getLastD []) (decide (k=0))=(nxM d part (t'.getLastD []) (decide (k=0))).2.text part 25):=rfl
                    have HC:Hid (nxC d part (t'.getLastD []) (decide (k=0))=if(nxR d part (t'.getLastD []) (decide (k=0))).2.er=0/\nxOk d part (t'.getLastD []) (decide (k=0))=false then⟨(nxR d part (t'.getLastD []) (decide (k=0))).2.at_,2⟩else(nxR d part (t'.getLastD []) (decide (k=0))).2):=rfl
                    have HSs:Hid (nxS d part (t'.getLastD []) (decide (k=0))=(t'.getLastD []).take (nxM d part (t'.getLastD []) (decide (k=0))).1++(nxR d part (t'.getLastD []) (decide (k=0))).1):=rfl
                    have HOk:Hid (nxOk d part (t'.getLastD []) (decide (k=0))=(decide (¬(nxR d part (t'.getLastD []) (decide (k=0))).1=[]) && mayS (t'.getLastD []) (nxS d part (t'.getLastD []) (decide (k=0))) && (decide (k=0) || decide (sameN (t'.getLastD []) (nxS d part (t'.getLastD []) (decide (k=0)))=(nxM d part (t'.getLastD []) (decide (k=0))).1)))):=rfl
                    have HE0:Hid (t'=[]->t'.getLastD []=[]):=fun h=>by rw [h];rfl
                    generalize nxC d part (t'.getLastD []) (decide (k=0))=C at *
                    generalize nxOk d part (t'.getLastD []) (decide (k=0))=ok at *
                    generalize nxS d part (t'.getLastD []) (decide (k=0))=sn at *
                    generalize nxR d part (t'.getLastD []) (decide (k=0))=RR at *
                    generalize nxM d part (t'.getLastD []) (decide (k=0))=M at *
                    generalize t'.getLastD []=was at *
                    obtain⟨rest,s3⟩:=RR
                    obtain⟨sm,d1⟩:=M
                    have HI3:=hid (HI2.out was.length (by omega) wc (HCM.out.fr hfw))
                    have HC3:=hid (HCM.out.fr hfw)
                    clear HI2 HCM
                    obtain⟨bk,hbk0⟩:∃ bk:Bool,decide ((0:Int)<k)=bk:=⟨_,rfl⟩
                    have hbkN:decide (0<k)=bk:=by rw [<- hbk0];simp
                    obtain⟨wp,rfl⟩:∃ wp:World,wp=wc:=⟨_,rfl⟩
                    go_upto_region 29 with fail
                    go_cut [103]from 102 to 103 (fun cv wx=>cv=.bool bk/\wp=wx)
                    case first=>
                      go_wp2_with fail
                      go_meet
                      exact⟨by first | rfl | rw [hbk0],rfl⟩
                    case rest=>
                      obtain⟨rfl,rfl⟩:=hcut
                      go_upto_if 103 with fail
                      go_cut [17]from 104 to 107 (fun mv wx=>mv=N sm/\CurF wx 99 B2 w3.heap.size part d1.at_ d1.er/\Chg (fun b=>b=B2) wp wx)
                      case first=>
                        cases bk
                        · have hk0:k=0:=by have:=of_decide_eq_false hbk0;omega
                          have h1:(sm,d1)=(0,d):=by rw [HM.out,if_pos (decide_eq_true hk0)]
                          cases h1
                          clear hk0
                          go_wp2_with fail
                          go_meet
                          exact⟨rfl,HC3.out,Chg.refl _ _⟩
                        · have hk0:¬k=0:=by have:=of_decide_eq_true hbk0;omega
                          have h1:Hid (d.int part was.length=(sm,d1)):=by show _=_;rw [HM.out,if_neg (by simpa using hk0)]
                          rw [h1.out]at HI3
                          clear hk0
                          go_wp2_with fail
                          refine(HI3.out).mono ?_
                          rintro e w5 ⟨rfl,hC5,hc5⟩
                          go_wp2_with fail
                          go_meet
                          exact⟨rfl,hC5,hc5⟩
                      case rest=>
                        obtain⟨rfl,hC5,hc5⟩:=hcut
                        have hBc:=hC5.lt
                        have HTx1:=hid (HTx.out d1 wc hC5 (by omega))
                        have hTxe:d1.text part 25=(rest,s3):=HRR.out.symm
                        rw [hTxe]at HTx1
                        have hrl2:rest.length<=25:=hrl
                        obtain⟨bx2,hbx2⟩:=HC3.out.cbox
                        have HFk:=hid (fun(h:s3.er=0)=>HLe.out h)
                        clear hBc HTx hTxe HRR hrl HLe hC5 HI3 HM
                        go_wp2_with fail
                        refine(HTx1.out).mono ?_
                        rintro e w6 ⟨rfl,hC6,hc6⟩
                        have hch6:Chg (fun b=>b=B2) wp w6:=hc5.trans hc6 fun _ _ h=>h
                        have hTp:=HTw.out.fr hfw
                        have hOp:=HOw.out.fr hfw
                        have hT6:=hTp.chg hch6 (fun q hq e=>hTp.ne_cells hbx2 (by decide) (by rw [hq,show q=B2 from e]))
                        have hO6:=hOp.chg hch6 (fun q hq e=>hOp.ne_cells hbx2 (by decide) (by rw [hq,show q=B2 from e]))
                        have hCB6:=(hCB.fr hfw).box hbx2 (by decide) hBB hch6
                        have hf6:Fr w w6:=(((hf.trans hfw).chg (fun b=>b=B2)).trans hch6 fun _ _ h=>h).fr (fun k hk e=>by have e:k=B2:=e;omega)
                        have hz6:=Nat.le_trans hz (Nat.le_trans hfw.size hch6.size)
                        obtain⟨_,k6,_,_⟩:=hC6.cells
                        clear HTx1 hTp hOp hch6 hbx2 hc5 hc6 hf hfw hCB hz HTw HOw HTs HC3
                        by_cases he3:s3.er=0
                        · have k6':w6.cell? ⟨B2,2,none⟩=some (.int .i64 0):=by rw [k6,he3];rfl
                          have hml:sm<=was.length:=HFk.out he3
                          have hx1:=extract_head was sm
                          have hx2:(⟨(was.take sm).toArray⟩:ByteArray)++⟨rest.toArray⟩=⟨sn.toArray⟩:=by rw [j_add,HSs.out]
                          have hsl:sn.length<=50:=by
                            have hs0:sn=was.take sm++rest:=HSs.out
                            rw [hs0,List.length_append,List.length_take];omega
                          have m0:(0:Int)<=sm:=by omega
                          have m1:(sm:Int)<=was.length:=by omega
                          have HAl:=hid (fun W=>RAlike16_any was sn (by omega) W)
                          have HE3:=hid he3
                          have HOk2:Hid (ok=(decide (¬rest=[]) && mayS was sn && (decide (k=0) || decide (sameN was sn=sm)))):=HOk.out
                          have HMy:Hid (mayS was sn=(decide (¬sn=[]) && decide (sn.length<=25) && decide (was<sn))):=rfl
                          have HSe : Hid (rest ≠ [] → ¬ sn = []) := fun h e => h (by
                            have hs0 : sn = was.take sm ++ rest := HSs.out
                            rw [e] at hs0
                            exact (List.append_eq_nil_iff.1 hs0.symm).2)
                          clear he3 k6 hml HFk HSs HOk
                          generalize mayS was sn=my at *
                          generalize sameN was sn=sm2 at *
                          go_upto_region 35 with fail
                          clear hx1 hx2 m0 m1
                          go_cut [151]from 124 to 151 (fun cv wx=>cv=.bool (!ok)/\Fr w6 wx)
                          case first=>
                            by_cases r0:rest=[]
                            · have hok:Hid (ok=false):=by show _=_;rw [HOk2.out,r0];rfl
                              subst r0
                              clear hbk0 hbkN
                              go_wp2_with fail
                              go_meet
                              exact⟨by first | (rw [hok.out];done) | (rw [hok.out];rfl),Fr.refl _⟩
                            · have hne:rest.isEmpty=false:=by cases rest <;> simp_all
                              have hne2:(rest == [])=false:=by cases rest <;> simp_all
                              have hne3:(rest != [])=true:=by cases rest <;> simp_all
                              have hsne:=HSe.out r0
                              by_cases l25:25<sn.length
                              · have hok:Hid (ok=false):=by
                                  have l26:¬sn.length<=25:=by omega
                                  show _=_;rw [HOk2.out,HMy.out,decide_eq_false l26];simp
                                have i1:(25:Int)<sn.length:=by omega
                                clear l25 hbk0 hbkN
                                go_wp2_with fail
                                go_meet
                                exact⟨by first | (rw [hok.out];done) | (rw [hok.out];rfl),Fr.refl _⟩
                              · have i1:¬(25:Int)<sn.length:=by omega
                                have l26:sn.length<=25:=by omega
                                cases tb
                                · have t0:¬0<t'.length:=of_decide_eq_false htb
                                  have i2:¬(0:Int)<t'.length:=by omega
                                  have hk0:k=0:=by have:=HTl'.out;omega
                                  have hw0:was=[]:=HE0.out (List.eq_nil_of_length_eq_zero (by omega))
                                  have hlt2:was<sn:=by rw [hw0];cases sn with
                                    | nil=>exact absurd rfl hsne
                                    | cons c r=>exact List.nil_lt_cons c r
                                  have hok:Hid (ok=true):=by show _=_;rw [HOk2.out,HMy.out,decide_eq_true hsne,decide_eq_true l26,decide_eq_true hlt2,decide_eq_true r0,decide_eq_true hk0];rfl
                                  have hbf:bk=false:=by rw [<- hbkN,hk0];rfl
                                  subst hbf
                                  clear hk0 hw0 hlt2 l25 l26 t0 hsne
                                  go_wp2_with fail
                                  go_meet
                                  exact⟨by first | (rw [hok.out];done) | (rw [hok.out];rfl),Fr.refl _⟩
                                · have t0:0<t'.length:=of_decide_eq_true htb
                                  have i2:(0:Int)<t'.length:=by omega
                                  by_cases hlt2:was<sn
                                  · have b1:Op.bytesLess sn was=false:=less_false (fun h=>List.lt_asymm h hlt2)
                                    have hne4:¬sn=was:=fun e=>List.lt_irrefl _ (e ▸ hlt2)
                                    have b2:(sn == was)=false:=by rw [beq_eq_false_iff_ne];exact hne4
                                    have hmy:Hid (my=true):=by show _=_;rw [HMy.out,decide_eq_true hsne,decide_eq_true l26,decide_eq_true hlt2];rfl
                                    clear hlt2 hne4 l25 l26 t0 hsne
                                    cases bk
                                    · have hk0:k=0:=by have:=of_decide_eq_false hbkN;omega
                                      have hok:Hid (ok=true):=by show _=_;rw [HOk2.out,hmy.out,decide_eq_true r0,decide_eq_true hk0];rfl
                                      clear hk0
                                      go_wp2_with fail
                                      go_meet
                                      exact⟨by first | (rw [hok.out];done) | (rw [hok.out];rfl),Fr.refl _⟩
                                    · have hk0:¬k=0:=by have:=of_decide_eq_true hbkN;omega
                                      have hok:Hid (ok=decide (sm2=sm)):=by show _=_;rw [HOk2.out,hmy.out,decide_eq_true r0,decide_eq_false hk0];simp
                                      have HSM:Hid (((sm2:Int) != sm) = !(decide (sm2=sm))):=by
                                        show _=_;rw [Bool.eq_iff_iff];simp;omega
                                      clear hk0
                                      go_wp2_with fail
                                      refine(HAl.out w6).mono ?_
                                      rintro e w7 ⟨rfl,hf7⟩
                                      go_wp2_with fail
                                      go_meet
                                      exact⟨by rw [hok.out,<- HSM.out],hf7⟩
                                  · have hok:Hid (ok=false):=by show _=_;rw [HOk2.out,HMy.out,decide_eq_false hlt2];simp
                                    clear l25 l26 t0 hsne hbk0 hbkN
                                    by_cases he:sn=was
                                    · have b2:(sn == was)=true:=by rw [beq_iff_eq];exact he
                                      have b1:Op.bytesLess sn was=false:=less_false (fun h=>List.lt_irrefl _ (he ▸ h))
                                      clear he hlt2
                                      go_wp2_with fail
                                      go_meet
                                      exact⟨by first | (rw [hok.out];done) | (rw [hok.out];rfl),Fr.refl _⟩
                                    · have h4:sn<was:=by
                                        rcases Std.lt_trichotomy sn was with h | h | h
                                        · exact h
                                        · exact absurd h he
                                        · exact absurd h hlt2
                                      have b1:Op.bytesLess sn was=true:=less_true h4
                                      have b2:(sn == was)=false:=by rw [beq_eq_false_iff_ne];exact he
                                      clear he hlt2 h4
                                      go_wp2_with fail
                                      go_meet
                                      exact⟨by first | (rw [hok.out];done) | (rw [hok.out];rfl),Fr.refl _⟩
                          case rest=>
                            obtain⟨rfl,hf7⟩:=hcut
                            have hT7:=hT6.fr hf7
                            have hO7:=hO6.fr hf7
                            have hCB7:=hCB6.fr hf7
                            have hC7:=hC6.fr hf7
                            have hf07:=hf6.trans hf7
                            have hz7:=Nat.le_trans hz6 hf7.size
                            clear hT6 hO6 hCB6 hC6 hf6 hz6 hf7 HAl HMy HSe HOk2 k6'
                            cases ok
                            · have hCe:C.er=2:=by rw [HC.out,if_pos ⟨HE3.out,rfl⟩]
                              have HRe:Hid (R=([],0,2)):=by
                                have hF:F=(t',C.er):=by rw [HStp.out,if_neg (by rw [hCe];decide)]
                                show _=_
                                rw [HR2.out,HDf.out,hF,hCe];rfl
                              clear hCe
                              go_wp2_with fail
                              go_ret3
                              rw [HRe.out]
                              exact⟨_,rfl,Ow.nil,hf07⟩
                            · have hCe:C=s3:=by rw [HC.out,if_neg (fun h=>by cases h.2)]
                              have HFn:Hid (F=fillGo part (m - (k+1)) (k+1) s3 (t'++[sn])):=by
                                show _=_
                                rw [HStp.out,hCe,if_pos HE3.out]
                              have h25n:Hid (∀ x∈t'++[sn],x.length<=25):=fun x hx=>by
                                rcases List.mem_append.1 hx with h | h
                                · exact H25'.out x h
                                · rw [List.mem_singleton.1 h];exact HNs.out (by rw [hCe];exact HE3.out)
                              have HC1:Hid (t'.length+[sn].length<=2147483648):=by have:=HTl'.out;show _<=_;simp;omega
                              have HTn:Hid ((t'++[sn]).length=q+(k+1)):=by have:=HTl'.out;show _=_;rw [List.length_append];simp;omega
                              clear hCe HC HStp
                              go_wp2_with (at_builtin;refine wpList_app1 eS rfl (.tmp 152) (.tmp 154) 33 rfl Tryz.underlying33 wo.heap.size rfl hT7 [sn] _ _ _ rfl rfl rfl HC1.out (Nat.le_trans hz4 hz7) ?_)
                              intro v8 w8 hap
                              have hO8:=own_app hO7 hT7 hap (by decide)
                              have hCB8:=hCB7.app hT7 hap (by decide) (by decide)
                              have hC8:=hC7.app hT7 hap (by decide) (by decide)
                              have hf8:=hap.below hT7 hf07 (by omega) hf07.size
                              have hz8:=Nat.le_trans hz7 hap.size
                              obtain⟨va,vc,hv8⟩:=hap.own.shape'
                              rw [show(t'++[sn]).length=t'.length+1 from by simp]at hv8
                              subst hv8
                              go_wp2_with fail
                              go_roundw
                              case rel=>exact⟨k+1,s3,t'++[sn],by omega,by go_num,h25n.out,HTn.out,HE3.out,hap.own,hO8,hCB8,hC8,hf8,hz8,HFn.out⟩
                              case measure=>simp [intOf];omega
                        · have HRe:Hid (R=([],0,s3.er)):=by
                            have hCe:C=s3:=by rw [HC.out,if_neg (fun h=>he3 h.1)]
                            have hF:F=(t',s3.er):=by rw [HStp.out,hCe,if_neg he3]
                            have hD:DR=([],s2,s3.er):=by rw [HDf.out,hF];exact if_neg he3
                            show _=_
                            rw [HR2.out,hD]
                            exact if_neg he3
                          have i0:¬(s3.er:Int)=0:=by omega
                          clear he3 HC HStp HOk
                          go_wp2_with fail
                          go_quiet (fail)
                          go_wp2_with fail
                          go_ret3
                          rw [HRe.out]
                          exact⟨_,rfl,Ow.nil,hf6.trans (Fr.drewN (Fr.refl w6) _)⟩
                · have hkm':k=m:=by omega
                  have hF0:Hid (F=(t',(d.fin part).er)):=by show _=_;rw [HFk.out,hkm',Nat.sub_self];rfl
                  have HLf:=hid (RLeft_any B2 w3.heap.size d.at_ d.er part wr hC (by omega))
                  have hdle:d.at_<=part.length:=hC.le
                  have hTt:Hid (t'.length=min ((i+1)*size) n):=by show _=_;rw [<- HMn.out,htq,hkm']
                  clear HFk
                  have hx:¬(k<size/\q+k<n):=fun h=>hkm (hbk.1 h)
                  clear hbk hkm
                  by_cases hks:k<size
                  · have j1:(k:Int)<size:=by omega
                    have j2:¬(t'.length:Int)<n:=by omega
                    clear htq hkm' hx hks
                    go_wp2_with fail
                    refine(HLf.out).mono ?_
                    rintro e w5 ⟨rfl,hq5⟩
                    have hf5:=hf.trans hq5.fr
                    have hT5:=hT.fr hq5.fr
                    have hO5:=hO.fr hq5.fr
                    have hCB5:=hCB.fr hq5.fr
                    have hz5:=Nat.le_trans hz hq5.fr.size
                    clear HLf hT hO hCB hC hz hf
                    by_cases hat2:d.at_<part.length
                    · have hRe:R=([],0,2):=by
                        rw [HR2.out,HDf.out,hF0.out]
                        have:(d.fin part).er=2:=by unfold Cs.fin;rw [if_pos ⟨HDr.out,hat2⟩]
                        simp [this]
                      have HRe:=hid hRe
                      have i5:(0:Int)<(part.length:Int) - d.at_:=by omega
                      clear hRe
                      go_wp2_with fail
                      go_ret3
                      rw [HRe.out]
                      exact⟨_,rfl,Ow.nil,hf5⟩
                    · have HDn:Hid (DR=dictGo b size n (l.drop (i+1)) (i+1) s2 t'):=by
                        show _=_
                        rw [HDf.out,hF0.out]
                        have:(d.fin part).er=0:=by unfold Cs.fin;rw [if_neg (fun h=>hat2 h.2)];exact HDr.out
                        simp [this]
                      have i5:¬(0:Int)<(part.length:Int) - d.at_:=by omega
                      go_wp2_with fail
                      go_roundw
                      case rel=>exact⟨i+1,s2,t',by omega,by go_num,H25'.out,hTt.out,HE2.out,hT5,hO5,hCB5,hf5,by omega,HDn.out⟩
                      case measure=>simp [intOf];omega
                  · have j1:¬(k:Int)<size:=by omega
                    clear htq hkm' hx hks
                    go_wp2_with fail
                    refine(HLf.out).mono ?_
                    rintro e w5 ⟨rfl,hq5⟩
                    have hf5:=hf.trans hq5.fr
                    have hT5:=hT.fr hq5.fr
                    have hO5:=hO.fr hq5.fr
                    have hCB5:=hCB.fr hq5.fr
                    have hz5:=Nat.le_trans hz hq5.fr.size
                    clear HLf hT hO hCB hC hz hf
                    by_cases hat2:d.at_<part.length
                    · have hRe:R=([],0,2):=by
                        rw [HR2.out,HDf.out,hF0.out]
                        have:(d.fin part).er=2:=by unfold Cs.fin;rw [if_pos ⟨HDr.out,hat2⟩]
                        simp [this]
                      have HRe:=hid hRe
                      have i5:(0:Int)<(part.length:Int) - d.at_:=by omega
                      clear hRe
                      go_wp2_with fail
                      go_ret3
                      rw [HRe.out]
                      exact⟨_,rfl,Ow.nil,hf5⟩
                    · have HDn:Hid (DR=dictGo b size n (l.drop (i+1)) (i+1) s2 t'):=by
                        show _=_
                        rw [HDf.out,hF0.out]
                        have:(d.fin part).er=0:=by unfold Cs.fin;rw [if_neg (fun h=>hat2 h.2)];exact HDr.out
                        simp [this]
                      have i5:¬(0:Int)<(part.length:Int) - d.at_:=by omega
                      go_wp2_with fail
                      go_roundw
                      case rel=>exact⟨i+1,s2,t',by omega,by go_num,H25'.out,hTt.out,HE2.out,hT5,hO5,hCB5,hf5,by omega,HDn.out⟩
                      case measure=>simp [intOf];omega
            · rw [if_neg he]at HS1
              have HDe:=hid (HDk.out.trans HS1.out)
              have HRe:Hid (R=([],0,s2.er)):=by show _=_;rw [HR2.out,HDe.out];exact if_neg he
              have i0:¬(s2.er:Int)=0:=by omega
              clear he HDk HS1 HDe
              go_wp2_with fail
              go_quiet (fail)
              go_wp2_with fail
              go_ret3
              rw [HRe.out]
              exact⟨_,rfl,Ow.nil,hf3.trans (Fr.drewN (Fr.refl w3) _)⟩
          · obtain rfl:i=j:=by omega
            have hnl:¬(i:Int)<i:=by omega
            have HDe:Hid (DR=(t,s,0)):=by
              show _=_
              rw [HDk.out,show l.drop i=[]from List.drop_eq_nil_of_le (by have:=HLK.out;omega),dictGo,HSe.out]
            obtain⟨k1,_,_,_⟩:=hC.cells
            have HRe:Hid (R=(t,s.at_,0)):=by show _=_;rw [HR2.out,HDe.out];rfl
            have hTb:=hT.rebase (show w.heap.size<=wo.heap.size from Nat.le_trans hsz1 hz)
            clear HDk HTl HDe
            go_wp2_with fail
            go_quiet (fail)
            go_wp2_with fail
            go_ret3
            rw [HRe.out]
            exact⟨_,rfl,hTb.fr (Fr.drewN (Fr.refl _) _),hf.trans (Fr.drewN (Fr.refl _) _)⟩
  · have HRe:=hid (HNb2.out h0)
    have i0:¬(s0.er:Int)=0:=by omega
    clear h0 HNb2
    go_wp2_with fail
    go_quiet (fail)
    go_wp2_with fail
    go_ret3
    rw [HRe.out]
    exact⟨_,rfl,Ow.nil,hf2.trans (Fr.drewN (Fr.refl w2) _)⟩
set_option maxRecDepth 512
end Go.Proofs.YtijghcbpfcjjnaaGreatDoor
