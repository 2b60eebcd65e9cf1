/- Parts of the proof of ThreeOpens: T7. -/
import Derived.Test.YtijghcbpfcjjnaaGreatDoorM38
import Derived.Test.YtijghcbpfcjjnaaGreatDoorM26
import Derived.Test.YtijghcbpfcjjnaaGreatDoorM21
import Derived.Test.YtijghcbpfcjjnaaGreatDoorM12
import Derived.Test.YtijghcbpfcjjnaaGreatDoorM10
import Derived.Test.YtijghcbpfcjjnaaGreatDoorM15
set_option linter.unusedVariables false
set_option linter.unusedSectionVars false
set_option linter.unusedSimpArgs false
set_option maxHeartbeats 8000000
namespace Go.Proofs.YtijghcbpfcjjnaaGreatDoor
open Go.RowKit Go.Fk
theorem goodS_succ(l:List UInt8)(c a n:Nat):goodS l c a (n+1)=goodS l c a n++[okCut (chunkS l c a n)]:=by unfold goodS;rw [List.range_succ,List.map_append];rfl
theorem partS_succ(l:List UInt8)(c a n:Nat):partS l c a (n+1)=partS l c a n++[cutB (chunkS l c a n)]:=by unfold partS;rw [List.range_succ,List.map_append];rfl
theorem badG_cnt(ok:List Bool)(n:Nat):(badG ok n).length=(badG ok 0).length:=by unfold badG;rw [List.length_map,List.length_map]
set_option maxRecDepth 100000
theorem RRead_any(k m c n:Nat)(v:Value)(l:List UInt8)(w:World)(hs:See w eB v l)(hk:1<=k)(hkm:k+m<=255)(hc1:1<=c)(hc6:c<=4096)(hn:n<=4294967296)(hl:l.length<=4000) :
  Calls Tryz.prog 43 #[N k,N m,N c,N n,v] w fun e w'=>∃ u bv,e=.returned (.tuple #[u,bv,.int .i64 ((readS k m c n l).1:Int)])/\Ow w' w.heap.size eB u (readS k m c n l).2.1/\Ow w' w.heap.size eJ bv (readS k m c n l).2.2/\Fr w w':=by
 have HSz:=hid (RSize_any k m c n hk hkm hc1 hc6)
 obtain⟨q1,q2⟩:=sizeV_cases k m c n
 obtain⟨a0,cap,hv,hcap1,hcap2,_⟩:=hs.shape
 subst hv
 unfold maxLen at hcap2
 by_cases hbig:8388608<n
 · rw [q2 (by omega)]at HSz
   have HR:=hid (readS_big k m c n l hbig)
   clear hs q1 q2
   go_enter Tryz.func43, Tryz.ntmps43
   go_wp2_with fail
   refine(HSz.out _).mono ?_
   rintro e w1 ⟨rfl,hf1⟩
   go_wp2_with fail
   go_ret3
   rw [HR.out]
   exact⟨_,_,rfl,Ow.nil,Ow.nil,hf1⟩
 · obtain⟨q3,q4⟩:=q1 (by omega)
   by_cases hlim:16777216<strN k c n*((k+m)*(c+4))
   · rw [q4 (by omega)]at HSz
     have HR:=hid (readS_limit k m c n l hbig hlim)
     clear hs q3 q4 q2 q1 hlim
     go_enter Tryz.func43, Tryz.ntmps43
     go_wp2_with fail
     refine(HSz.out _).mono ?_
     rintro e w1 ⟨rfl,hf1⟩
     go_wp2_with fail
     go_ret3
     rw [HR.out]
     exact⟨_,_,rfl,Ow.nil,Ow.nil,hf1⟩
   · rw [q3 (by omega)]at HSz
     by_cases hsh:l.length<strN k c n*((k+m)*(c+4))
     · have HR:=hid (readS_short k m c n l hbig hlim hsh)
       clear hs q3 q4 q2 q1
       generalize strN k c n*((k+m)*(c+4))=size at *
       have j1:(l.length:Int)<size:=by omega
       go_enter Tryz.func43, Tryz.ntmps43
       go_wp2_with fail
       refine(HSz.out _).mono ?_
       rintro e w1 ⟨rfl,hf1⟩
       go_wp2_with fail
       go_ret3
       rw [HR.out]
       exact⟨_,_,rfl,Ow.nil,Ow.nil,hf1⟩
     · by_cases hlo:strN k c n*((k+m)*(c+4))<l.length
       · have HR:=hid (readS_long k m c n l hbig hlim hlo)
         clear hs q3 q4 q2 q1
         generalize strN k c n*((k+m)*(c+4))=size at *
         have j1:¬(l.length:Int)<size:=by omega
         have j2:(size:Int)<l.length:=by omega
         go_enter Tryz.func43, Tryz.ntmps43
         go_wp2_with fail
         refine(HSz.out _).mono ?_
         rintro e w1 ⟨rfl,hf1⟩
         go_wp2_with fail
         go_ret3
         rw [HR.out]
         exact⟨_,_,rfl,Ow.nil,Ow.nil,hf1⟩
       · have heq:l.length=strN k c n*((k+m)*(c+4)):=by omega
         have HR:=hid (readS_eq k m c n l hbig hlim heq)
         have hL0:1*5<=(k+m)*(c+4):=Nat.mul_le_mul (by omega) (by omega)
         have hkc0:1*1<=k*c:=Nat.mul_le_mul hk hc1
         have hnk:n<=strN k c n*(k*c):=by
          have:=fun h=>(strN_lt k c n (by omega) (strN k c n)).2 h
          omega
         have HGs:=hid (readGo_step k m c l)
         have HGe:=hid (readGo_stop k m c l)
         have HSl:=hid (stripe_flat k m c l)
         obtain⟨sN,hsN⟩:∃ sN,sN=strN k c n:=⟨_,rfl⟩
         obtain⟨L,hLe⟩:∃ L,L=(k+m)*(c+4):=⟨_,rfl⟩
         obtain⟨KC,hKC⟩:∃ KC,KC=k*c:=⟨_,rfl⟩
         obtain⟨M,hMe⟩:∃ M,M=k+m:=⟨_,rfl⟩
         obtain⟨c4,hc4⟩:∃ c4,c4=c+4:=⟨_,rfl⟩
         rw [<- hsN,<- hLe]at heq HSz
         rw [<- hLe]at hL0 HGs HGe HSl
         rw [<- hsN]at HR hnk
         rw [<- hKC]at hkc0 hnk HSl
         have hsL:sN*5<=sN*L:=Nat.mul_le_mul_left _ (by omega)
         have hkcL:KC<=L:=by rw [hKC,hLe];exact Nat.mul_le_mul (by omega) (by omega)
         have hsKC:sN*KC<=sN*L:=Nat.mul_le_mul_left _ hkcL
         have hML:M<=L:=by rw [hMe,hLe];exact Nat.le_mul_of_pos_right _ (by omega)
         have hsM:sN*M<=sN*L:=Nat.mul_le_mul_left _ hML
         have hLc:L=M*c4:=by rw [hLe,hMe,hc4]
         have HLn:=hid (And.intro heq (And.intro hnk (And.intro hsL (And.intro hsKC (And.intro hkcL (And.intro hsM hLc))))))
         have HMe:=hid hMe
         have HC4:=hid hc4
         have HS:=hid hs
         rw [<- heq]at HSz
         have hl0:¬(l.length:Int)<l.length:=by omega
         have hnl:(n:Int)<=8388608:=by omega
         have hwM:IntKind.i64.wrap ((k:Int)+m)=(M:Int):=by rw [show(k:Int)+m=(M:Int) by omega];exact wrap_i64 _ (by omega)
         have hwc:IntKind.i64.wrap ((c:Int)+4)=(c4:Int):=by rw [show(c:Int)+4=(c4:Int) by omega];exact wrap_i64 _ (by omega)
         have hM5:M<=255:=by omega
         have hc45:c4<=4100:=by omega
         have hc41:5<=c4:=by omega
         have hkM:k<=M:=by omega
         clear hs q1 q2 q3 q4 hlim hsh hlo heq hsN hLe hKC hsL hkcL hsKC hML hsM hnk hMe hc4 hLc
         go_enter Tryz.func43, Tryz.ntmps43
         go_wp2_with fail
         refine(HSz.out _).mono ?_
         rintro e w1 ⟨rfl,hf1⟩
         go_wp2_with fail
         go_loopw [15,16,17] (fun ov bv av wr=>∃ (s:Nat) (out:List UInt8) (bad:List Nat),s<=sN/\av=N (s*L)/\Ow wr w.heap.size eB ov out/\Ow wr w.heap.size eJ bv bad/\Hid (out.length=s*KC)/\Hid (bad.length<=s*M)/\Hid (readGo k m c l (sN - s) s out bad=readGo k m c l sN 0 [] [])/\Fr w wr) (fun _ _ av _=>l.length - (intOf av).toNat)
         case atStart=>exact⟨0,[],[],Nat.zero_le _,by rw [Nat.zero_mul];rfl,Ow.nil,Ow.nil,by show _=_;simp,Nat.zero_le _,rfl,hf1⟩
         case round=>
          clear hf1 HSz
          obtain⟨s,out,bad,hsle,rfl,hO,hB,hOl,hBd,hGo,hf⟩:=hrel
          by_cases hlt:s<sN
          · obtain⟨l1,l2,l3,l4,l5,l6,l7⟩:=HLn.out
            have hsL1:s*L+L<=l.length:=by
             rw [l1]
             have:=Nat.mul_le_mul_right L (show s+1<=sN from hlt)
             rw [Nat.add_mul,Nat.one_mul]at this
             exact this
            have hskm:s*M<=sN*M:=Nat.mul_le_mul_right _ hsle
            have hsKC:s*KC<=sN*KC:=Nat.mul_le_mul_right _ hsle
            have hb5:bad.length<=4000:=by have:=hBd.out;omega
            have ho5:out.length<=4000:=by have:=hOl.out;omega
            obtain⟨f,hfe⟩:∃ f,sN - s=f+1:=⟨sN - s - 1,by omega⟩
            have hfe2:sN - (s+1)=f:=by omega
            have HGo:=hGo.out
            rw [hfe]at HGo
            have HSt:=hid (fun h=>HGs.out f s out bad h)
            have HSp:=hid (fun h=>HGe.out f s out bad h)
            rw [<- HMe.out]at HSt
            have HFl:=hid (fun h=>HSl.out (s*L) hsL1 h)
            have hs1:(s+1)*L=s*L+L:=by rw [Nat.add_mul,Nat.one_mul]
            have hs2:(s+1)*KC=s*KC+KC:=by rw [Nat.add_mul,Nat.one_mul]
            have hs3:(s+1)*M=s*M+M:=by rw [Nat.add_mul,Nat.one_mul]
            have hAD:s*L=s*M*c4:=by rw [l7,Nat.mul_assoc]
            have HGo2:=hid HGo
            have HNum:=hid (And.intro hs1 (And.intro hs2 (And.intro hs3 hfe2)))
            have HAD:=hid (And.intro hAD (And.intro l7 hsL1))
            clear l1 l2 l3 l4 l5 l6 l7 hskm hsKC HGo hGo hfe hfe2 hs1 hs2 hs3 hAD
            obtain⟨A,hA⟩:∃ A,A=s*L:=⟨_,rfl⟩
            obtain⟨D,hD⟩:∃ D,D=s*M:=⟨_,rfl⟩
            have HA:=hid (And.intro hA hD)
            rw [<- hA]at HAD HSt HSp HFl hsL1 ⊢
            rw [<- hD]at HAD HSt
            clear hA hD
            have hAl:(A:Int)<l.length:=by omega
            have hAl2:A+L<=4000:=by omega
            have hov:=hO.lt
            have hwsz:=hf.size
            have HO:=hid hO
            have HB:=hid hB
            clear hO hB hsL1
            go_wp2_with fail
            obtain⟨wo,hwo⟩:∃ wo:World,wo=wr:=⟨_,rfl⟩
            rw [<- hwo]at HO HB hf hov hwsz ⊢
            clear hwo
            go_loopw [16,18,19,20,21] (fun bv' pv gv nv iv wx=>∃ (i:Nat) (ps:List Hd),i<=M/\iv=N i/\nv=N (badG (goodS l c A i) 0).length/\Ow wx w.heap.size eJ bv' (bad++badG (goodS l c A i) D)/\Ow wx wo.heap.size eHB pv ps/\Owns wx wo.heap.size eB ps (partS l c A i)/\Ow wx wo.heap.size eO gv (goodS l c A i)/\Ow wx w.heap.size eB u15 out/\wo.heap.size<=wx.heap.size/\Fr w wx) (fun _ _ _ _ iv _=>M - (intOf iv).toNat)
            case atStart=>exact⟨0,[],Nat.zero_le _,rfl,rfl,by simpa [badG,goodS] using HB.out,Ow.nil,⟨rfl,fun t a=>by simp at a⟩,Ow.nil,HO.out,Nat.le_refl _,hf⟩
            case round=>
             clear HO HB
             obtain⟨i,ps,hi,rfl,rfl,hB,hP,hRw,hG,hO,hsz,hfx⟩:=hrel
             by_cases hlt2:i<M
             · have hiL:i*c4+c4<=L:=by
                 rw [HAD.out.2.1]
                 have:=Nat.mul_le_mul_right c4 (show i+1<=M from hlt2)
                 rw [Nat.add_mul,Nat.one_mul]at this
                 exact this
               have hcl:=chunk_len l c A i (by rw [<- HC4.out];have:=HAD.out.2.2;omega)
               have HGS:=hid (goodS_succ l c A i)
               have HPS:=hid (partS_succ l c A i)
               have HBS:=hid (badG_snoc (goodS l c A i) (okCut (chunkS l c A i)) D)
               have HBS0:=hid (badG_snoc (goodS l c A i) (okCut (chunkS l c A i)) 0)
               have hgl:=goodS_len l c A i
               have hpl:=partS_len l c A i
               have hpsl:ps.length=i:=by rw [hRw.1,hpl]
               have hcnt:(badG (goodS l c A i) 0).length<=255:=by have:=badG_len (goodS l c A i) 0;omega
               have hbc:=badG_cnt (goodS l c A i) D
               have herrc:errCut (chunkS l c A i)=if okCut (chunkS l c A i)then 0 else 5:=by unfold errCut;simp [show ¬(chunkS l c A i).length<4 by rw [hcl];omega]
               have HCut:=hid (fun W u (h:See W eB u (chunkS l c A i))=>RCut_any u (chunkS l c A i) W h (by rw [hcl];omega))
               have HErr:=hid herrc
               obtain⟨P,hPe⟩:∃ P,P=i*c4:=⟨_,rfl⟩
               have hq1:A+P=(D+i)*c4:=by rw [hPe,Nat.add_mul,<- HAD.out.1]
               rw [<- hPe]at hiL
               obtain⟨F,hF⟩:∃ F,F=A+P:=⟨_,rfl⟩
               have hFc:F+c4<=l.length:=by rw [hF];have:=HAD.out.2.2;omega
               obtain⟨fa,fc,hmid,hms⟩:=run_mid eB 22 Tryz.underlying22 HS.out F (F+c4) (by omega) hFc
               have hce:(l.take (F+c4)).drop F=chunkS l c A i:=by
                unfold chunkS
                rw [List.drop_take,Nat.add_sub_cancel_left,hF,hPe,HC4.out]
               rw [hce,Nat.add_sub_cancel_left]at hms
               rw [Nat.add_sub_cancel_left]at hmid
               have HSe:=hid (fun W (h:Fr w W)=>hms.fr h)
               have hw2:IntKind.i64.wrap ((i:Int)*c4)=(P:Int):=by rw [hPe,Int.natCast_mul];exact IntWalk.i64_in _ (by rw [<- Int.natCast_mul,<- hPe];omega)
               have hw3:IntKind.i64.wrap ((A:Int)+P)=(F:Int):=by rw [hF,IntWalk.i64_in _ (by omega)];omega
               have hw4:IntKind.i64.wrap ((F:Int)+c)=(F:Int)+c:=IntWalk.i64_in _ (by omega)
               have hw5:IntKind.i64.wrap ((F:Int)+c+4)=((F+c4:Nat):Int):=by have:=HC4.out;rw [IntWalk.i64_in _ (by omega)];omega
               obtain⟨DI,hDI⟩:∃ x,x=D+i:=⟨_,rfl⟩
               have hDi:D+i<=4000:=by
                have h1:(D+i)*1<=(D+i)*c4:=Nat.mul_le_mul_left _ (by omega)
                omega
               have HQ2:Hid (wrap64 ((F:Int) / (c4:Int))=(DI:Int)):=by
                show _=_
                rw [hF,hq1,Int.natCast_mul,Int.mul_ediv_cancel _ (by omega),<- hDI]
                exact IntWalk.wrap64_in _ (by omega)
               have hF4:F<=4000:=by omega
               have HDI:=hid hDI
               obtain⟨F4,hF4e⟩:∃ x,x=F+c4:=⟨_,rfl⟩
               rw [<- hF4e]at hmid hw5 hFc
               have i1:(i:Int)<M:=by omega
               have i2:(F:Int)<=F4:=by omega
               have i3:(F4:Int)<=l.length:=by omega
               have hbg:(badG (goodS l c A i) D).length<=255:=by rw [hbc];exact hcnt
               have HGl:=hid (And.intro hgl (And.intro hpl hpsl))
               clear hcl hPe hq1 hF hDI hDi hF4e hce hms herrc hgl hpl hpsl hbc hiL
               generalize badG (goodS l c A i) D=bG at *
               obtain⟨cnt,hcte⟩:∃ x,x=(badG (goodS l c A i) 0).length:=⟨_,rfl⟩
               rw [<- hcte]at hcnt ⊢
               have HCt:=hid hcte
               clear hcte
               have HC1:=hid (HCut.out wr (.slice fa c4 fc) (HSe.out wr hfx))
               have HMid:=hid hmid
               generalize errCut (chunkS l c A i)=er at *
               generalize okCut (chunkS l c A i)=ok at *
               generalize cutB (chunkS l c A i)=cu at *
               generalize goodS l c A i=G at *
               generalize partS l c A i=PS at *
               clear HCut HSe
               go_wp2_with fail
               refine HC1.out.mono ?_
               rintro e w2 ⟨u,rfl,hO5,hf2⟩
               obtain⟨ua,uc,hu⟩:=hO5.shape'
               subst hu
               have hP2:=hP.fr hf2
               have hR2:=hRw.fr hf2
               have hG2:=hG.fr hf2
               have hO2:=hO.fr hf2
               have hB2:=hB.fr hf2
               have hfx2:=hfx.trans hf2
               have hsz2:=Nat.le_trans hsz hf2.size
               have HX:=hid (And.intro hR2 (And.intro hO2 (And.intro hO5 hB2)))
               clear hP hRw hG hO hB hO5 hR2 hO2 hB2 hmid HC1
               go_wp2_with (at_builtin;refine wpList_app1 eHB rfl (.tmp 85) (.tmp 87) 31 rfl Tryz.underlying31 wo.heap.size rfl hP2 [⟨ua,cu.length,uc⟩] _ _ _ rfl rfl rfl ?c1 hsz2 ?_)
               case c1=>have:=HGl.out.2.2;simp;omega
               intro v6 w6 hap6
               obtain⟨hR2,hO2,hO5,hB2⟩:=HX.out
               have hR6:=hR2.app hP2 hap6 (by decide)
               have hU6:=own_app hO5 hP2 hap6 (by decide)
               have hO6:=own_app hO2 hP2 hap6 (by decide)
               have hB6:=own_app hB2 hP2 hap6 (by decide)
               have hG6:=own_app hG2 hP2 hap6 (by decide)
               have hfx6:Fr w w6:=hap6.below hP2 hfx2 hwsz (Nat.le_trans hwsz hsz2)
               have hsz6:=Nat.le_trans hsz2 hap6.size
               have hP6:=hap6.own
               have hRs:=hR6.snoc (x:=⟨ua,cu.length,uc⟩) (hU6.rebase (Nat.le_trans hsz (Nat.le_refl _)))
               clear hap6 hR2 hO2 hO5 hB2 HX hR6 hU6 hP2 hG2 hfx2 hsz2
               obtain⟨va6,vc6,hv6⟩:=hP6.shape'
               rw [List.length_append,List.length_singleton]at hv6
               subst hv6
               have HX:=hid (And.intro hRs (And.intro hO6 (And.intro hB6 (And.intro hP6 hfx6))))
               clear hRs hO6 hB6 hP6
               cases ok with
               | true=>
                have her:er=0:=HErr.out
                subst her
                go_wp2_with (at_builtin;refine wpList_app1 eO rfl (.tmp 89) (.tmp 92) 65 rfl Tryz.underlying65 wo.heap.size rfl hG6 [true] _ _ _ rfl rfl rfl ?c2 hsz6 ?_)
                case c2=>have:=HGl.out.1;simp;omega
                intro v7 w7 hap7
                obtain⟨hRs,hO6,hB6,hP6,hfx6⟩:=HX.out
                have hfx7:Fr w w7:=hap7.below hG6 hfx6 hwsz (Nat.le_trans hwsz hsz6)
                have hsz7:=Nat.le_trans hsz6 hap7.size
                have hR7:=hRs.app hG6 hap7 (by decide)
                have hO7:=own_app hO6 hG6 hap7 (by decide)
                have hB7:=own_app hB6 hG6 hap7 (by decide)
                have hP7:=own_app hP6 hG6 hap7 (by decide)
                have hG7:=hap7.own
                clear hap7 hRs hO6 hB6 hP6 HX hG6 hfx6
                have HF:=hid (And.intro hR7 (And.intro hO7 (And.intro hB7 (And.intro hP7 (And.intro hG7 (And.intro hsz7 hfx7))))))
                clear hR7 hO7 hB7 hP7 hG7 hsz7 hfx7
                go_wp2_with fail
                go_roundw
                case rel=>
                 obtain⟨hR7,hO7,hB7,hP7,hG7,hsz7,hfx7⟩:=HF.out
                 refine⟨i+1,ps++[⟨ua,cu.length,uc⟩],by omega,by go_num,?_,?_,hP7,?_,?_,hO7,hsz7,hfx7⟩
                 · rw [HGS.out,HBS0.out,HCt.out];rfl
                 · rw [HGS.out,HBS.out];exact hB7
                 · rw [HPS.out];exact hR7
                 · rw [HGS.out];exact hG7
                case measure=>simp [intOf];omega
               | false=>
                have her:er=5:=HErr.out
                subst her
                go_wp2_with (at_builtin;refine wpList_app1 eO rfl (.tmp 89) (.tmp 92) 65 rfl Tryz.underlying65 wo.heap.size rfl hG6 [false] _ _ _ rfl rfl rfl ?c3 hsz6 ?_)
                case c3=>have:=HGl.out.1;simp;omega
                intro v7 w7 hap7
                obtain⟨hRs,hO6,hB6,hP6,hfx6⟩:=HX.out
                have hfx7:Fr w w7:=hap7.below hG6 hfx6 hwsz (Nat.le_trans hwsz hsz6)
                have hsz7:=Nat.le_trans hsz6 hap7.size
                have hR7:=hRs.app hG6 hap7 (by decide)
                have hO7:=own_app hO6 hG6 hap7 (by decide)
                have hB7:=own_app hB6 hG6 hap7 (by decide)
                have hP7:=own_app hP6 hG6 hap7 (by decide)
                have hG7:=hap7.own
                obtain⟨ga7,gc7,hv7⟩:=hG7.shape'
                rw [List.length_append,List.length_singleton]at hv7
                subst hv7
                clear hap7 hRs hO6 hB6 hP6 HX hG6 hfx6
                have HF:=hid (And.intro hR7 (And.intro hO7 (And.intro hP7 (And.intro hG7 (And.intro hsz7 hfx7)))))
                have hq3:=HQ2.out
                have hwsz7:=Nat.le_trans hwsz hsz7
                have hbl7:(bad++bG).length<=4255:=by rw [List.length_append];omega
                have hc40:¬(c4:Int)=0:=by omega
                clear hR7 hO7 hP7 hG7 hsz7 hfx7
                go_wp2_with (at_builtin;refine wpList_app1 eJ rfl (.tmp 96) (.tmp 101) 30 rfl Tryz.underlying30 w.heap.size rfl hB7 [DI] _ _ _ rfl rfl rfl ?ca hwsz7 ?_)
                case ca=>simp at hbl7 ⊢;omega
                intro v8 w8 hap8
                obtain⟨hR7,hO7,hP7,hG7,hsz7,hfx7⟩:=HF.out
                have hfx8:Fr w w8:=hap8.below hB7 hfx7 (Nat.le_refl _) hwsz7
                have hsz8:=Nat.le_trans hsz7 hap8.size
                have hR8:=hR7.app hB7 hap8 (by decide)
                have hO8:=own_app hO7 hB7 hap8 (by decide)
                have hP8:=own_app hP7 hB7 hap8 (by decide)
                have hG8:=own_app hG7 hB7 hap8 (by decide)
                have hB8:=hap8.own
                rw [HDI.out]at hB8
                first | rw [List.append_assoc]at hB8 | skip
                have HF2:=hid (And.intro hR8 (And.intro hO8 (And.intro hP8 (And.intro hG8 (And.intro hsz8 (And.intro hfx8 hB8))))))
                have hwn:IntKind.i64.wrap ((cnt:Int)+1)=(cnt:Int)+1:=IntWalk.i64_in _ (by omega)
                clear hR7 hO7 hP7 hG7 hsz7 hfx7 hap8 hB7 hR8 hO8 hP8 hG8 hsz8 hfx8 hB8 HF
                go_wp2_with fail
                go_roundw
                case rel=>
                 obtain⟨hR8,hO8,hP8,hG8,hsz8,hfx8,hB8⟩:=HF2.out
                 refine⟨i+1,ps++[⟨ua,cu.length,uc⟩],by omega,by go_num,?_,?_,hP8,?_,?_,hO8,hsz8,hfx8⟩
                 · rw [HGS.out,HBS0.out,HCt.out,if_neg (by simp),List.length_append];rfl
                 · rw [HGS.out,HBS.out,HGl.out.1];exact hB8
                 · rw [HPS.out];exact hR8
                 · rw [HGS.out];exact hG8
                case measure=>simp [intOf];omega
             · have hiM:i=M:=by omega
               subst hiM
               have hnl3:¬((i:Int)<i):=by omega
               have hgb:=goods_bads (goodS l c A i) 0
               rw [goodS_len]at hgb
               have hgl:=goodS_len l c A i
               have hpl:=partS_len l c A i
               have hpsl:ps.length=i:=by rw [hRw.1,hpl]
               have hAk:A+i*(c+4)<=l.length:=by
                have h1:=HAD.out.2.2
                have h2:=HAD.out.2.1
                rw [HC4.out]at h2
                rw [<- h2];exact h1
               have HDam:=hid (stripeR_dam k m c l A)
               have HSok:=hid (stripeR_ok k m c l A)
               have HSbad:=hid (stripeR_bad k m c l A)
               have hpc:=part_len l c A i hAk
               have hBadE:=badS_eq l c A i D
               have HOk:=hid (fun h=>RMend_ok k m c u18 u19 ps (partS l c A i) (goodS l c A i) wr hk hkm (by omega) (hRw.sees2 hP.see) hG.see (by rw [hpsl];exact HMe.out) (by rw [hgl];exact HMe.out) hpc h)
               rw [<- HMe.out]at HDam HSok HSbad
               have hnl:=nowL_len k m c ((goodsL (goodS l c A i)).take k) (atL ((goodsL (goodS l c A i)).take k) (partS l c A i))
               rw [<- HMe.out]at hnl
               have HNC:=hid (fun(hno:¬(goodsL (goodS l c A i)).length<k)=>nowL_all k m c ((goodsL (goodS l c A i)).take k) (atL ((goodsL (goodS l c A i)).take k) (partS l c A i)) (by rw [atL_len,List.length_take];omega) (atL_all (goodS l c A i) (partS l c A i) c _ (fun r hr=>List.mem_of_mem_take hr) hpc (by rw [hgl,hpl])))
               have HLs:=hid (And.intro hpsl (And.intro hgl (And.intro hnl hpl)))
               rw [<- hBadE]at hB
               have HbS:=hid (show(badS l c A i D).length<=i from by rw [badS_eq];exact Nat.le_trans (badG_len _ _) (Nat.le_of_eq (goodS_len l c A i)))
               have hMk:=HMe.out
               obtain⟨cnt,hcte⟩:∃ x,x=(badG (goodS l c A i) 0).length:=⟨_,rfl⟩
               rw [<- hcte]at hgb ⊢
               have hsP:=hP.see
               have hsG:=hG.see
               clear hpsl hgl hpl hnl hpc hBadE hcte hP hG hAk
               generalize nowL k m c ((goodsL (goodS l c A i)).take k) (atL ((goodsL (goodS l c A i)).take k) (partS l c A i))=NW at *
               generalize goodS l c A i=G at *
               generalize partS l c A i=PS at *
               generalize badS l c A i D=bS at *
               by_cases hdam:m<cnt
               · have hno:(goodsL G).length<k:=by omega
                 have HRE:Hid (readS k m c n l=(12,[],[])):=by
                  show _=_
                  have h1:=HDam.out hno
                  rw [HR.out]
                  simp only [<- HGo2.out,HSp.out (by rw [h1];simp),h1]
                  rfl
                 have hd1:(m:Int)<cnt:=by omega
                 clear hgb hdam HDam HSok HSbad HOk HSp HSt hno HR hMk
                 go_wp2_with fail
                 go_ret3
                 rw [HRE.out]
                 exact⟨_,_,rfl,Ow.nil,Ow.nil,hfx⟩
               · have hyes:k<=(goodsL G).length:=by omega
                 have hno:¬(goodsL G).length<k:=by omega
                 have hd1:¬(m:Int)<cnt:=by omega
                 have HO2:=hid (HOk.out hyes)
                 obtain⟨pa,pc,hpv,_,_,_⟩:=hsP.shape
                 obtain⟨ga,gc,hgv,_,_,_⟩:=hsG.shape
                 rw [HLs.out.1]at hpv
                 rw [HLs.out.2.1]at hgv
                 subst hpv hgv
                 have hov:=hO.lt
                 have HX:=hid (And.intro hO (And.intro hB hRw))
                 have HHy:=hid (And.intro hyes hno)
                 clear HOk HDam hgb hdam hyes hno hO hB hRw hMk
                 go_wp2_with fail
                 refine HO2.out.mono ?_
                 rintro e w2 ⟨v1,rfl,xs,hO1,hOs1,hf2⟩
                 have hxl:xs.length=i:=by rw [hOs1.1,HLs.out.2.2.1]
                 obtain⟨na,nc,hnv⟩:=hO1.shape'
                 rw [hxl]at hnv
                 subst hnv
                 have HXl:=hid hxl
                 have sN:=hO1.see
                 have sP:=hsP.fr hf2
                 have sG:=hsG.fr hf2
                 obtain⟨hO,hB,hRw⟩:=HX.out
                 have hO2:=hO.fr hf2
                 have hB2:=hB.fr hf2
                 have hR2:=hRw.fr hf2
                 have hfx2:=hfx.trans hf2
                 have hszr:=hf2.size
                 have HY:=hid (And.intro hO2 (And.intro hB2 (And.intro hOs1 hO1)))
                 clear hxl hO1 HO2 hsP hsG hO hB hRw HX hf2 hO2 hB2 hfx
                 go_wp2_with fail
                 go_loopw [27] (fun jv wx=>∃ j:Nat,j<=i/\jv=N j/\(∀ t,t<j->G.getD t false=true->NW.getD t []=PS.getD t [])/\Fr w2 wx) (fun jv _=>i - (intOf jv).toNat)
                 case atStart=>exact⟨0,Nat.zero_le _,rfl,fun j h=>absurd h (Nat.not_lt_zero j),Fr.refl _⟩
                 case round=>
                  obtain⟨j,hj,rfl,hsame,hf⟩:=hrel
                  by_cases hlt3:j<i
                  · have hiX:j<xs.length:=by rw [HXl.out];exact hlt3
                    have hiG:j<G.length:=by rw [HLs.out.2.1];exact hlt3
                    have hiP:j<ps.length:=by rw [HLs.out.1];exact hlt3
                    have hiN:j<NW.length:=by rw [HLs.out.2.2.1];exact hlt3
                    have hiS:j<PS.length:=by rw [HLs.out.2.2.2];exact hlt3
                    obtain⟨nb,noff,ncap,hnv,e1⟩:=(sN.fr hf).cell1 Hd.v rfl j hiX
                    obtain⟨gb,goff,gcap,hgv,e2⟩:=(sG.fr hf).cell1 (fun b=>.bool b) rfl j hiG
                    obtain⟨pb,poff,pcap,hpv,e3⟩:=(sP.fr hf).cell1 Hd.v rfl j hiP
                    have hcv1:=fun nq=>conv_at xs[j].v (NW[j]'hiN) (wr.drewN nq) ((HY.out.2.2.1.2 j hiX hiN).see.fr (hf.drewN nq))
                    have hcv2:=fun nq=>conv_at ps[j].v (PS[j]'hiS) (wr.drewN nq) ((hR2.2 j hiP hiS).see.fr (hf.drewN nq))
                    simp only [Value.slice.injEq]at hnv hgv hpv
                    obtain⟨rfl,hz1,rfl⟩:=hnv
                    obtain⟨rfl,hz2,rfl⟩:=hgv
                    obtain⟨rfl,hz3,rfl⟩:=hpv
                    have HgG:=hid (getD_at G j false hiG)
                    have HgN:=hid (getD_at NW j [] hiN)
                    have HgS:=hid (getD_at PS j [] hiS)
                    have HiG:=hid hiG
                    have i1:(j:Int)<i:=by omega
                    have i2:(0:Int)<=j:=by omega
                    obtain⟨xh,hxh⟩:∃ x:Hd,x=xs[j]'hiX:=⟨_,rfl⟩
                    obtain⟨ph,hph⟩:∃ x:Hd,x=ps[j]'hiP:=⟨_,rfl⟩
                    obtain⟨gg,hgg⟩:∃ x:Bool,x=G[j]'hiG:=⟨_,rfl⟩
                    obtain⟨nx,hnx⟩:∃ x:List UInt8,x=NW[j]'hiN:=⟨_,rfl⟩
                    obtain⟨sx,hsx⟩:∃ x:List UInt8,x=PS[j]'hiS:=⟨_,rfl⟩
                    have e2':wr.cell? ⟨gb,goff+j,none⟩=some (.bool (G[j]'hiG)):=e2
                    rw [<- hxh]at e1 hcv1
                    rw [<- hph]at e3 hcv2
                    rw [<- hgg]at e2' HgG
                    rw [<- hnx]at hcv1 HgN
                    rw [<- hsx]at hcv2 HgS
                    clear hz1 hz2 hz3 hxh hph hgg hnx hsx hiX hiG hiP hiN hiS sN sG sP hOs1 hR2 e2
                    obtain⟨xa,xn,xc⟩:=xh
                    obtain⟨qa,qn,qc⟩:=ph
                    simp only [Hd.v]at e1 e3 hcv1 hcv2
                    cases gg
                    · go_wp2_with fail
                      go_quiet (fail)
                      go_wp2_with fail
                      go_roundw
                      case rel => exact ⟨j + 1, by omega, by go_num, (fun t ht hg => by
                       rcases Nat.lt_or_ge t j with h | h
                       · exact hsame t h hg
                       · obtain rfl : t = j := by omega
                         rw [HgG.out] at hg; cases hg), hf.drewN _⟩
                      case measure=>simp [intOf];omega
                    · by_cases heq:nx=sx
                      · have hb1:(nx == sx)=true:=by simp [heq]
                        have hb2:(nx != sx)=false:=by simp [heq]
                        have HEq:=hid heq
                        clear heq
                        go_wp2_with fail
                        go_quiet (fail)
                        go_wp2_with fail
                        go_roundw
                        case rel => exact ⟨j + 1, by omega, by go_num, (fun t ht hg => by
                         rcases Nat.lt_or_ge t j with h | h
                         · exact hsame t h hg
                         · obtain rfl : t = j := by omega
                           rw [HgN.out, HgS.out, HEq.out]), hf.drewN _⟩
                        case measure=>simp [intOf];omega
                      · have hb1:(nx == sx)=false:=by simp [heq]
                        have hb2:(nx != sx)=true:=by simp [heq]
                        have hbad:=HSbad.out HHy.out.2 (sameS_no NW PS G j HiG.out HgG.out (by rw [HgN.out,HgS.out];exact heq))
                        have HRE:Hid (readS k m c n l=(2,[],[])):=by
                         show _=_
                         rw [HR.out]
                         simp only [<- HGo2.out,HSp.out (by rw [hbad];simp),hbad]
                         rfl
                        clear heq hbad HSbad HSok HSp HSt HR
                        go_wp2_with fail
                        go_quiet (fail)
                        go_wp2_with fail
                        go_ret3
                        rw [HRE.out]
                        exact⟨_,_,rfl,Ow.nil,Ow.nil,hfx2.trans (hf.drewN _)⟩
                  · have hjM:j=i:=by omega
                    subst hjM
                    have hnl3:¬((j:Int)<j):=by omega
                    have HRE:=hid (HSok.out HHy.out.2 (sameS_yes NW PS G (fun t ht hg=>hsame t (by rw [<- HLs.out.2.1];exact ht) hg)))
                    have hnc:=HNC.out HHy.out.2
                    have hNl:=HLs.out.2.2.1
                    have hxs:=HXl.out
                    obtain⟨hO2,hB2,hOs1,hO1⟩:=HY.out
                    have hO3:=hO2.fr hf
                    have hB3:=hB2.fr hf
                    have hQ3:=hO1.fr hf
                    have hRA:=(hOs1.rows (fun b e=>(hov b e).2)).fr hf
                    have hfx3:=hfx2.trans hf
                    have hwr3:=hfx3.size
                    have HNc := hid (fun t (ht : t ≤ k) => show (NW.take t).flatten.length ≤ 4000 from by
                     rw [flat_all c (NW.take t) (fun p hp => hnc p (List.mem_of_mem_take hp)), List.length_take, hNl]
                     have h1 : min t j * c ≤ j * c4 := Nat.mul_le_mul (by omega) (by rw [HC4.out]; omega)
                     have h2 := HAD.out.2.1
                     omega)
                    have HNS := hid (fun t (ht : t < NW.length) => show (NW.take (t + 1)).flatten = (NW.take t).flatten ++ NW[t] from by
                     rw [List.take_add_one, List.getElem?_eq_getElem ht, List.flatten_append]; simp)
                    have HNl:=hid hNl
                    have Hxs:=hid hxs
                    clear hsame HSok HSbad HNC hnc hNl hxs hO2 hB2 hOs1 hO1 HY sN sP sG hR2 hf hfx2 hov
                    go_wp2_with fail
                    go_loopw [15,28] (fun ov4 tv wx=>∃ t:Nat,t<=k/\tv=N t/\Ow wx w.heap.size eB ov4 (out++(NW.take t).flatten)/\(∃ W0,RowsA wx W0 eB xs NW ov4/\Ow wx W0 eHB (.slice na j nc) xs)/\Ow wx w.heap.size eJ u16 (bad++bS)/\Fr w wx) (fun _ tv _=>k - (intOf tv).toNat)
                    case atStart=>exact⟨0,Nat.zero_le _,rfl,by simpa using hO3,⟨_,hRA,hQ3⟩,hB3,hfx3⟩
                    case round=>
                     clear hO3 hB3 hQ3 hRA hfx3 hwr3
                     obtain⟨t,ht,rfl,hO4,⟨W0,hRA,hQ4⟩,hB4,hf4⟩:=hrel
                     by_cases hlt4:t<k
                     · have htX:t<xs.length:=by rw [Hxs.out];omega
                       have htN:t<NW.length:=by rw [HNl.out];omega
                       obtain⟨nb,noff,ncap,hnv,e1⟩:=hQ4.see.cell1 Hd.v rfl t htX
                       have hrow:=(hRA.2 t htX htN).1.see
                       have hn2:=HNS.out t htN
                       have hl2:=HNc.out t ht
                       have hl3:=HNc.out (t+1) hlt4
                       rw [hn2,List.length_append]at hl3
                       have HN2:=hid hn2
                       obtain⟨xh,hxh⟩:∃ x:Hd,x=xs[t]'htX:=⟨_,rfl⟩
                       obtain⟨nx,hnx⟩:∃ x:List UInt8,x=NW[t]'htN:=⟨_,rfl⟩
                       rw [<- hxh]at e1 hrow
                       rw [<- hnx]at hrow HN2 hl3
                       simp only [Value.slice.injEq]at hnv
                       obtain⟨rfl,hz1,rfl⟩:=hnv
                       clear hz1 hxh hnx htX htN hn2
                       have HSx:=hid hrow
                       obtain⟨xa,xn,xc⟩:=xh
                       simp only [Hd.v]at e1
                       have t1:(t:Int)<k:=by omega
                       have t2:(0:Int)<=t:=by omega
                       have t3:(t:Int)<j:=by omega
                       have hbase:w.heap.size<=wr.heap.size:=hf4.size
                       have hlen4:Hid ((out++(NW.take t).flatten).length+nx.length<=2147483648):=by show _<=_;rw [List.length_append];omega
                       clear hrow hl2 hl3
                       go_wp2_with (at_builtin;refine wpList_app eB rfl (.tmp 145) (.tmp 149) 22 rfl Tryz.underlying22 w.heap.size rfl hO4 _ nx rfl HSx.out hlen4.out hbase ?_)
                       intro v5 w5 hap
                       have hRA5:=hRA.app hap
                       have hQ5:=own_app hQ4 hO4 hap (by decide)
                       have hB5:=own_app hB4 hO4 hap (by decide)
                       have hf5:Fr w w5:=hap.below hO4 hf4 (Nat.le_refl _) hbase
                       have hO5:=hap.own
                       first | rw [List.append_assoc,<- HN2.out]at hO5 | rw [<- HN2.out]at hO5
                       have HZ:=hid (And.intro hRA5 (And.intro hQ5 (And.intro hB5 (And.intro hf5 hO5))))
                       clear hap hRA hQ4 hB4 hf4 hO4 hRA5 hQ5 hB5 hf5 hO5
                       go_wp2_with fail
                       go_roundw
                       case rel=>
                        obtain⟨hRA5,hQ5,hB5,hf5,hO5⟩:=HZ.out
                        exact⟨t+1,hlt4,by go_num,hO5,⟨_,hRA5,hQ5⟩,hB5,hf5⟩
                       case measure=>simp [intOf];omega
                     · have htk:k=t:=by omega
                       subst htk
                       have hnl5:¬((k:Int)<k):=by omega
                       have hfl:=HFl.out (by rw [HRE.out])
                       have hst:=HSt.out (by rw [HRE.out])
                       rw [HRE.out]at hfl hst
                       have hfl2:(NW.take k).flatten.length=KC:=hfl
                       have hst2:readGo k m c l (f+1) s out bad=readGo k m c l f (s+1) (out++(NW.take k).flatten) (bad++bS):=hst
                       have HFin:=hid (And.intro hfl2 (And.intro hst2 (And.intro hO4 (And.intro hB4 hf4))))
                       have hLj:=HAD.out.2.1
                       have hwL:IntKind.i64.wrap ((j:Int)*(c4:Int))=(L:Int):=by rw [hLj,Int.natCast_mul];exact IntWalk.i64_in _ (by rw [<- Int.natCast_mul,<- hLj];omega)
                       have hwA:IntKind.i64.wrap ((A:Int)+(L:Int))=(A:Int)+(L:Int):=IntWalk.i64_in _ (by omega)
                       clear hfl hst hfl2 hst2 hO4 hB4 hf4 hRA hQ4 hLj HSp
                       go_wp2_with fail
                       go_roundw
                       case rel=>
                        obtain⟨hfl2,hst2,hO4,hB4,hf4⟩:=HFin.out
                        refine⟨s+1,out++(NW.take k).flatten,bad++bS,hlt,?_,hO4,hB4,?_,?_,?_,hf4⟩
                        · rw [HNum.out.1,<- HA.out.1];rfl
                        · show _=_
                          rw [List.length_append,hOl.out,hfl2,HNum.out.2.1]
                        · show _<=_
                          rw [List.length_append,HNum.out.2.2.1]
                          have:=hBd.out;have:=HbS.out;omega
                        · show _=_
                          rw [HNum.out.2.2.2,<- hst2];exact HGo2.out
                       case measure=>
                        have:=HAD.out.2.2
                        simp [intOf];omega
          · have hsN:sN=s:=by omega
            subst hsN
            obtain⟨l1,l2,l3,l4,l5,l6,l7⟩:=HLn.out
            have hon:n<=out.length:=by rw [hOl.out];exact l2
            have ho5:out.length<=4000:=by rw [hOl.out];omega
            have hg0:=hGo.out
            rw [Nat.sub_self]at hg0
            have hg1:readGo k m c l sN 0 [] []=(0,out,bad):=hg0.symm
            have HRE:Hid (readS k m c n l=if(out.drop n).all (· == 0)then(0,out.take n,bad)else(2,[],[])):=by
             show _=_
             rw [HR.out,hg1]
             rfl
            obtain⟨oa,oc,hov⟩:=hO.shape'
            subst hov
            obtain⟨hto,_⟩:=run_to eB 22 Tryz.underlying22 hO.see n hon
            have hOt:=hO.to hon
            obtain⟨ol,hol⟩:∃ ol,ol=out.length:=⟨_,rfl⟩
            have hse:=hO.see
            rw [<- hol]at hto hon ho5 hse
            rw [<- hol]
            obtain⟨A,hA⟩:∃ A,A=sN*L:=⟨_,rfl⟩
            rw [<- hA]at l1 ⊢
            have hAl:¬(A:Int)<l.length:=by omega
            have hnb:(n:Int)<=ol:=by omega
            have HOl:=hid hol
            clear l1 l2 l3 l4 l5 l6 l7 hg0 hg1 hGo hOl hBd HR HSl HGs HGe hO hol hA
            go_wp2_with fail
            go_loopw [29] (fun iv wx=>∃ i:Nat,n<=i/\i<=ol/\iv=N i/\(∀ j,n<=j->j<i->out.getD j 0=0)/\wx=wr) (fun iv _=>ol - (intOf iv).toNat)
            case atStart=>exact⟨n,Nat.le_refl _,by omega,rfl,(fun j h1 h2=>by omega),rfl⟩
            case round=>
             obtain⟨i,hni,hi,rfl,hz,hw⟩:=hrel
             subst hw
             by_cases hlt2:i<ol
             · have hiz:i<out.length:=by rw [<- HOl.out];exact hlt2
               obtain⟨b,off,cp,hv,e1⟩:=hse.cell1 Fk.u8 rfl i hiz
               rw [<- HOl.out]at hv
               simp only [Value.slice.injEq]at hv
               obtain⟨rfl,hz1,rfl⟩:=hv
               clear hz1
               have HgZ:=hid (getD_at out i 0 hiz)
               have e2:wr.cell? ⟨b,off+i,none⟩=some (.int .u8 ((out[i].toNat:Nat):Int)):=e1
               have HiZ:=hid hiz
               obtain⟨zx,hzx⟩:∃ x:UInt8,x=out[i]'hiz:=⟨_,rfl⟩
               rw [<- hzx]at e2 HgZ
               have HxZ:=hid (show zx.toNat=0->zx=0 from fun h=>UInt8.toNat_inj.1 (by rw [h];rfl))
               have HxN:=hid (show zx=0->zx.toNat=0 from fun h=>by rw [h];rfl)
               clear e1 hzx hiz
               have i1:(i:Int)<ol:=by omega
               have i2:(0:Int)<=i:=by omega
               by_cases hx:zx.toNat=0
               · rw [hx]at e2
                 have e3:wr.cell? ⟨b,off+i,none⟩=some (.int .u8 0):=e2
                 have hx0:=hid (HxZ.out hx)
                 clear e2 hx HxZ HxN
                 go_wp2_with fail
                 go_roundw
                 case rel => exact ⟨i + 1, by omega, by omega, by go_num, (fun j h1 hj => by
                  rcases Nat.lt_or_ge j i with h | h
                  · exact hz j h1 h
                  · obtain rfl : j = i := by omega
                    rw [HgZ.out, hx0.out]), by trivial⟩
                 case measure=>simp [intOf];omega
               · have hx1:¬((zx.toNat:Nat):Int)=0:=by omega
                 have hne:Hid (readS k m c n l=(2,[],[])):=by
                  show _=_
                  rw [HRE.out,if_neg]
                  intro h
                  have hid1:i - n<(out.drop n).length:=by rw [List.length_drop];have:=HiZ.out;omega
                  have h1:=List.all_eq_true.1 h ((out.drop n)[i - n]'hid1) (List.getElem_mem _)
                  have h2:=HgZ.out
                  rw [getD_at out i 0 HiZ.out]at h2
                  rw [List.getElem_drop]at h1
                  have h3:out[n+(i - n)]'(by rw [List.length_drop]at hid1;omega)=out[i]'HiZ.out:=by congr 1;omega
                  rw [h3,h2]at h1
                  exact hx (HxN.out (by simpa using h1))
                 clear hx HxZ HxN
                 go_wp2_with fail
                 go_ret3
                 rw [hne.out]
                 exact⟨_,_,rfl,Ow.nil,Ow.nil,hf⟩
             · have hio:i=ol:=by omega
               subst hio
               have hall:Hid (readS k m c n l=(0,out.take n,bad)):=by
                show _=_
                rw [HRE.out,if_pos]
                rw [List.all_eq_true]
                intro x hx
                obtain⟨j,hj,rfl⟩:=List.mem_iff_getElem.1 hx
                rw [List.length_drop]at hj
                have:=hz (n+j) (by omega) (by rw [HOl.out];omega)
                rw [getD_at out (n+j) 0 (by omega)]at this
                rw [List.getElem_drop,this];rfl
               have hnl2:¬((i:Int)<i):=by omega
               have HOt:=hid hOt
               clear hz HRE hse hOt
               go_wp2_with fail
               go_ret3
               rw [hall.out]
               exact⟨_,_,rfl,HOt.out,hB,hf⟩
set_option maxRecDepth 512
end Go.Proofs.YtijghcbpfcjjnaaGreatDoor
