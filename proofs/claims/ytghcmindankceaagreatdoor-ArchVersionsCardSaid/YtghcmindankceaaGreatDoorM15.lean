/- Parts of the proof of ArchVersions: Df Uv. -/
import Derived.Test.YtghcmindankceaaGreatDoorM14
set_option linter.unusedVariables false
set_option linter.unusedSectionVars false
set_option linter.unusedSimpArgs false
set_option maxHeartbeats 8000000
namespace Go.Proofs.YtghcmindankceaaGreatDoor
open Go.RowKit Go.Fk
set_option maxRecDepth 100000
theorem RCut_any(v:Value)(l:List UInt8)(w:World)(hs:See w eB v l)(hn:l.length<=1000000) :
  Calls Tryz.prog 37 #[v] w fun e w'=>∃ u,e=.returned (.tuple #[u,.int .i64 (errCut l:Int)])/\Ow w' w.heap.size eB u (cutB l)/\Fr w w':=by
 obtain⟨a0,cap,hv,hc1,hc2,_⟩:=hs.shape
 subst hv
 unfold maxLen at hc2
 by_cases h4:l.length<4
 · have h0:okCut l=false:=by unfold okCut;rw [decide_eq_false (by omega),Bool.false_and]
   have HE:Hid (errCut l=1):=by show _=_;unfold errCut;rw [h0];simp [h4]
   have HC:Hid (cutB l=[]):=by show _=_;unfold cutB;rw [h0];simp
   rw [HC.out,HE.out]
   have hlt:(l.length:Int)<4:=by omega
   clear h0 HE HC
   go_enter Tryz.func37, Tryz.ntmps37
   go_wp2_with fail
   go_ret2
   exact⟨_,rfl,Ow.nil,Fr.refl w⟩
 · obtain⟨n,hn4⟩:∃ n,n=l.length - 4:=⟨_,rfl⟩
   obtain⟨htr,hts⟩:=run_to eB 22 Tryz.underlying22 hs n (by omega)
   have hlen:(l.take n).length=n:=by rw [List.length_take];omega
   have hok:okCut l=decide (putB (l.take n)=l):=by unfold okCut;rw [decide_eq_true (by omega),Bool.true_and,hn4]
   have HP:=hid (fun W (h:Fr w W)=>RPut_any _ (l.take n) W (hts.fr h) (by omega))
   have HS:=hid (fun W v' (h:Fr w W) (h2:See W eB v' (putB (l.take n)))=>RSame1_any v' _ (putB (l.take n)) l W h2 (hs.fr h))
   rw [<- hok]at HS
   have HT:=hid (fun W (h:Fr w W)=>hts.fr h)
   have HE:Hid (errCut l=if okCut l then 0 else 5):=by show _=_;unfold errCut;simp [h4]
   have HC:Hid (cutB l=if okCut l then l.take n else []):=by show _=_;rw [hn4];rfl
   have hw:IntKind.i64.wrap ((l.length:Int) - 4)=(n:Int):=by rw [IntWalk.i64_in _ (by omega)];omega
   have hge:¬(l.length:Int)<4:=by omega
   have HLn:=hid hlen
   have hnb:n<=1000000:=by omega
   rw [HE.out,HC.out]
   clear HE HC hok hs hts hlen hn4 h4
   generalize okCut l=R at *
   generalize putB (l.take n)=B at *
   generalize l.take n=q at *
   go_enter Tryz.func37, Tryz.ntmps37
   go_wp2_with fail
   refine(HP.out _ (Fr.refl w)).mono ?_
   rintro e w1 ⟨v1,rfl,hO1,hf1⟩
   have HS1:=hid (HS.out w1 v1 hf1 hO1.see)
   obtain⟨p1,z1,hq1⟩:=hO1.shape'
   subst hq1
   clear hO1
   go_wp2_with fail
   refine HS1.out.mono ?_
   rintro e w2 ⟨rfl,rfl⟩
   cases R
   · go_wp2_with fail
     go_ret2
     exact⟨_,rfl,Ow.nil,hf1⟩
   · have hl:Ow (w1.alloc (.cells #[] 5)) w.heap.size eB (.slice (some ⟨w1.heap.size,0,none⟩) 0 0) []:=own_lit eB w1 #[] [] 0 rfl (Nat.zero_le _) hf1.size
     have hfa:Fr w (w1.alloc (.cells #[] 5)):=hf1.alloc _
     have hT1:=HT.out _ hfa
     go_wp2_with (at_builtin;refine wpList_app eB rfl (.tmp 16) (.tmp 21) 22 rfl Tryz.underlying22 w.heap.size rfl hl _ _ rfl hT1 ?c1 hfa.size ?_)
     case c1=>rw [HLn.out];simp;omega
     intro v5 w5 hap5
     have hf05:=hap5.below hl hfa (Nat.le_refl _) hfa.size
     have own5:Ow w5 w.heap.size eB v5 q:=by simpa using hap5.own
     obtain⟨p5,z5,hq5⟩:=own5.shape'
     subst hq5
     clear hap5 hl hT1
     go_wp2_with fail
     go_ret2
     exact⟨_,rfl,own5,hf05⟩
theorem RMark_any(v:Value)(l:List UInt8)(w:World)(hs:See w eB v l) :
  Calls Tryz.prog 30 #[v] w fun e w'=>e=.returned (.tuple #[N (markV l).1,.int .i64 ((markV l).2:Int)])/\w=w':=by
 obtain⟨a0,cap,hv,hc1,hc2,_⟩:=hs.shape
 subst hv
 unfold maxLen at hc2
 by_cases h4:l.length<=4
 · have h4':(l.length:Int)<5:=by omega
   have HE:=hid (mark_short l h4)
   generalize markV l=mv at *
   go_enter Tryz.func30, Tryz.ntmps30
   go_wp2_with fail
   go_ret2
   exact⟨by rw [HE.out];rfl,rfl⟩
 · obtain⟨b,off,cp,hv0,c0⟩:=hs.cell1 Fk.u8 rfl 0 (by omega)
   simp only [Value.slice.injEq]at hv0
   obtain⟨rfl,_,rfl⟩:=hv0
   have cN:∀ i (h:i<l.length),w.cell? ⟨b,off+i,none⟩=some (.int .u8 (l[i].toNat:Int)):=fun i h=>by
    obtain⟨b',off',cp',hv',c'⟩:=hs.cell1 Fk.u8 rfl i h
    simp only [Value.slice.injEq,Option.some.injEq,Addr.mk.injEq,and_true]at hv'
    obtain⟨⟨rfl,rfl⟩,_,_⟩:=hv'
    exact c'
   have d0:=cN 0 (by omega)
   have d1:=cN 1 (by omega)
   have d2:=cN 2 (by omega)
   have d3:=cN 3 (by omega)
   have d4:=cN 4 (by omega)
   rw [Nat.add_zero]at d0
   have ht:l.take 4=[l[0]'(by omega),l[1]'(by omega),l[2]'(by omega),l[3]'(by omega)]:=by
    apply List.ext_getElem
    · simp;omega
    · intro i hi1 hi2
      rw [List.getElem_take]
      have:i<4:=by simpa using hi2
      match i,this with
      | 0,_=>rfl
      | 1,_=>rfl
      | 2,_=>rfl
      | 3,_=>rfl
   have HMg:=hid (fun h2=>mark_magic l h4 h2)
   have HMy:=hid (fun h2=>mark_yes l h4 h2)
   have HMn:=hid (fun h2=>mark_no l h4 h2)
   rw [ht]at HMg HMy HMn
   rw [getD_at l 4 0 (by omega)]at HMy HMn
   have i0:¬(l.length:Int)<5:=by omega
   have i1:(0:Int)<l.length:=by omega
   have i2:(1:Int)<l.length:=by omega
   have i3:(2:Int)<l.length:=by omega
   have i4:(3:Int)<l.length:=by omega
   have i5:(4:Int)<l.length:=by omega
   clear cN c0 hs ht
   generalize l[0]'(by omega)=x0 at *
   generalize l[1]'(by omega)=x1 at *
   generalize l[2]'(by omega)=x2 at *
   generalize l[3]'(by omega)=x3 at *
   generalize l[4]'(by omega)=x4 at *
   generalize markV l=mv at *
   by_cases hm:x0=70/\x1=73/\x2=82/\x3=75
   · obtain⟨rfl,rfl,rfl,rfl⟩:=hm
     have e0:w.cell? ⟨b,off,none⟩=some (.int .u8 70):=d0
     have e1:w.cell? ⟨b,off+1,none⟩=some (.int .u8 73):=d1
     have e2:w.cell? ⟨b,off+2,none⟩=some (.int .u8 82):=d2
     have e3:w.cell? ⟨b,off+3,none⟩=some (.int .u8 75):=d3
     clear d0 d1 d2 d3
     by_cases hx:1<=x4.toNat/\x4.toNat<=3
     · have HE:=hid (HMy.out rfl hx)
       have hlo:¬(x4.toNat:Int)<1:=by omega
       have hhi:¬(3:Int)<x4.toNat:=by omega
       generalize x4.toNat=x at *
       go_enter Tryz.func30, Tryz.ntmps30
       go_wp2_with fail
       go_ret2
       exact⟨by rw [HE.out];rfl,rfl⟩
     · have HE:=hid (HMn.out rfl hx)
       generalize x4.toNat=x at *
       by_cases hlo:(x:Int)<1
       · go_enter Tryz.func30, Tryz.ntmps30
         go_wp2_with fail
         go_ret2
         exact⟨by rw [HE.out];rfl,rfl⟩
       · have hhi:(3:Int)<x:=by omega
         go_enter Tryz.func30, Tryz.ntmps30
         go_wp2_with fail
         go_ret2
         exact⟨by rw [HE.out];rfl,rfl⟩
   · have HE:=hid (HMg.out (fun e=>hm (by simpa using e)))
     clear HMg HMy HMn
     by_cases h0:x0=70
     · subst h0
       by_cases h1:x1=73
       · subst h1
         by_cases h2:x2=82
         · subst h2
           by_cases h3:x3=75
           · subst h3
             exact absurd ⟨rfl,rfl,rfl,rfl⟩ hm
           · have hn3:¬(x3.toNat:Int)=75:=fun e=>h3 (UInt8.toNat_inj.1 (by show x3.toNat=75;omega))
             have hb3:((x3.toNat:Int) != 75)=true:=by simpa using hn3
             clear h3
             go_enter Tryz.func30, Tryz.ntmps30
             go_wp2_with fail
             go_ret2
             exact⟨by rw [HE.out];rfl,rfl⟩
         · have hn2:¬(x2.toNat:Int)=82:=fun e=>h2 (UInt8.toNat_inj.1 (by show x2.toNat=82;omega))
           have hb2:((x2.toNat:Int) != 82)=true:=by simpa using hn2
           clear h2
           go_enter Tryz.func30, Tryz.ntmps30
           go_wp2_with fail
           go_ret2
           exact⟨by rw [HE.out];rfl,rfl⟩
       · have hn1:¬(x1.toNat:Int)=73:=fun e=>h1 (UInt8.toNat_inj.1 (by show x1.toNat=73;omega))
         have hb1:((x1.toNat:Int) != 73)=true:=by simpa using hn1
         clear h1
         go_enter Tryz.func30, Tryz.ntmps30
         go_wp2_with fail
         go_ret2
         exact⟨by rw [HE.out];rfl,rfl⟩
     · have hn0:¬(x0.toNat:Int)=70:=fun e=>h0 (UInt8.toNat_inj.1 (by show x0.toNat=70;omega))
       have hb0:((x0.toNat:Int) != 70)=true:=by simpa using hn0
       clear h0
       go_enter Tryz.func30, Tryz.ntmps30
       go_wp2_with fail
       go_ret2
       exact⟨by rw [HE.out];rfl,rfl⟩
theorem RCountB_any(v:Value)(l:List UInt8)(w:World)(hs:See w eB v l)(hn:l.length<=1000000) :
  Calls Tryz.prog 20 #[v] w fun e w'=>e=.returned (.bool (countB l))/\Fr w w':=by
 have HC:=hid (RCut_any v l w hs hn)
 have HM:=hid (fun W (h:Fr w W)=>RMark_any v l W (hs.fr h))
 have HB:Hid (countB l=(okCut l && decide (markV l=(3,0)))):=rfl
 have HZ:=hid (err_zero l)
 obtain⟨a0,cap,hv,_⟩:=hs.shape
 subst hv
 clear hs
 generalize countB l=R at *
 generalize hmv:markV l=mv at *
 obtain⟨ver,er⟩:=mv
 clear hmv
 generalize okCut l=ok at *
 generalize errCut l=ec at *
 generalize cutB l=q at *
 simp only at HM
 go_enter Tryz.func20, Tryz.ntmps20
 go_wp2_with fail
 refine(HC.out).mono ?_
 rintro e w1 ⟨u,rfl,hu,hf1⟩
 obtain⟨p1,z1,hq1⟩:=hu.shape'
 subst hq1
 clear hu
 go_wp2_with fail
 refine(HM.out _ hf1).mono ?_
 rintro e w2 ⟨rfl,rfl⟩
 have hf:=hf1
 by_cases h1:ec=0
 · have hok:=HZ.out.1 h1
   subst hok h1
   by_cases h2:er=0
   · subst h2
     by_cases h3:ver=3
     · subst h3
       have HR:Hid (R=true):=by show _=_;rw [HB.out];rfl
       go_wp2_with fail
       go_ret
       exact⟨by rw [HR.out];rfl,hf⟩
     · have h3':¬(ver:Int)=3:=by omega
       have HR:Hid (R=false):=by show _=_;rw [HB.out,Bool.true_and];exact decide_eq_false (fun e=>h3 (Prod.mk.inj e).1)
       have hb:((ver:Int) == 3)=false:=by simpa using h3'
       clear h3
       go_wp2_with fail
       go_ret
       exact⟨by rw [HR.out];rfl,hf⟩
   · have h2':¬(er:Int)=0:=by omega
     have HR:Hid (R=false):=by show _=_;rw [HB.out,Bool.true_and];exact decide_eq_false (fun e=>h2 (Prod.mk.inj e).2)
     clear h2
     go_wp2_with fail
     go_ret
     exact⟨by rw [HR.out];rfl,hf⟩
 · have hok:ok=false:=by cases ok;rfl;exact absurd (HZ.out.2 rfl) h1
   have h1':¬(ec:Int)=0:=by omega
   have HR:Hid (R=false):=by show _=_;rw [HB.out,hok];rfl
   clear h1
   go_wp2_with fail
   go_ret
   exact⟨by rw [HR.out];rfl,hf⟩
theorem RHas_any(v:Value)(l:List UInt8)(w:World)(hs:See w eB v l) :
  Calls Tryz.prog 31 #[v] w fun e w'=>e=.returned (.bool (decide (42<=l.length) && hasB l))/\Fr w w':=by
 obtain⟨a0,cap,hv,hc1,hc2,_⟩:=hs.shape
 subst hv
 unfold maxLen at hc2
 by_cases h42:l.length<42
 · have HR:Hid ((decide (42<=l.length) && hasB l)=false):=by show _=_;rw [decide_eq_false (by omega),Bool.false_and]
   have h42':¬(42:Int)<=l.length:=by omega
   rw [HR.out]
   clear h42
   go_enter Tryz.func31, Tryz.ntmps31
   go_wp2_with fail
   go_ret
   exact⟨rfl,Fr.refl w⟩
 · have h42':(42:Int)<=l.length:=by omega
   obtain⟨htr,hts⟩:=run_to eB 22 Tryz.underlying22 hs 21 (by omega)
   obtain⟨f1,f2,hfr,hfs⟩:=run_from eB 22 Tryz.underlying22 hs (l.length - 21) (by omega)
   have hw1:IntKind.i64.wrap ((l.length:Int) - 21)=((l.length - 21:Nat):Int):=by rw [show(l.length:Int) - 21=((l.length - 21:Nat):Int) by omega];exact IntWalk.i64_in _ (by omega)
   have H1:=hid (fun W (h:Fr w W)=>RCountB_any _ (l.take 21) W (hts.fr h) (by rw [List.length_take];omega))
   have H2:=hid (fun W (h:Fr w W)=>RCountB_any _ (l.drop (l.length - 21)) W (hfs.fr h) (by rw [List.length_drop];omega))
   have HR:Hid ((decide (42<=l.length) && hasB l)=(countB (l.take 21) || countB (l.drop (l.length - 21)))):=by show _=_;rw [decide_eq_true (by omega),Bool.true_and];rfl
   rw [HR.out]
   clear HR hs hts hfs h42
   generalize l.length - (l.length - 21)=m at *
   generalize countB (l.take 21)=b1 at *
   generalize countB (l.drop (l.length - 21))=b2 at *
   generalize l.length - 21=k at *
   obtain⟨R,hR⟩:∃ R,R=(b1 || b2):=⟨_,rfl⟩
   rw [<- hR]
   have HR:=hid hR
   clear hR
   go_enter Tryz.func31, Tryz.ntmps31
   go_wp2_with fail
   refine(H1.out _ (Fr.refl w)).mono ?_
   rintro e w2 ⟨rfl,hf2⟩
   cases b1 with
   | true=>
    go_wp2_with fail
    go_ret
    exact⟨by rw [HR.out];rfl,hf2⟩
   | false=>
    go_wp2_with fail
    refine(H2.out _ hf2).mono ?_
    rintro e w3 ⟨rfl,hf3⟩
    go_wp2_with fail
    go_ret
    exact⟨by rw [HR.out];rfl,hf2.trans hf3⟩
theorem THas_any(v:Value)(l:List UInt8)(w:World)(hs:See w eB v l)(ht:Crc w) :
  Calls Tryz.prog 29 #[v] w fun e w'=>e=.returned (.bool (decide (42<=l.length) && hasB l))/\Fr w w':=by
 by_cases h42:l.length<42
 · have HC:=hid (choose_short v l w hs h42)
   have HR:Hid ((decide (42<=l.length) && hasB l)=false):=by show _=_;rw [decide_eq_false (by omega),Bool.false_and]
   obtain⟨a0,cap,hv,_⟩:=hs.shape
   subst hv
   rw [HR.out]
   clear hs h42
   go_enter Tryz.func29, Tryz.ntmps29
   go_wp2_with fail
   refine(HC.out).mono ?_
   rintro e w1 ⟨rfl,hf1⟩
   go_wp2_with fail
   go_ret
   exact⟨rfl,hf1⟩
 · have HC:=hid (choose_any v l w hs (by omega) ht)
   have HR:Hid ((decide (42<=l.length) && hasB l)=hasB l):=by show _=_;rw [decide_eq_true (by omega),Bool.true_and]
   obtain⟨a0,cap,hv,_⟩:=hs.shape
   subst hv
   rw [HR.out]
   clear HR hs ht h42
   generalize headOf l=H at *
   generalize hasB l=R at *
   obtain⟨ec,hec⟩:∃ q:Nat,q=(if R then 0 else 5):=⟨_,rfl⟩
   rw [<- hec]at HC
   have HEc:=hid hec
   clear hec
   go_enter Tryz.func29, Tryz.ntmps29
   go_wp2_with fail
   refine(HC.out).mono ?_
   rintro e w1 ⟨u,rfl,h1,h2,hf1⟩
   cases R with
   | true=>
    have hz:ec=0:=HEc.out
    obtain⟨p,z,hq,_⟩:=(h1 rfl).shape
    subst hz hq
    go_wp2_with fail
    go_ret
    exact⟨rfl,hf1⟩
   | false=>
    have hz:ec=5:=HEc.out
    have hq:=h2 rfl
    subst hz hq
    go_wp2_with fail
    go_ret
    exact⟨rfl,hf1⟩
set_option maxRecDepth 512
def versV(b:List UInt8):Nat × Nat:=
 if(markV b).1=1\/(markV b).1=2 then((markV b).1,0)
 else if(decide (42<=b.length) && hasB b)=true then(3,0)
 else if(markV b).1=3 then(0,5)
 else(0,(markV b).2)
theorem vers_low(b:List UInt8)(h:(markV b).1=1\/(markV b).1=2):versV b=((markV b).1,0):=if_pos h
theorem vers_has(b:List UInt8)(h:¬((markV b).1=1\/(markV b).1=2))(h2:(decide (42<=b.length) && hasB b)=true):versV b=(3,0):=by unfold versV;rw [if_neg h,if_pos h2]
theorem vers_sum(b:List UInt8)(h:¬((markV b).1=1\/(markV b).1=2))(h2:(decide (42<=b.length) && hasB b)=false)(h3:(markV b).1=3):versV b=(0,5):=by unfold versV;rw [if_neg h,if_neg (by rw [h2];simp),if_pos h3]
theorem vers_no(b:List UInt8)(h:¬((markV b).1=1\/(markV b).1=2))(h2:(decide (42<=b.length) && hasB b)=false)(h3:¬(markV b).1=3):versV b=(0,(markV b).2):=by unfold versV;rw [if_neg h,if_neg (by rw [h2];simp),if_neg h3]
set_option maxRecDepth 100000
theorem AVersion_any(v:Value)(b:List UInt8)(w:World)(hs:See w eB v b)(ht:Crc w) :
  Calls Tryz.prog 11 #[v] w fun e w'=>e=.returned (.tuple #[N (versV b).1,.int .i64 ((versV b).2:Int)])/\Fr w w':=by
 have HM:=hid (OMarked_any v b w hs)
 have HH:=hid (fun W (h:Fr w W)=>THas_any v b W (hs.fr h) (ht.fr h))
 have V1:=hid (vers_low b)
 have V2:=hid (vers_has b)
 have V3:=hid (vers_sum b)
 have V4:=hid (vers_no b)
 obtain⟨a0,cap,hv,_⟩:=hs.shape
 subst hv
 clear hs ht
 generalize (decide (42<=b.length) && hasB b)=hb at *
 generalize versV b=V at *
 generalize (markV b).1=m at *
 generalize (markV b).2=er at *
 by_cases h1:m=1
 · have e1:=V1.out (.inl h1)
   subst e1 h1
   go_enter Tryz.func11, Tryz.ntmps11
   go_wp2_with fail
   refine(HM.out).mono ?_
   rintro e w1 ⟨rfl,hf1⟩
   go_wp2_with fail
   go_ret2
   exact⟨rfl,hf1⟩
 · by_cases h2:m=2
   · have e1:=V1.out (.inr h2)
     subst e1 h2
     go_enter Tryz.func11, Tryz.ntmps11
     go_wp2_with fail
     refine(HM.out).mono ?_
     rintro e w1 ⟨rfl,hf1⟩
     go_wp2_with fail
     go_ret2
     exact⟨rfl,hf1⟩
   · have h12:¬(m=1\/m=2):=by omega
     have j1:¬(m:Int)=1:=by omega
     have j2:¬(m:Int)=2:=by omega
     have b1:((m:Int) == 1)=false:=by simpa using j1
     have b2:((m:Int) == 2)=false:=by simpa using j2
     cases hb with
     | true=>
      have e1:=V2.out h12 rfl
      subst e1
      clear h1 h2 h12
      go_enter Tryz.func11, Tryz.ntmps11
      go_wp2_with fail
      refine(HM.out).mono ?_
      rintro e w1 ⟨rfl,hf1⟩
      have HH1:=hid (HH.out w1 hf1)
      go_wp2_with fail
      refine(HH1.out).mono ?_
      rintro e w2 ⟨rfl,hf2⟩
      go_wp2_with fail
      go_ret2
      exact⟨rfl,hf1.trans hf2⟩
     | false=>
      by_cases h3:m=3
      · have e1:=V3.out h12 rfl h3
        subst e1 h3
        clear h1 h2 h12
        go_enter Tryz.func11, Tryz.ntmps11
        go_wp2_with fail
        refine(HM.out).mono ?_
        rintro e w1 ⟨rfl,hf1⟩
        have HH1:=hid (HH.out w1 hf1)
        go_wp2_with fail
        refine(HH1.out).mono ?_
        rintro e w2 ⟨rfl,hf2⟩
        go_wp2_with fail
        go_ret2
        exact⟨rfl,hf1.trans hf2⟩
      · have e1:=V4.out h12 rfl h3
        have j3:¬(m:Int)=3:=by omega
        have b3:((m:Int) == 3)=false:=by simpa using j3
        subst e1
        clear h1 h2 h12 h3
        go_enter Tryz.func11, Tryz.ntmps11
        go_wp2_with fail
        refine(HM.out).mono ?_
        rintro e w1 ⟨rfl,hf1⟩
        have HH1:=hid (HH.out w1 hf1)
        go_wp2_with fail
        refine(HH1.out).mono ?_
        rintro e w2 ⟨rfl,hf2⟩
        go_wp2_with fail
        go_ret2
        exact⟨rfl,hf1.trans hf2⟩
theorem RVersion_any(v:Value)(b:List UInt8)(w:World)(hs:See w eB v b) :
  Calls Tryz.prog 12 #[v] w fun e w'=>e=.returned (.tuple #[N (versV b).1,.int .i64 ((versV b).2:Int)])/\Fr w w':=by
 have HM:=hid (RMark_any v b w hs)
 have HH:=hid (RHas_any v b w hs)
 have V1:=hid (vers_low b)
 have V2:=hid (vers_has b)
 have V3:=hid (vers_sum b)
 have V4:=hid (vers_no b)
 obtain⟨a0,cap,hv,_⟩:=hs.shape
 subst hv
 clear hs
 generalize (decide (42<=b.length) && hasB b)=hb at *
 generalize versV b=V at *
 generalize (markV b).1=m at *
 generalize (markV b).2=er at *
 by_cases h1:m=1
 · have e1:=V1.out (.inl h1)
   subst e1 h1
   go_enter Tryz.func12, Tryz.ntmps12
   go_wp2_with fail
   refine(HM.out).mono ?_
   rintro e w1 ⟨rfl,rfl⟩
   go_wp2_with fail
   go_ret2
   exact⟨rfl,Fr.refl _⟩
 · by_cases h2:m=2
   · have e1:=V1.out (.inr h2)
     subst e1 h2
     go_enter Tryz.func12, Tryz.ntmps12
     go_wp2_with fail
     refine(HM.out).mono ?_
     rintro e w1 ⟨rfl,rfl⟩
     go_wp2_with fail
     go_ret2
     exact⟨rfl,Fr.refl _⟩
   · have h12:¬(m=1\/m=2):=by omega
     have j1:¬(m:Int)=1:=by omega
     have j2:¬(m:Int)=2:=by omega
     have b1:((m:Int) == 1)=false:=by simpa using j1
     have b2:((m:Int) == 2)=false:=by simpa using j2
     cases hb with
     | true=>
      have e1:=V2.out h12 rfl
      subst e1
      clear h1 h2 h12
      go_enter Tryz.func12, Tryz.ntmps12
      go_wp2_with fail
      refine(HM.out).mono ?_
      rintro e w1 ⟨rfl,rfl⟩
      go_wp2_with fail
      refine(HH.out).mono ?_
      rintro e w2 ⟨rfl,hf2⟩
      go_wp2_with fail
      go_ret2
      exact⟨rfl,hf2⟩
     | false=>
      by_cases h3:m=3
      · have e1:=V3.out h12 rfl h3
        subst e1 h3
        clear h1 h2 h12
        go_enter Tryz.func12, Tryz.ntmps12
        go_wp2_with fail
        refine(HM.out).mono ?_
        rintro e w1 ⟨rfl,rfl⟩
        go_wp2_with fail
        refine(HH.out).mono ?_
        rintro e w2 ⟨rfl,hf2⟩
        go_wp2_with fail
        go_ret2
        exact⟨rfl,hf2⟩
      · have e1:=V4.out h12 rfl h3
        have j3:¬(m:Int)=3:=by omega
        have b3:((m:Int) == 3)=false:=by simpa using j3
        subst e1
        clear h1 h2 h12 h3
        go_enter Tryz.func12, Tryz.ntmps12
        go_wp2_with fail
        refine(HM.out).mono ?_
        rintro e w1 ⟨rfl,rfl⟩
        go_wp2_with fail
        refine(HH.out).mono ?_
        rintro e w2 ⟨rfl,hf2⟩
        go_wp2_with fail
        go_ret2
        exact⟨rfl,hf2⟩
set_option maxRecDepth 512
end Go.Proofs.YtghcmindankceaaGreatDoor
