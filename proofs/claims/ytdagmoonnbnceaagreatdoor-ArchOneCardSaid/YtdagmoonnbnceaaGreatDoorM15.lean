/- Parts of the proof of ArchOne: De Df Uv. -/
import Derived.Test.YtdagmoonnbnceaaGreatDoorM14
set_option linter.unusedVariables false
set_option linter.unusedSectionVars false
set_option linter.unusedSimpArgs false
set_option maxHeartbeats 8000000
set_option maxRecDepth 100000
namespace Go.Proofs.YtdagmoonnbnceaaGreatDoor
open Go.RowKit Go.Fk
theorem err_zero(l:List UInt8):(errCut l=0)↔okCut l=true:=by
 unfold errCut
 cases h:okCut l
 · simp;split <;> omega
 · simp
theorem counts_any(v:Value)(l:List UInt8)(w:World)(hs:See w eB v l)(hn:l.length<=1000000)(ht:Crc w) :
  Calls Tryz.prog 73 #[v] w fun e w'=>e=.returned (.bool (countB l))/\Fr w w':=by
 have HC:=hid (Cut_any v l w hs hn ht)
 have HM:=hid (fun W (h:Fr w W)=>OMarked_any v l W (hs.fr h))
 have HB:Hid (countB l=(okCut l && decide (markV l=(3,0)))):=rfl
 have HZ:=hid (err_zero l)
 obtain⟨a0,cap,rfl,_⟩:=hs.shape
 clear hs ht
 generalize countB l=R at *
 generalize hmv:markV l=mv at *
 obtain⟨ver,er⟩:=mv
 clear hmv
 generalize okCut l=ok at *
 generalize errCut l=ec at *
 generalize cutB l=q at *
 simp only at HM
 go_enter Tryz.func73, Tryz.ntmps73
 go_wp2_with fail
 refine(HC.out).mono ?_
 rintro e w1 ⟨u,rfl,hu,hf1⟩
 obtain⟨p1,z1,rfl⟩:=hu.shape'
 clear hu
 go_wp2_with fail
 refine(HM.out _ hf1).mono ?_
 rintro e w2 ⟨rfl,hf2⟩
 have hf:=hf1.trans hf2
 by_cases h1:ec=0
 · have hok:=HZ.out.1 h1
   subst hok h1
   by_cases h2:er=0
   · subst h2
     by_cases h3:ver=3
     · subst h3
       have HR:Hid (R=true):=by show _=_;rw [HB.out];rfl
       go_wp2_with fail
       go_ret
       exact⟨by rw [HR.out];rfl,hf⟩
     · have h3':¬(ver:Int)=3:=by omega
       have HR:Hid (R=false):=by show _=_;rw [HB.out,Bool.true_and];exact decide_eq_false (fun e=>h3 (Prod.mk.inj e).1)
       have hb:((ver:Int) == 3)=false:=by simpa using h3'
       clear h3
       go_wp2_with fail
       go_ret
       exact⟨by rw [HR.out];rfl,hf⟩
   · have h2':¬(er:Int)=0:=by omega
     have HR:Hid (R=false):=by show _=_;rw [HB.out,Bool.true_and];exact decide_eq_false (fun e=>h2 (Prod.mk.inj e).2)
     clear h2
     go_wp2_with fail
     go_ret
     exact⟨by rw [HR.out];rfl,hf⟩
 · have hok:ok=false:=by cases ok;rfl;exact absurd (HZ.out.2 rfl) h1
   have h1':¬(ec:Int)=0:=by omega
   have HR:Hid (R=false):=by show _=_;rw [HB.out,hok];rfl
   clear h1
   go_wp2_with fail
   go_ret
   exact⟨by rw [HR.out];rfl,hf⟩
theorem copies_no(v:Value)(l:List UInt8)(w:World)(hs:See w eB v l)(hl:l.length<42) :
  Calls Tryz.prog 72 #[v] w fun e w'=>e=.returned (.tuple #[.slice none 0 0,.slice none 0 0,.bool false])/\Fr w w':=by
 obtain⟨a0,cap,rfl,_⟩:=hs.shape
 have h42:(l.length:Int)<42:=by omega
 go_enter Tryz.func72, Tryz.ntmps72
 go_wp2_with fail
 exact bodyPost_ret (v:=.tuple #[.slice none 0 0,.slice none 0 0,.bool false]) (by simp [results,Tryz.results72,go_sem, *]) rfl ⟨rfl,Fr.refl w⟩
theorem copies_any(v:Value)(l:List UInt8)(w:World)(hs:See w eB v l)(hl:42<=l.length) :
  Calls Tryz.prog 72 #[v] w fun e w'=>∃ v1 v2,e=.returned (.tuple #[v1,v2,.bool true])/\See w' eB v1 (l.take 21)/\See w' eB v2 (l.drop (l.length - 21))/\Fr w w':=by
 obtain⟨a0,cap,rfl,hc1,hc2,_⟩:=hs.shape
 unfold maxLen at hc2
 have h42:¬(l.length:Int)<42:=by omega
 obtain⟨htr,hts⟩:=run_to eB 27 Tryz.underlying27 hs 21 (by omega)
 obtain⟨f1,f2,hfr,hfs⟩:=run_from eB 27 Tryz.underlying27 hs (l.length - 21) (by omega)
 have hw1:IntKind.i64.wrap ((l.length:Int) - 21)=((l.length - 21:Nat):Int):=by rw [show(l.length:Int) - 21=((l.length - 21:Nat):Int) by omega];exact IntWalk.i64_in _ (by omega)
 have HT:=hid hts
 have HF:=hid hfs
 clear hts hfs hs
 generalize l.length - (l.length - 21)=m at *
 generalize hk:l.length - 21=k at *
 clear hk
 go_enter Tryz.func72, Tryz.ntmps72
 go_wp2_with fail
 go_quiet (fail)
 go_wp2_with fail
 exact bodyPost_ret (v:=.tuple #[.slice a0 21 cap,.slice f1 m f2,.bool true]) (by simp [results,Tryz.results72,go_sem, *]) rfl ⟨_,_,rfl,HT.out.fr ((Fr.refl w).drewN _),HF.out.fr ((Fr.refl w).drewN _),(Fr.refl w).drewN _⟩
def headOf(l:List UInt8):List UInt8:=if countB (l.take 21)then l.take 21 else l.drop (l.length - 21)
def hasB(l:List UInt8):Bool:=countB (l.take 21) || countB (l.drop (l.length - 21))
theorem choose_short(v:Value)(l:List UInt8)(w:World)(hs:See w eB v l)(hl:l.length<42) :
  Calls Tryz.prog 40 #[v] w fun e w'=>e=.returned (.tuple #[.slice none 0 0,.int .i64 1])/\Fr w w':=by
 have HC:=hid (copies_no v l w hs hl)
 obtain⟨a0,cap,rfl,_⟩:=hs.shape
 clear hs
 go_enter Tryz.func40, Tryz.ntmps40
 go_wp2_with fail
 refine(HC.out).mono ?_
 rintro e w1 ⟨rfl,hf1⟩
 go_wp2_with fail
 go_ret2
 exact⟨rfl,hf1⟩
theorem choose_any(v:Value)(l:List UInt8)(w:World)(hs:See w eB v l)(hl:42<=l.length)(ht:Crc w) :
  Calls Tryz.prog 40 #[v] w fun e w'=>∃ u,e=.returned (.tuple #[u,.int .i64 ((if hasB l then 0 else 5:Nat):Int)])/\(hasB l=true->See w' eB u (headOf l))/\(hasB l=false->u=.slice none 0 0)/\Fr w w':=by
 have HC:=hid (copies_any v l w hs hl)
 have H1:=hid (fun W v1 (h:See W eB v1 (l.take 21)) (h2:Fr w W)=>counts_any v1 (l.take 21) W h (by rw [List.length_take];omega) (ht.fr h2))
 have H2:=hid (fun W v1 (h:See W eB v1 (l.drop (l.length - 21))) (h2:Fr w W)=>counts_any v1 (l.drop (l.length - 21)) W h (by rw [List.length_drop];omega) (ht.fr h2))
 have HH:Hid (hasB l=(countB (l.take 21) || countB (l.drop (l.length - 21)))):=rfl
 have HO:Hid (headOf l=if countB (l.take 21)then l.take 21 else l.drop (l.length - 21)):=rfl
 obtain⟨a0,cap,rfl,_⟩:=hs.shape
 clear hs ht
 generalize l.take 21=L1 at *
 generalize l.drop (l.length - 21)=L2 at *
 generalize countB L1=b1 at *
 generalize countB L2=b2 at *
 generalize hasB l=R at *
 generalize headOf l=H at *
 obtain⟨ec,hec⟩:∃ q:Nat,q=(if R then 0 else 5):=⟨_,rfl⟩
 rw [<- hec]
 have HEc:=hid hec
 clear hec
 go_enter Tryz.func40, Tryz.ntmps40
 go_wp2_with fail
 refine(HC.out).mono ?_
 rintro e w1 ⟨v1,v2,rfl,hs1,hs2,hf1⟩
 have H1':=hid (H1.out w1 v1 hs1 hf1)
 obtain⟨p1,z1,rfl,_⟩:=hs1.shape
 obtain⟨p2,z2,rfl,_⟩:=hs2.shape
 go_wp2_with fail
 refine(H1'.out).mono ?_
 rintro e w2 ⟨rfl,hf2⟩
 have hf02:=hf1.trans hf2
 cases b1 with
 | true=>
  have HR:Hid (R=true):=by show _=_;rw [HH.out];rfl
  have HO':Hid (H=L1):=by show _=_;rw [HO.out];rfl
  go_wp2_with fail
  go_ret2
  exact⟨_,by rw [HEc.out,HR.out];rfl,fun _=>by rw [HO'.out];exact hs1.fr hf2,fun h=>(by rw [HR.out]at h;cases h),hf02⟩
 | false=>
  have HO':Hid (H=L2):=by show _=_;rw [HO.out];rfl
  have H2':=hid (H2.out w2 _ (hs2.fr hf2) hf02)
  go_wp2_with fail
  refine(H2'.out).mono ?_
  rintro e w3 ⟨rfl,hf3⟩
  have hf03:=hf02.trans hf3
  cases b2 with
  | true=>
   have HR:Hid (R=true):=by show _=_;rw [HH.out];rfl
   go_wp2_with fail
   go_ret2
   exact⟨_,by rw [HEc.out,HR.out];rfl,fun _=>by rw [HO'.out];exact hs2.fr (hf2.trans hf3),fun h=>(by rw [HR.out]at h;cases h),hf03⟩
  | false=>
   have HR:Hid (R=false):=by show _=_;rw [HH.out];rfl
   go_wp2_with fail
   go_ret2
   exact⟨_,by rw [HEc.out,HR.out];rfl,fun h=>(by rw [HR.out]at h;cases h),fun _=>rfl,hf03⟩
theorem THas_any(v:Value)(l:List UInt8)(w:World)(hs:See w eB v l)(ht:Crc w) :
  Calls Tryz.prog 20 #[v] w fun e w'=>e=.returned (.bool (decide (42<=l.length) && hasB l))/\Fr w w':=by
 by_cases h42:l.length<42
 · have HC:=hid (choose_short v l w hs h42)
   have HR:Hid ((decide (42<=l.length) && hasB l)=false):=by show _=_;rw [decide_eq_false (by omega),Bool.false_and]
   obtain⟨a0,cap,rfl,_⟩:=hs.shape
   rw [HR.out]
   clear hs h42
   go_enter Tryz.func20, Tryz.ntmps20
   go_wp2_with fail
   refine(HC.out).mono ?_
   rintro e w1 ⟨rfl,hf1⟩
   go_wp2_with fail
   go_ret
   exact⟨rfl,hf1⟩
 · have HC:=hid (choose_any v l w hs (by omega) ht)
   have HR:Hid ((decide (42<=l.length) && hasB l)=hasB l):=by show _=_;rw [decide_eq_true (by omega),Bool.true_and]
   obtain⟨a0,cap,rfl,_⟩:=hs.shape
   rw [HR.out]
   clear HR hs ht h42
   generalize headOf l=H at *
   generalize hasB l=R at *
   obtain⟨ec,hec⟩:∃ q:Nat,q=(if R then 0 else 5):=⟨_,rfl⟩
   rw [<- hec]at HC
   have HEc:=hid hec
   clear hec
   go_enter Tryz.func20, Tryz.ntmps20
   go_wp2_with fail
   refine(HC.out).mono ?_
   rintro e w1 ⟨u,rfl,h1,h2,hf1⟩
   cases R with
   | true=>
    have hz:ec=0:=HEc.out
    obtain⟨p,z,hq,_⟩:=(h1 rfl).shape
    subst hz hq
    go_wp2_with fail
    go_ret
    exact⟨rfl,hf1⟩
   | false=>
    have hz:ec=5:=HEc.out
    have hq:=h2 rfl
    subst hz hq
    go_wp2_with fail
    go_ret
    exact⟨rfl,hf1⟩
def versV(b:List UInt8):Nat × Nat:=
 if(markV b).1=1\/(markV b).1=2 then((markV b).1,0)
 else if(decide (42<=b.length) && hasB b)=true then(3,0)
 else if(markV b).1=3 then(0,5)
 else(0,(markV b).2)
theorem vers_low(b:List UInt8)(h:(markV b).1=1\/(markV b).1=2):versV b=((markV b).1,0):=if_pos h
theorem vers_has(b:List UInt8)(h:¬((markV b).1=1\/(markV b).1=2))(h2:(decide (42<=b.length) && hasB b)=true):versV b=(3,0):=by unfold versV;rw [if_neg h,if_pos h2]
theorem vers_sum(b:List UInt8)(h:¬((markV b).1=1\/(markV b).1=2))(h2:(decide (42<=b.length) && hasB b)=false)(h3:(markV b).1=3):versV b=(0,5):=by unfold versV;rw [if_neg h,if_neg (by rw [h2];simp),if_pos h3]
theorem vers_no(b:List UInt8)(h:¬((markV b).1=1\/(markV b).1=2))(h2:(decide (42<=b.length) && hasB b)=false)(h3:¬(markV b).1=3):versV b=(0,(markV b).2):=by unfold versV;rw [if_neg h,if_neg (by rw [h2];simp),if_neg h3]
theorem AVersion_any(v:Value)(b:List UInt8)(w:World)(hs:See w eB v b)(ht:Crc w) :
  Calls Tryz.prog 10 #[v] w fun e w'=>e=.returned (.tuple #[N (versV b).1,.int .i64 ((versV b).2:Int)])/\Fr w w':=by
 have HM:=hid (OMarked_any v b w hs)
 have HH:=hid (fun W (h:Fr w W)=>THas_any v b W (hs.fr h) (ht.fr h))
 have V1:=hid (vers_low b)
 have V2:=hid (vers_has b)
 have V3:=hid (vers_sum b)
 have V4:=hid (vers_no b)
 obtain⟨a0,cap,rfl,_⟩:=hs.shape
 clear hs ht
 generalize (decide (42<=b.length) && hasB b)=hb at *
 generalize versV b=V at *
 generalize (markV b).1=m at *
 generalize (markV b).2=er at *
 by_cases h1:m=1
 · have e1:=V1.out (.inl h1)
   subst e1 h1
   go_enter Tryz.func10, Tryz.ntmps10
   go_wp2_with fail
   refine(HM.out).mono ?_
   rintro e w1 ⟨rfl,hf1⟩
   go_wp2_with fail
   go_ret2
   exact⟨rfl,hf1⟩
 · by_cases h2:m=2
   · have e1:=V1.out (.inr h2)
     subst e1 h2
     go_enter Tryz.func10, Tryz.ntmps10
     go_wp2_with fail
     refine(HM.out).mono ?_
     rintro e w1 ⟨rfl,hf1⟩
     go_wp2_with fail
     go_ret2
     exact⟨rfl,hf1⟩
   · have h12:¬(m=1\/m=2):=by omega
     have j1:¬(m:Int)=1:=by omega
     have j2:¬(m:Int)=2:=by omega
     have b1:((m:Int) == 1)=false:=by simpa using j1
     have b2:((m:Int) == 2)=false:=by simpa using j2
     cases hb with
     | true=>
      have e1:=V2.out h12 rfl
      subst e1
      clear h1 h2 h12
      go_enter Tryz.func10, Tryz.ntmps10
      go_wp2_with fail
      refine(HM.out).mono ?_
      rintro e w1 ⟨rfl,hf1⟩
      have HH1:=hid (HH.out w1 hf1)
      go_wp2_with fail
      refine(HH1.out).mono ?_
      rintro e w2 ⟨rfl,hf2⟩
      go_wp2_with fail
      go_ret2
      exact⟨rfl,hf1.trans hf2⟩
     | false=>
      by_cases h3:m=3
      · have e1:=V3.out h12 rfl h3
        subst e1 h3
        clear h1 h2 h12
        go_enter Tryz.func10, Tryz.ntmps10
        go_wp2_with fail
        refine(HM.out).mono ?_
        rintro e w1 ⟨rfl,hf1⟩
        have HH1:=hid (HH.out w1 hf1)
        go_wp2_with fail
        refine(HH1.out).mono ?_
        rintro e w2 ⟨rfl,hf2⟩
        go_wp2_with fail
        go_ret2
        exact⟨rfl,hf1.trans hf2⟩
      · have e1:=V4.out h12 rfl h3
        have j3:¬(m:Int)=3:=by omega
        have b3:((m:Int) == 3)=false:=by simpa using j3
        subst e1
        clear h1 h2 h12 h3
        go_enter Tryz.func10, Tryz.ntmps10
        go_wp2_with fail
        refine(HM.out).mono ?_
        rintro e w1 ⟨rfl,hf1⟩
        have HH1:=hid (HH.out w1 hf1)
        go_wp2_with fail
        refine(HH1.out).mono ?_
        rintro e w2 ⟨rfl,hf2⟩
        go_wp2_with fail
        go_ret2
        exact⟨rfl,hf1.trans hf2⟩
end Go.Proofs.YtdagmoonnbnceaaGreatDoor
