/- Parts of the proof of ThreeOpens: Tr2 Tr3 Al1 Al2. -/
import Derived.Test.YtijghcbpfcjjnaaGreatDoorM26
import Derived.Test.YtijghcbpfcjjnaaGreatDoorM27
import Derived.Test.YtijghcbpfcjjnaaGreatDoorM12
import Derived.Test.YtijghcbpfcjjnaaGreatDoorM16
import Derived.Test.YtijghcbpfcjjnaaGreatDoorM25
set_option linter.unusedVariables false
set_option linter.unusedSectionVars false
set_option linter.unusedSimpArgs false
set_option maxHeartbeats 8000000
namespace Go.Proofs.YtijghcbpfcjjnaaGreatDoor
open Go.RowKit Go.Fk
theorem optE_zero(o:Opt)(h:opt3 o=true):optE o=0:=by unfold optE;rw [if_pos h]
theorem optE_nine(o:Opt)(h:opt3 o=false):optE o=9:=by unfold optE;rw [if_neg (by rw [h];simp)]
theorem readB_bad(b:List UInt8)(h:(readB b).1≠0):readB b=((readB b).1,[],[]):=by
 unfold readB at h ⊢
 unfold readS at h ⊢
 simp only at h ⊢
 repeat' split
 all_goals first | rfl | (simp_all;done)
theorem readGo_bad(k m c:Nat)(l:List UInt8):∀ (f s:Nat) (out:List UInt8) (bad:List Nat),(readGo k m c l f s out bad).2.2.length<=bad.length+f*(k+m)
 | 0,_,out,bad=>by simp [readGo]
 | f+1,s,out,bad=>by
  unfold readGo
  by_cases h1:(stripeR k m c l (s*((k+m)*(c+4)))).1=0
  · simp only [h1,if_true]
    refine Nat.le_trans (readGo_bad k m c l f (s+1) _ _) ?_
    have h2:(badS l c (s*((k+m)*(c+4))) (k+m) (s*(k+m))).length<=k+m:=by
     rw [badS_eq];exact Nat.le_trans (badG_len _ _) (Nat.le_of_eq (goodS_len _ _ _ _))
    rw [List.length_append,Nat.add_mul f 1,Nat.one_mul]
    omega
  · simp only [h1,if_false];exact Nat.zero_le _
theorem readS_bad(k m c n:Nat)(l:List UInt8):(readS k m c n l).2.2.length<=l.length:=by
 by_cases h1:8388608<n
 · rw [readS_big k m c n l h1];exact Nat.zero_le _
 · by_cases h2:16777216<strN k c n*((k+m)*(c+4))
   · rw [readS_limit k m c n l h1 h2];exact Nat.zero_le _
   · by_cases h3:l.length<strN k c n*((k+m)*(c+4))
     · rw [readS_short k m c n l h1 h2 h3];exact Nat.zero_le _
     · by_cases h4:strN k c n*((k+m)*(c+4))<l.length
       · rw [readS_long k m c n l h1 h2 h4];exact Nat.zero_le _
       · have h5:l.length=strN k c n*((k+m)*(c+4)):=by omega
         rw [readS_eq k m c n l h1 h2 h5]
         have h6:=readGo_bad k m c l (strN k c n) 0 [] []
         have h7:strN k c n*(k+m)<=strN k c n*((k+m)*(c+4)):=Nat.mul_le_mul_left _ (Nat.le_mul_of_pos_right _ (by omega))
         simp only
         split
         · split
           · simp only [List.length_nil]at h6
             show(readGo k m c l (strN k c n) 0 [] []).2.2.length<=_
             omega
           · exact Nat.zero_le _
         · exact Nat.zero_le _
set_option maxRecDepth 100000
theorem mended_any (v : Value) (b : List UInt8) (w : World) (hs : See w eB v b) (hl : b.length ≤ 1500) (ht : Crc w) :
    Calls Tryz.prog 14 #[v] w fun e w'=>∃ hv u,e=.returned (.tuple #[hv,u,N (bodyR b).2.2,.int .i64 ((bodyR b).1:Int)])/\Ow w' w.heap.size eB u (bodyR b).2.1/\Fr w w'/\((bodyR b).1=0->∃ g xv,hv=.pointer (some ⟨g,0,none⟩)/\w.heap.size<=g/\w'.heap[g]?=some (hdB (hSz (headOf b)) (hP (headOf b)) (hBu (headOf b)) (hD (headOf b)) (hQ (headOf b)) (hC (headOf b)) (hN (headOf b)) xv)):=by
  have HS:=hid hs
  obtain⟨a0,cap,hv,hcap1,hcap2,_⟩:=hs.shape
  subst hv
  unfold maxLen at hcap2
  by_cases h42:b.length<42
  · have HC:=hid (choose_short _ b w hs h42)
    have HR:=hid (bodyR_short b h42)
    clear hs ht h42
    go_enter Tryz.func14, Tryz.ntmps14
    go_wp2_with fail
    refine HC.out.mono ?_
    rintro e w1 ⟨rfl,hf1⟩
    go_wp2_with fail
    refine bodyPost_ret (v:=.tuple #[.pointer none,.slice none 0 0,.int .i64 0,.int .i64 1]) (by simp [results,Tryz.results14,go_sem, *]) rfl ?_
    rw [HR.out]
    exact⟨_,_,rfl,Ow.nil,hf1,fun h=>by cases h⟩
  · have HC:=hid (choose_any _ b w hs (by omega) (by omega) ht)
    by_cases hh:hasB b=true
    · rw [if_pos hh]at HC
      have hhl:=headOf_len b h42
      have HRd:=hid (fun W u (h:See W eB u (headOf b))=>head_read u (headOf b) W h hhl)
      by_cases hX1:1<hX (headOf b)
      · have HR:=hid (bodyR_form b h42 hh hX1)
        have HX1:=hid hX1
        have HHh:=hid hh
        clear hs ht h42 hX1 hhl hh
        go_enter Tryz.func14, Tryz.ntmps14
        go_wp2_with fail
        refine HC.out.mono ?_
        rintro e w1 ⟨u,rfl,hsee,_,hf1⟩
        have HR2:=hid (HRd.out w1 u (hsee HHh.out))
        clear hsee HC HRd
        go_wp2_with fail
        refine HR2.out.mono ?_
        rintro e w2 ⟨hf2,hor⟩
        have he:e=.returned (.tuple #[.pointer none,.int .i64 2]):=by
          rcases hor with h | h
          · exact h.2
          · have:=HX1.out;omega
        subst he
        clear hor HR2
        have hf02:=hf1.trans hf2
        go_wp2_with fail
        refine bodyPost_ret (v:=.tuple #[.pointer none,.slice none 0 0,.int .i64 0,.int .i64 2]) (by simp [results,Tryz.results14,go_sem, *]) rfl ?_
        rw [HR.out]
        exact⟨_,_,rfl,Ow.nil,hf02,fun h=>by cases h⟩
      · cases hop:opt3 (optH (headOf b))
        · have HR:=hid (bodyR_opts b h42 hh hX1 hop)
          have HX1:=hid hX1
          have HHh:=hid hh
          have HOE:=hid (optE_nine _ hop)
          clear hs ht h42 hX1 hhl hh hop
          go_enter Tryz.func14, Tryz.ntmps14
          go_wp2_with fail
          refine HC.out.mono ?_
          rintro e w1 ⟨u,rfl,hsee,_,hf1⟩
          have HR2:=hid (HRd.out w1 u (hsee HHh.out))
          clear hsee HC HRd
          go_wp2_with fail
          refine HR2.out.mono ?_
          rintro e w2 ⟨hf2,hor⟩
          obtain⟨g,rfl,hgs,hG⟩:∃ g,e=.returned (.tuple #[.pointer (some ⟨g,0,none⟩),.int .i64 (optE (optH (headOf b)))])/\w1.heap.size<=g/\True:=by
            rcases hor with h | h
            · exact absurd h.1 HX1.out
            · obtain⟨_,g,h1,h2,_⟩:=h
              exact⟨g,h1,h2,trivial⟩
          rw [HOE.out]
          clear hor HR2
          have hf02:=hf1.trans hf2
          go_wp2_with fail
          refine bodyPost_ret (v:=.tuple #[.pointer none,.slice none 0 0,.int .i64 0,.int .i64 9]) (by simp [results,Tryz.results14,go_sem, *]) rfl ?_
          rw [HR.out]
          exact⟨_,_,rfl,Ow.nil,hf02,fun h=>by cases h⟩
        · have hok:=optH_ok _ hop
          have HOE:=hid (optE_zero _ hop)
          have HX1:=hid hX1
          have HHh:=hid hh
          obtain⟨o1,o2,o3,o4,o5,o6,o7,o8⟩:=hok
          have hq1:=UInt8.toNat_lt ((headOf b).getD 7 0)
          have hq2:=UInt8.toNat_lt ((headOf b).getD 8 0)
          have hN4:hN (headOf b)<4294967296:=by
            have:=leN_lt ((headOf b).drop 13 |>.take 4)
            rw [List.length_take,List.length_drop,hhl]at this
            exact this
          have HRe:=hid (fun W u (h:See W eB u (innerB b)) (h2:Fr w W)=>Read_any (hD (headOf b)) (hQ (headOf b)) (hC (headOf b)) (hN (headOf b)) u (innerB b) W h o5 o6 o7 o8 (by omega) (by rw [innerB_len];omega) (ht.fr h2))
          have HRB:Hid (readB b=readS (hD (headOf b)) (hQ (headOf b)) (hC (headOf b)) (hN (headOf b)) (innerB b)):=rfl
          rw [<- HRB.out]at HRe
          obtain⟨K21,hK⟩:∃ K,K=b.length - 21:=⟨_,rfl⟩
          obtain⟨fa,fc,hmid,hms⟩:=run_mid eB 22 Tryz.underlying22 hs 21 K21 (by omega) (by omega)
          have hie:(b.take K21).drop 21=innerB b:=by unfold innerB;rw [List.drop_take,hK];congr 1
          rw [hie]at hms
          have hmid2:∀ W,(Instr.slice 22 (.slice a0 b.length cap) (some (.int .i64 21)) (some (.int .i64 (K21:Int))) none).run Tryz.prog W=.ok (.slice fa (K21 - 21) fc) W:=hmid
          have hw:IntKind.i64.wrap ((b.length:Int) - 21)=(K21:Int):=by rw [IntWalk.i64_in _ (by omega)];omega
          have HCp:=hid (fun W (h:Fr w W)=>copies_any _ b W (hs.fr h) (by omega))
          have HEq:=hid (fun W v1 v2 (h1:See W eB v1 (b.take 21)) (h2:See W eB v2 (b.drop (b.length - 21)))=>BEqual_any v1 v2 _ _ W h1 h2)
          have HErr:=hid (fun h=>bodyR_read b h42 hh hX1 hop h)
          have HGood:=hid (fun h=>bodyR_ok b h42 hh hX1 hop h)
          have hkk:(21:Int)<=K21:=by omega
          have hkl:(K21:Int)<=b.length:=by omega
          have HRbad:=hid (readB_bad b)
          have HBl:Hid ((readB b).2.2.length<=1500):=by
            show _<=_
            have h1:=readS_bad (hD (headOf b)) (hQ (headOf b)) (hC (headOf b)) (hN (headOf b)) (innerB b)
            rw [innerB_len]at h1
            rw [HRB.out];omega
          clear hs ht h42 hX1 hhl hh hop o1 o2 o3 o4 o5 o6 o7 o8 hq1 hq2 hN4 hmid hie hK
          generalize hSz (headOf b)=fS at *
          generalize hP (headOf b)=fP at *
          generalize hBu (headOf b)=fB at *
          generalize hD (headOf b)=fD at *
          generalize hQ (headOf b)=fQ at *
          generalize hC (headOf b)=fC at *
          generalize hN (headOf b)=fN at *
          go_enter Tryz.func14, Tryz.ntmps14
          go_wp2_with fail
          refine HC.out.mono ?_
          rintro e w1 ⟨u,rfl,hsee,_,hf1⟩
          have HR2:=hid (HRd.out w1 u (hsee HHh.out))
          clear hsee HC HRd
          go_wp2_with fail
          refine HR2.out.mono ?_
          rintro e w2 ⟨hf2,hor⟩
          obtain⟨g,rfl,hgs,hG⟩:∃ g,e=.returned (.tuple #[.pointer (some ⟨g,0,none⟩),.int .i64 (optE (optH (headOf b)))])/\w1.heap.size<=g/\w2.heap[g]?=some (hdB fS fP fB fD fQ fC fN (.int .u8 (hX (headOf b):Int))):=by
            rcases hor with h | h
            · exact absurd h.1 HX1.out
            · obtain⟨_,g,h1,h2,h3⟩:=h
              exact⟨g,h1,h2,h3⟩
          rw [HOE.out]
          clear hor HR2
          have hf02:=hf1.trans hf2
          have x3:w2.cell? ⟨g,3,none⟩=some (N fD):=by rw [cell_of_heap hG];rfl
          have x4:w2.cell? ⟨g,4,none⟩=some (N fQ):=by rw [cell_of_heap hG];rfl
          have x5:w2.cell? ⟨g,5,none⟩=some (N fC):=by rw [cell_of_heap hG];rfl
          have x6:w2.cell? ⟨g,6,none⟩=some (N fN):=by rw [cell_of_heap hG];rfl
          have HR3:=hid (HRe.out w2.drew _ (hms.fr (hf02.trans (Fr.refl w2).drew)) (hf02.trans (Fr.refl w2).drew))
          have hgw:=hf1.size
          go_upto_region 7 with fail
          go_region_held3 (fun w' => w'.cell? ⟨g, 3, none⟩ = some (N fD) ∧ w'.cell? ⟨g, 4, none⟩ = some (N fQ) ∧ w'.cell? ⟨g, 5, none⟩ = some (N fC) ∧ w'.cell? ⟨g, 6, none⟩ = some (N fN))
            (first | go_keep)
            ((go_at_call 29;refine HR3.out.mono ?_;rintro e w3 ⟨u3,bv3,rfl,hO3,hB3,hf3⟩;have uu3:=hf3.cell x3;have uu4:=hf3.cell x4;have uu5:=hf3.cell x5;have uu6:=hf3.cell x6))
          have hf03:Fr w w3:=hf02.trans ((Fr.refl w2).drew.trans hf3)
          have hG3:=hf3.heap hG
          clear uu3 uu4 uu5 uu6 x3 x4 x5 x6 HRe HR3 hms hG hf3
          by_cases herr:(readB b).1=0
          · have HG2:=hid (HGood.out herr)
            obtain⟨ba,bc,hbv⟩:=hB3.shape'
            subst hbv
            have hO4:=hO3.rebase (b:=w.heap.size) (show w.heap.size<=w2.drew.heap.size from hf02.size)
            have HC3:=hid (HCp.out w3 hf03)
            have hbl:=HBl.out
            rw [herr]
            clear HErr HGood HRbad hO3 hB3 herr HCp
            generalize (readB b).2.2.length=bl at *
            generalize (readB b).2.1=RB at *
            have hwn:IntKind.i64.wrap ((bl:Int)+1)=(bl:Int)+1:=IntWalk.i64_in _ (by omega)
            go_wp2_with fail
            refine HC3.out.mono ?_
            rintro e w4 ⟨v1,v2,rfl,hs1,hs2,hf4⟩
            have HE4:=hid (HEq.out w4 v1 v2 hs1 hs2)
            have hf04:=hf03.trans hf4
            have hG4:=hf4.heap hG3
            have hO5:=hO4.fr hf4
            clear hs1 hs2 HC3 HEq hG3 hO4 hf03 hf4
            go_wp2_with fail
            refine HE4.out.mono ?_
            rintro e w5 ⟨rfl,hf5⟩
            have hf05:=hf04.trans hf5
            have hG5:=hf5.heap hG4
            have hO6:=hO5.fr hf5
            have hgl:w.heap.size<=g:=Nat.le_trans hgw hgs
            by_cases heq:b.take 21=b.drop (b.length - 21)
            · have HG3:Hid (bodyR b=(0,RB,bl)):=by show _=_;rw [HG2.out,if_pos heq];rfl
              rw [decide_eq_true heq]
              clear heq HG2
              go_wp2_with fail
              refine bodyPost_ret (v:=.tuple #[.pointer (some ⟨g,0,none⟩),u3,N bl,.int .i64 0]) (by simp [results,Tryz.results14,go_sem, *]) rfl ?_
              rw [HG3.out]
              exact⟨_,_,rfl,hO6,hf05,fun _=>⟨g,_,rfl,hgl,hG5⟩⟩
            · have HG3:Hid (bodyR b=(0,RB,bl+1)):=by show _=_;rw [HG2.out,if_neg heq]
              rw [decide_eq_false heq]
              clear heq HG2
              go_wp2_with fail
              refine bodyPost_ret (v:=.tuple #[.pointer (some ⟨g,0,none⟩),u3,.int .i64 ((bl:Int)+1),.int .i64 0]) (by simp [results,Tryz.results14,go_sem, *]) rfl ?_
              rw [HG3.out]
              exact⟨_,_,rfl,hO6,hf05,fun _=>⟨g,_,rfl,hgl,hG5⟩⟩
          · have HG2:=hid (HErr.out herr)
            have hxne:¬(((readB b).1:Nat):Int)=0:=by omega
            have HRb:=hid (HRbad.out herr)
            rw [HRb.out]at hO3
            clear HErr HGood HRbad hB3 herr HCp HEq hG3
            generalize (readB b).1=x at *
            go_wp2_with fail
            refine bodyPost_ret (v:=.tuple #[.pointer none,.slice none 0 0,.int .i64 0,.int .i64 (x:Int)]) (by simp [results,Tryz.results14,go_sem, *]) rfl ?_
            rw [HG2.out]
            exact⟨_,_,rfl,Ow.nil,hf03,fun h=>absurd h (by simpa using hxne)⟩
    · have hh2:hasB b=false:=by simpa using hh
      rw [if_neg hh]at HC
      have HR:=hid (bodyR_sum b h42 hh2)
      have HH2:=hid hh2
      clear hs ht h42 hh hh2
      go_enter Tryz.func14, Tryz.ntmps14
      go_wp2_with fail
      refine HC.out.mono ?_
      rintro e w1 ⟨u,rfl,_,hnil,hf1⟩
      obtain rfl:=hnil HH2.out
      clear hnil
      go_wp2_with fail
      refine bodyPost_ret (v:=.tuple #[.pointer none,.slice none 0 0,.int .i64 0,.int .i64 5]) (by simp [results,Tryz.results14,go_sem, *]) rfl ?_
      rw [HR.out]
      exact⟨_,_,rfl,Ow.nil,hf1,fun h=>by cases h⟩
set_option maxRecDepth 512
theorem readS_ok(k m c n:Nat)(l:List UInt8)(hk:1<=k)(hc:1<=c)(h:(readS k m c n l).1=0):¬8388608<n/\¬16777216<strN k c n*((k+m)*(c+4))/\l.length=strN k c n*((k+m)*(c+4))/\(readS k m c n l).2.1.length=n:=by
 by_cases h1:8388608<n
 · rw [readS_big k m c n l h1]at h;cases h
 · by_cases h2:16777216<strN k c n*((k+m)*(c+4))
   · rw [readS_limit k m c n l h1 h2]at h;cases h
   · by_cases h3:l.length<strN k c n*((k+m)*(c+4))
     · rw [readS_short k m c n l h1 h2 h3]at h;cases h
     · by_cases h4:strN k c n*((k+m)*(c+4))<l.length
       · rw [readS_long k m c n l h1 h2 h4]at h;cases h
       · have h5:l.length=strN k c n*((k+m)*(c+4)):=by omega
         refine⟨h1,h2,h5,?_⟩
         rw [readS_eq k m c n l h1 h2 h5]at h ⊢
         simp only at h ⊢
         have hkc:1*1<=k*c:=Nat.mul_le_mul hk hc
         have hnk:n<=strN k c n*(k*c):=by
          have:=fun h=>(strN_lt k c n (by omega) (strN k c n)).2 h
          omega
         by_cases h6:(readGo k m c l (strN k c n) 0 [] []).1=0
         · have h7:=readGo_len k m c l (strN k c n) 0 [] [] (by rw [Nat.zero_add];omega) h6
           rw [if_pos h6]at h ⊢
           by_cases h8:((readGo k m c l (strN k c n) 0 [] []).2.1.drop n).all (· == 0)=true
           · rw [if_pos h8]
             show((readGo k m c l (strN k c n) 0 [] []).2.1.take n).length=n
             rw [List.length_take,h7,List.length_nil]
             omega
           · rw [if_neg h8]at h;cases h
         · rw [if_neg h6]at h;exact absurd h h6
theorem bodyR_facts(b:List UInt8)(h:(bodyR b).1=0):opt3 (optH (headOf b))=true/\(bodyR b).2.1.length=hN (headOf b)/\hN (headOf b)<=b.length/\strN (hD (headOf b)) (hC (headOf b)) (hN (headOf b))*((hD (headOf b)+hQ (headOf b))*(hC (headOf b)+4))<=16777216:=by
 by_cases h42:b.length<42
 · rw [bodyR_short b h42]at h;cases h
 · cases hh:hasB b
   · rw [bodyR_sum b h42 hh]at h;cases h
   · by_cases hx:1<hX (headOf b)
     · rw [bodyR_form b h42 hh hx]at h;cases h
     · cases ho:opt3 (optH (headOf b))
       · rw [bodyR_opts b h42 hh hx ho]at h;cases h
       · by_cases hr:(readB b).1=0
         · rw [bodyR_ok b h42 hh hx ho hr]
           obtain⟨o1,o2,o3,o4,o5,o6,o7,o8⟩:=optH_ok _ ho
           have hS:=readS_ok (hD (headOf b)) (hQ (headOf b)) (hC (headOf b)) (hN (headOf b)) (innerB b) o5 o7 hr
           obtain⟨s1,s2,s3,s4⟩:=hS
           have hkc:1*1<=hD (headOf b)*hC (headOf b):=Nat.mul_le_mul o5 o7
           have hnk:hN (headOf b)<=strN (hD (headOf b)) (hC (headOf b)) (hN (headOf b))*(hD (headOf b)*hC (headOf b)):=by
            have:=fun h=>(strN_lt (hD (headOf b)) (hC (headOf b)) (hN (headOf b)) (by omega) (strN (hD (headOf b)) (hC (headOf b)) (hN (headOf b)))).2 h
            omega
           have hle:strN (hD (headOf b)) (hC (headOf b)) (hN (headOf b))*(hD (headOf b)*hC (headOf b))<=strN (hD (headOf b)) (hC (headOf b)) (hN (headOf b))*((hD (headOf b)+hQ (headOf b))*(hC (headOf b)+4)):=Nat.mul_le_mul_left _ (Nat.mul_le_mul (by omega) (by omega))
           have hil:=innerB_len b
           exact⟨rfl,s4,by omega,by omega⟩
         · rw [bodyR_read b h42 hh hx ho hr]at h;exact absurd h hr
def mendR(b:List UInt8):Nat × List UInt8 × Nat:=
 if(bodyR b).1=0 then(0,archL (hSz (headOf b)) (hP (headOf b)) (hBu (headOf b)) (hD (headOf b)) (hQ (headOf b)) (hC (headOf b)) (bodyR b).2.1,(bodyR b).2.2)else((bodyR b).1,[],0)
set_option maxRecDepth 100000
theorem groups0(w:World):Calls Tryz.prog 52 #[.int .i64 16,.bool false,.slice none 0 0] w fun e w'=>e=.returned (.slice none 0 0)/\w=w':=by
 go_enter Tryz.func52, Tryz.ntmps52
 go_wp2_with fail
 go_loopw [7,14] (fun ov iv wx=>ov=.slice none 0 0/\iv=.int .i64 0/\wx=w) (fun _ _ _=>0)
 case atStart=>exact⟨rfl,rfl,rfl⟩
 case round=>
  obtain⟨rfl,rfl,rfl⟩:=hrel
  go_wp2_with fail
  go_ret
  exact⟨rfl,rfl⟩
theorem columns0(w:World):Calls Tryz.prog 56 #[.slice none 0 0] w fun e w'=>e=.returned (.slice none 0 0)/\w=w':=by
 go_enter Tryz.func56, Tryz.ntmps56
 go_wp2_with fail
 go_loopw [3,10] (fun ov iv wx=>ov=.slice none 0 0/\iv=.int .i64 0/\wx=w) (fun _ _ _=>0)
 case atStart=>exact⟨rfl,rfl,rfl⟩
 case round=>
  obtain⟨rfl,rfl,rfl⟩:=hrel
  go_wp2_with fail
  go_loopw [0,3] (fun iv ov wx=>iv=.slice none 0 0/\ov=.slice none 0 0/\wx=wr) (fun _ _ _=>0)
  case atStart=>exact⟨rfl,rfl,rfl⟩
  case round=>
   obtain⟨rfl,rfl,rfl⟩:=hrel
   go_wp2_with fail
   go_ret
   exact⟨rfl,rfl⟩
theorem rises0(w:World):Calls Tryz.prog 158 #[.slice none 0 0] w fun e w'=>e=.returned (.bool true)/\w=w':=by
 go_enter Tryz.func158, Tryz.ntmps158
 go_wp2_with fail
 go_loopw [8] (fun iv wx=>iv=.int .i64 0/\wx=w) (fun _ _=>0)
 case atStart=>exact⟨rfl,rfl⟩
 case round=>
  obtain⟨rfl,rfl⟩:=hrel
  go_wp2_with fail
  go_ret
  exact⟨rfl,rfl⟩
set_option maxRecDepth 512
attribute [local go_sem] Oper.semAt_some
def DwZ(w0:World)(H B:Nat)(L:List UInt8)(hv:Value)(pre:List Hd)(W:World):Prop:=
 W.heap[H]?=some (.cells #[hv] 22 (0,0))/\W.heap[H+1]?=some (.cells #[.slice none 0 0] 22 (0,0))/\Ow W B eB hv L/\Fr w0 W
theorem DwZ.own(w0:World)(H B D:Nat)(L:List UInt8)(hv:Value)(hD:w0.heap.size<=D):OwnFrom D (DwZ w0 H B L hv):=by
 rintro s W W' row ⟨h1,h2,h3,h4⟩ hg hr
 have hne:∀ {q:Nat} {o:Obj},W.heap[q]?=some o->o.isCells=true->W'.heap[q]?=some o:=fun {q o} hq ho=>by
  rw [hg.block q (Array.getElem?_eq_some_iff.1 hq).1 (fun e => by
   obtain ⟨_, o', ho', hc⟩ := hr q e.symm
   rw [hq] at ho'; cases ho'; rw [ho] at hc; cases hc)]
  exact hq
 exact⟨hne h1 rfl,hne h2 rfl,ow_keptG h3 hg (fun r e=>(hr r e).2),h4.own hg (fun k e=>by have:=(hr k e).1;omega)⟩
set_option maxRecDepth 100000
theorem dict0(w:World):Calls Tryz.prog 105 #[.int .i64 1,.slice none 0 0] w fun e w'=>∃ u,e=.returned (.tuple #[u,.int .i64 0])/\Ow w' w.heap.size eB u (numB 0)/\Fr w w':=by
  have HM:=hid (fun W=>rises0 W)
  have HN0:=hid (fun W=>Num_any 0 (by omega) W)
  have hnl:=numB_le 0 (by omega)
  have HCh:=hid (fun W=>chunkS_any none 0 0 1 (by omega) W)
  generalize numB 0=nb at *
  have hw1:IntKind.u64.wrap (0:Int)=0:=IntWalk.u64_in _ (by omega)
  refine(callsIn_wide (n:=9)).1 ?_
  refine callsIn_of_wp_marks Tryz.func105 rfl trivial ?_ rfl
  simp only [Tryz.ntmps105,List.size_toArray,List.length_cons,List.length_nil,Nat.reduceAdd,Nat.reduceSub,Array.replicate_succ,Array.replicate_zero,List.push_toArray,List.append_toArray,List.nil_append,List.cons_append]
  have hfA:Fence.wide.fn 158:=trivial
  have hfB:Fence.wide.fn 103:=trivial
  have hfC:Fence.wide.fn 159:=trivial
  gi_wp2_with (first
    | (gi_at_call 158; refine (callsIn_wide.2 (HM.out _)).mono ?_; rintro e w1 ⟨rfl, rfl⟩)
    | (gi_at_call 103; refine (callsIn_wide.2 (HN0.out _)).mono ?_; rintro e w2 ⟨v2, rfl, hO2, hf2⟩; obtain ⟨va, vc, hv2⟩ := hO2.shape'; subst hv2)
    | (gi_at_call 159; refine (callsIn_wide.2 (HCh.out _)).mono ?_; rintro e w3 ⟨rfl, rfl⟩))
  have hsz1:(w2.alloc (.cells #[.slice va nb.length vc] 22)).heap.size=w2.heap.size+1:=size_alloc _ _
  have hsz2:((w2.alloc (.cells #[.slice va nb.length vc] 22)).alloc (.cells #[.slice none 0 0] 22)).heap.size=w2.heap.size+1+1:=by rw [size_alloc,hsz1]
  have hsz3:(((w2.alloc (.cells #[.slice va nb.length vc] 22)).alloc (.cells #[.slice none 0 0] 22)).alloc (.cells #[.slice none 0 0] 33)).heap.size=w2.heap.size+1+1+1:=by rw [size_alloc,hsz2]
  have hfA1:Fr w2 (w2.alloc (.cells #[.slice va nb.length vc] 22)):=(Fr.refl w2).alloc _
  have g0:=heap_new w2 (.cells #[.slice va nb.length vc] 22) w2.heap.size rfl
  generalize w2.alloc (.cells #[.slice va nb.length vc] 22)=A1 at *
  have hfA2:Fr A1 (A1.alloc (.cells #[.slice none 0 0] 22)):=(Fr.refl A1).alloc _
  have g1:=heap_new A1 (.cells #[.slice none 0 0] 22) (w2.heap.size+1) hsz1.symm
  generalize A1.alloc (.cells #[.slice none 0 0] 22)=A2 at *
  have hfA3:Fr A2 (A2.alloc (.cells #[.slice none 0 0] 33)):=(Fr.refl A2).alloc _
  have g2:=heap_new A2 (.cells #[.slice none 0 0] 33) (w2.heap.size+1+1) hsz2.symm
  generalize A2.alloc (.cells #[.slice none 0 0] 33)=A3 at *
  have hfA4:Fr A3 (A3.alloc (.cells #[N 1] 3)):=(Fr.refl A3).alloc _
  have g3:=heap_new A3 (.cells #[N 1] 3) (w2.heap.size+1+1+1) hsz3.symm
  generalize A3.alloc (.cells #[N 1] 3)=A4 at *
  have hfw4:Fr w A4:=hf2.trans (hfA1.trans (hfA2.trans (hfA3.trans hfA4)))
  have k0:=hfA4.heap (hfA3.heap (hfA2.heap g0))
  have k1:=hfA4.heap (hfA3.heap g1)
  have k2:=hfA4.heap g2
  have hO4:=hO2.fr (hfA1.trans (hfA2.trans (hfA3.trans hfA4)))
  have hHl:w2.heap.size+1+1+1<A4.heap.size:=(Array.getElem?_eq_some_iff.1 g3).1
  have hHw0:w.heap.size<=w2.heap.size:=hf2.size
  generalize w2.heap.size=H at *
  obtain⟨cb,coff,hcv,hseq⟩:=chunkS_stops (H+1+1) (H+1+1+1) (.slice none 0 0) [] 1 (by omega) (by omega) (by simp) A4 k2 g3 See.nil
  have h0:DwZ w H w.heap.size nb (.slice va nb.length vc) [] A4:=⟨k0,k1,hO4,hfw4⟩
  clear hsz1 hsz2 hsz3 hfA1 hfA2 hfA3 hfA4 g0 g1 g2 g3 k0 k1 k2 hO2 hO4 hf2 hcv
  refine wpIn_rangeFunc_ownF rfl (by omega) (gf:=207) (lb:=#[.pointer (some ⟨H+1+1,0,none⟩),.pointer (some ⟨H+1+1+1,0,none⟩)]) rfl trivial (enters_of Tryz.func207 (by kernel_rfl) rfl) (hseq _ (by omega)) (fun h k=>KeepB.trans h k) (KeepB.put (by omega) (by omega)) (Below.refl _ A4) (fun _=>rfl)
    _ (fun _ _ _=>False) (DwZ.own w H w.heap.size A4.heap.size nb _ hfw4.size) (fun _ _ _ _ _ hs _ _=>hs) h0 (fun x:Hd=>{ tmps:=#[.int .i64 1,.slice none 0 0,undef,undef,.slice none 0 0,.int .i64 0,.pointer (some ⟨H,0,none⟩),.pointer (some ⟨H+1,0,none⟩),x.v,undef,.int .i64 1,.bool false,.bool false,.int .i64 1,.bool false,.bool false,.bool false,.slice none 0 0,.bool true,.bool false,.bool false,.slice none 0 0,.int .i64 0,.int .u64 0,.slice va nb.length vc,.slice none 0 0,.int .i64 1,.func (.func 207) #[] #[.pointer (some ⟨H+1+1,0,none⟩),.pointer (some ⟨H+1+1+1,0,none⟩)],x.v,undef,undef,undef,undef,undef,undef,undef,undef,undef,undef,undef,undef,undef,undef,undef],defers:=[] }) ?assign ?body ?done ?stop
  case assign=>
    intro l x W K hK
    gi_wp2
    exact hK
  case body=>
    rintro lr pre x W _ hpl
    exact absurd hpl (by rw [show ckN ([]:List (List UInt8)).length 1=0 from rfl];omega)
  case done=>
    rintro D ys W hD _ ⟨h1,h2,h5,h8⟩ hK
    have c0:W.cell? ⟨H,0,none⟩=some (.slice va nb.length vc):=by rw [cell_of_heap h1];rfl
    have c1:W.cell? ⟨H+1,0,none⟩=some (.slice none 0 0):=by rw [cell_of_heap h2];rfl
    have HAll:=hid (all2_any _ _ nb [] W h5.see See.nil (by simp;omega))
    rw [List.append_nil]at HAll
    have HKd:=hid hK
    have h8s:=h8.size
    clear h1 h2 h5 hK
    have hfE:Fence.wide.fn 61:=trivial
    gi_wp2_with (gi_at_call 61;refine(callsIn_wide.2 HAll.out).mono ?_;rintro e w8 ⟨v8,rfl,hO8,hf8⟩)
    have hK8:=hf8.heap HKd.out
    obtain⟨va8,vc8,hv8⟩:=hO8.shape'
    subst hv8
    refine⟨by simp,.inl ⟨_,_,rfl,run_takeDeferred hK8,?_⟩⟩
    refine⟨.tuple #[.slice va8 nb.length vc8,.int .i64 0],by simp [results,Tryz.results105,go_sem, *],_,rfl,?_,?_⟩
    · exact ow_keptG (hO8.rebase h8s) (grownBy_putObj' w8 D (.deferred none)) (fun r e=>by cases e;exact⟨_,hK8,rfl⟩)
    · exact Below.trans (h8.trans hf8) (belowK_b (w:=w) (Nat.le_refl _) w8 D _ _ (Nat.le_trans hfw4.size hD) hK8 rfl rfl)
  case stop=>
    rintro D c pre W hD _ h _
    exact h.elim
set_option maxRecDepth 512
end Go.Proofs.YtijghcbpfcjjnaaGreatDoor
