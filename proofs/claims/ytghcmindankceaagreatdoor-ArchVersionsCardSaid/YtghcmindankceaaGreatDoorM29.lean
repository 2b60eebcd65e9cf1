/- Parts of the proof of ArchVersions: Z6. -/
import Derived.Test.YtghcmindankceaaGreatDoorM28
import Derived.Test.YtghcmindankceaaGreatDoorM25
set_option linter.unusedVariables false
set_option linter.unusedSectionVars false
set_option linter.unusedSimpArgs false
set_option maxHeartbeats 8000000
namespace Go.Proofs.YtghcmindankceaaGreatDoor
open Go.RowKit Go.Fk
section
variable {w0 w W:World} {base g mb a n B:Nat} {l:List UInt8} {pv:Value}
theorem ch_keep(h:ChAt w base g mb l a n pv)(hf:Below B w0 w)(hB:B<=w.heap.size)(hb:B<=base)(hc:Chg (fun k=>k=g\/k=mb\/pv.ownBlock=some k) w W):Below B w0 W:=
 Chg.below hf hc hB fun i hi=>by
  rcases hi with rfl | rfl | hi
  · exact Nat.le_trans hb h.up
  · exact Nat.le_trans hb h.up2
  · exact Nat.le_trans hb (h.prev.lt i hi).1
theorem ch_out{α:Type}{E:Elt Tryz.prog α}{b2:Nat}{v:Value}{m:List α}(h:ChAt w base g mb l a n pv)(hO:Ow w b2 E v m)(hT:341≠E.e/\(eZ:Elt Tryz.prog Int).e≠E.e)(hc:Chg (fun k=>k=g\/k=mb\/pv.ownBlock=some k) w W):Ow W b2 E v m:=
 hO.chg hc fun k hk e=>by
  rcases e with rfl | rfl | e
  · exact hO.ne_cells h.at0 hT.1 hk
  · exact own_ne_map hO h.map hk
  · rcases own_ne hO h.prev hT.2 with h1 | h1
    · rw [h1]at hk;cases hk
    · exact h1 (hk.trans e.symm)
theorem ChAt.fr(h:ChAt w base g mb l a n pv)(hf:Fr w W):ChAt W base g mb l a n pv:=⟨hf.heap h.at0,h.map.fr hf,h.prev.fr hf,h.up,h.up2⟩
theorem ChAt.chg{G:Nat->Prop}(h:ChAt w base g mb l a n pv)(hc:Chg G w W)(h1:¬G g)(h2:¬G mb)(h3:∀ k,pv.ownBlock=some k->¬G k):ChAt W base g mb l a n pv:=⟨hc.heap h.at0 h1,h.map.chg hc h2,h.prev.chg hc h3,h.up,h.up2⟩
theorem ChAt.app{α:Type}{E:Elt Tryz.prog α}{b2:Nat}{v v':Value}{m m':List α}(h:ChAt w base g mb l a n pv)(hO:Ow w b2 E v m)(hT:341≠E.e/\E.e≠(eZ:Elt Tryz.prog Int).e)(hap:App b2 E m' w v v' W):ChAt W base g mb l a n pv:=
 h.chg hap.chg' (fun e=>hO.ne_cells h.at0 hT.1 e) (fun e=>own_ne_map hO h.map e) fun k hk e=>by
  rcases own_ne h.prev hO hT.2 with h1 | h1
  · rw [h1]at hk;cases hk
  · exact h1 (hk.trans e.symm)
end
set_option maxRecDepth 100000
theorem LFind_any (v : Value) (l : List UInt8) (w : World) (hs : See w eB v l) (hn : l.length ≤ 1000000) :
    Calls Tryz.prog 186 #[v] w fun e w'=>∃ v',e=.returned v'/\Ow w' w.heap.size eTk v' (findK l)/\Fr w w':=by
  have HS:=hid (fun W (h:Fr w W)=>hs.fr h)
  obtain⟨a0,cap,hv,hcap1,hcap2,hnone⟩:=hs.shape
  subst hv
  unfold maxLen at hcap2
  have HB:=hid (fun W (h:Fr w W) k hk=>bAt (HS.out W h) k hk)
  have HLo:=hid (fun W (hf:Fr w W) g mb a n pv (ha:a<l.length) (hc:ChAt W w.heap.size g mb l a n pv)=>longest_any _ l w.heap.size g mb a n pv W (HS.out W hf) hn ha hc)
  have HAdd:=hid (fun W a n pv (hf:Fr w W) (ha:a<l.length) (hc:ChAt W w.heap.size (w.heap.size+1) w.heap.size l a n pv) (hna:n<=a)=>add_any _ l w.heap.size (w.heap.size+1) w.heap.size a n pv W (HS.out W hf) hn ha hc hna (fun W' hc'=>HS.out W' (ch_keep hc hf (by have:=hf.size;omega) (Nat.le_refl _) hc')))
  have hmm:=@run_makeMap Tryz.prog
  have hf0:Fr w (w.alloc (.map #[] 0)):=(Fr.refl w).alloc _
  have hM0:=MapF.made w Tryz.prog 392 3
  clear hs
  go_enter Tryz.func186, Tryz.ntmps186
  go_wp2_with fail
  have hg0:((w.alloc (.map #[] 0)).alloc (.cells #[.map (some w.heap.size),.slice none 0 0] 341)).heap[w.heap.size+1]?=some (.cells #[.map (some w.heap.size),.slice none 0 0] 341 (0,0)):=by
    exact heap_new (w.alloc (.map #[] 0)) _ (w.heap.size+1) (by rw [size_alloc])
  have hf1:Fr (w.alloc (.map #[] 0)) ((w.alloc (.map #[] 0)).alloc (.cells #[.map (some w.heap.size),.slice none 0 0] 341)):=(Fr.refl _).alloc _
  have hCh0:ChAt ((w.alloc (.map #[] 0)).alloc (.cells #[.map (some w.heap.size),.slice none 0 0] 341)) w.heap.size (w.heap.size+1) w.heap.size l 0 0 (.slice none 0 0):=
    ⟨hg0,hM0.fr hf1,Ow.nil,by omega,Nat.le_refl _⟩
  have hf2:=hf0.trans hf1
  generalize (w.alloc (.map #[] 0)).alloc (.cells #[.map (some w.heap.size),.slice none 0 0] 341)=W0 at *
  clear hf0 hf1 hg0 hM0 hmm
  go_loopw [4,5] (fun ov av wr=>∃ (a n:Nat) (pv:Value) (m:List Tok),a<=l.length/\av=N a/\Ow wr w.heap.size eTk ov m/\m.length<=a/\Hid (findK l=m++findGo l a)/\ChAt wr w.heap.size (w.heap.size+1) w.heap.size l a n pv/\n<=a/\Fr w wr) (fun _ av _=>l.length - (intOf av).toNat)
  case atStart=>exact⟨0,0,_,[],Nat.zero_le _,rfl,Ow.nil,Nat.zero_le _,rfl,hCh0,Nat.le_refl _,hf2⟩
  case round=>
    clear hCh0 hf2
    obtain⟨a,n,pv,m,ha,rfl,hO,hml,HE,hCh,hna,hf⟩:=hrel
    obtain⟨va,vc,hO'⟩:=hO.shape'
    subst hO'
    by_cases hlt:a<l.length
    · have hlt':(a:Int)<l.length:=by omega
      obtain⟨b,off,cap',hv,cA⟩:=HB.out wr hf a hlt
      cases hv
      have HM:=hid (findGo_match l a hlt)
      have HL:=hid (findGo_lit l a hlt)
      have hbt:=bestTo_le l a ha (min 4095 a)
      rw [show bestTo l a (min 4095 a)=bestK l a from rfl]at hbt
      generalize hx:l[a]=x at *
      replace cA:wr.cell? ⟨b,off+a,none⟩=some (.int .u8 ((x.toNat:Nat):Int)):=cA
      have hfA:Fr wr (wr.alloc (.cells #[.int .u8 (x.toNat:Int),.int .i64 0,.int .i64 0] 322)):=(Fr.refl wr).alloc _
      have htA:(wr.alloc (.cells #[.int .u8 (x.toNat:Int),.int .i64 0,.int .i64 0] 322)).heap[wr.heap.size]?=some (.cells #[.int .u8 (x.toNat:Int),.int .i64 0,.int .i64 0] 322 (0,0)):=heap_new _ _ _ rfl
      have hgt:w.heap.size+1<wr.heap.size:=(Array.getElem?_eq_some_iff.1 hCh.at0).1
      have hpt:∀ k,pv.ownBlock=some k->k<wr.heap.size:=fun k hk=>(hCh.prev.lt k hk).2
      have hot:∀ k,(Value.slice va m.length vc).ownBlock=some k->k<wr.heap.size:=fun k hk=>(hO.lt k hk).2
      have hChA:=hCh.fr hfA
      have hOA:=hO.fr hfA
      have hfwA:=hf.trans hfA
      have HLg:=hid (HLo.out _ hfwA _ _ a n pv hlt hChA)
      go_upto_region 5 with fail
      go_wp2_with fail
      generalize wr.alloc (.cells #[.int .u8 (x.toNat:Int),.int .i64 0,.int .i64 0] 322)=WA at *
      refine HLg.out.mono ?_
      rintro e WC ⟨⟨tn,td⟩,rfl,hch,ht1,ht2,hfC⟩
      simp only at ht1 ht2
      have hCh3:=hChA.fr hfC
      have hO3:=hOA.fr hfC
      have hf3:=hfwA.trans hfC
      have htC:=hfC.heap htA
      clear hCh hO hf hfA htA hChA hOA hfwA HLg cA
      generalize hbn:bestK l a=bk at *
      clear hbn
      generalize wr.heap.size=tb at *
      have j0:WC.cell? ⟨tb,0,none⟩=some (.int .u8 (x.toNat:Int)):=by rw [cell_of_heap htC];rfl
      have j1:WC.cell? ⟨tb,1,none⟩=some (.int .i64 0):=by rw [cell_of_heap htC];rfl
      have j2:WC.cell? ⟨tb,2,none⟩=some (.int .i64 0):=by rw [cell_of_heap htC];rfl
      have f0:=frozen_of_heap htC 0
      have f1:=frozen_of_heap htC 1
      have f2:=frozen_of_heap htC 2
      by_cases h3:3<=bk.1
      · have hbk:=hch.1 h3
        have hb1:bk.1=tn:=by rw [<- hbk]
        have hb2:bk.2=td:=by rw [<- hbk]
        rw [hb1]at h3 hbt
        have h3':(3:Int)<=tn:=by omega
        have HE2:Hid (findK l=(m++[⟨0,tn,td⟩])++findGo l (a+tn)):=by show _=_;rw [HE.out,HM.out (by omega),hb1,hb2];simp
        have hcs:Chg (fun k=>k=tb) WC (((WC.setCell ⟨tb,0,none⟩ (.int .u8 0)).setCell ⟨tb,1,none⟩ (N tn)).setCell ⟨tb,2,none⟩ (N td)):=
          ((setCell_chg WC ⟨tb,0,none⟩ _).trans (setCell_chg _ ⟨tb,1,none⟩ _) (fun _ _ h=>h)).trans (setCell_chg _ ⟨tb,2,none⟩ _) (fun _ _ h=>h)
        have hCh4:=hCh3.chg hcs (by omega) (by omega) (fun k hk e=>by have:=hpt k hk;omega)
        have hO4:=hO3.chg hcs (fun k hk e=>by have:=hot k hk;omega)
        have hf4:Fr w _:=Chg.below hf3 hcs hf3.size (fun i e=>by omega)
        have hEN:Hid (eTk.enc (⟨0,tn,td⟩:Tok)=[.int .u8 0,N tn,N td]):=rfl
        clear hCh3 hO3 hf3 HM HL HE hch hbk hb1 hb2
        go_upto_region 11 with fail
        have htk:(((WC.setCell ⟨tb,0,none⟩ (.int .u8 0)).setCell ⟨tb,1,none⟩ (N tn)).setCell ⟨tb,2,none⟩ (N td)).heap[tb]?=some (.cells #[.int .u8 0,N tn,N td] 322 (0,0)):=
          heap_setCell_own (heap_setCell_own (heap_setCell_own htC 0 _) 1 _) 2 _
        clear hcs j0 j1 j2 f0 f1 f2 htC hEN
        generalize ((WC.setCell ⟨tb,0,none⟩ (.int .u8 0)).setCell ⟨tb,1,none⟩ (N tn)).setCell ⟨tb,2,none⟩ (N td)=W5 at *
        have j0:W5.cell? ⟨tb,0,none⟩=some (.int .u8 0):=by rw [cell_of_heap htk];rfl
        have j1:W5.cell? ⟨tb,1,none⟩=some (N tn):=by rw [cell_of_heap htk];rfl
        have j2:W5.cell? ⟨tb,2,none⟩=some (N td):=by rw [cell_of_heap htk];rfl
        go_wp2_with (at_builtin;refine wpList_app1 eTk rfl (.tmp 35) (.tmp 37) 232 rfl Tryz.underlying232 w.heap.size rfl hO4 [⟨0,tn,td⟩] _ _ _ rfl rfl rfl (by simp;omega) hf4.size ?_)
        intro v' w6 hap
        have hCh6:=hCh4.app hO4 (by decide) hap
        have hO6:=hap.own
        have hf6:=hap.below hO4 hf4 (Nat.le_refl _) hf4.size
        clear hap hCh4 hO4 hf4
        go_wp2_with fail
        go_loopw [5,40] (fun av jv wx=>∃ (j n':Nat) (pv':Value),j<=tn/\jv=N j/\av=N (a+j)/\ChAt wx w.heap.size (w.heap.size+1) w.heap.size l (a+j) n' pv'/\n'<=a+j/\Ow wx w.heap.size eTk v' (m++[⟨0,tn,td⟩])/\Fr w wx) (fun _ jv _=>tn - (intOf jv).toNat)
        case atStart=>exact⟨0,n,pv,Nat.zero_le _,rfl,rfl,hCh6,hna,hO6,hf6⟩
        case round=>
          obtain⟨j,n',pv',hj,rfl,rfl,hCh,hnj,hO,hf⟩:=hrel
          by_cases hlt2:j<tn
          · have hlt2':(j:Int)<tn:=by omega
            have HAd:=hid (HAdd.out wr (a+j) n' pv' hf (by omega) hCh hnj)
            have HKp:=hid (fun W hc=>ch_keep (W:=W) hCh hf (by have:=hf.size;omega) (Nat.le_refl _) hc)
            have HKo:=hid (fun W hc=>ch_out (W:=W) hCh hO (by decide) hc)
            clear hCh hO
            go_wp2_with fail
            refine HAd.out.mono ?_
            rintro e w5 ⟨rfl,pv5,n5,hCh5,hn5,hC5,_⟩
            have hf5:=HKp.out w5 hC5
            have hO5:=HKo.out w5 hC5
            go_wp2_with fail
            go_roundw
            case rel=>exact⟨j+1,n5,pv5,by omega,by go_num,by go_num,hCh5,hn5,hO5,hf5⟩
            case measure=>simp [intOf];omega
          · obtain rfl:tn=j:=by omega
            have hnl2:¬(tn:Int)<tn:=by omega
            go_wp2_with fail
            go_roundw
            case rel=>exact⟨a+tn,n',pv',(m++[⟨0,tn,td⟩]),by omega,by go_num,hO,by simp;omega,HE2,hCh,hnj,hf⟩
            case measure=>simp [intOf];omega
      · have hbk:=hch.2 (by omega)
        have hb1:tn=0:=by have:=congrArg Prod.fst hbk;exact this
        have hb2:td=0:=by have:=congrArg Prod.snd hbk;exact this
        subst hb1
        subst hb2
        have HE2:Hid (findK l=(m++[⟨x,0,0⟩])++findGo l (a+1)):=by show _=_;rw [HE.out,HL.out h3];simp
        have hCh4:=hCh3
        have hO4:=hO3
        have hf4:=hf3
        clear hCh3 hO3 hf3 HM HL HE hch hbk f0 f1 f2
        obtain⟨st,hst⟩:∃ st,st=1:=⟨1,rfl⟩
        go_upto_region 11 with fail
        go_wp2_with (at_builtin;refine wpList_app1 eTk rfl (.tmp 35) (.tmp 37) 232 rfl Tryz.underlying232 w.heap.size rfl hO4 [⟨x,0,0⟩] _ _ _ rfl rfl rfl (by simp;omega) hf4.size ?_)
        intro v' w6 hap
        have hCh6:=hCh4.app hO4 (by decide) hap
        have hO6:=hap.own
        have hf6:=hap.below hO4 hf4 (Nat.le_refl _) hf4.size
        clear hap hCh4 hO4 hf4
        go_wp2_with fail
        go_loopw [5,40] (fun av jv wx=>∃ (j n':Nat) (pv':Value),j<=1/\jv=N j/\av=N (a+j)/\ChAt wx w.heap.size (w.heap.size+1) w.heap.size l (a+j) n' pv'/\n'<=a+j/\Ow wx w.heap.size eTk v' (m++[⟨x,0,0⟩])/\Fr w wx) (fun _ jv _=>1 - (intOf jv).toNat)
        case atStart=>exact⟨0,n,pv,Nat.zero_le _,rfl,rfl,hCh6,hna,hO6,hf6⟩
        case round=>
          obtain⟨j,n',pv',hj,rfl,rfl,hCh,hnj,hO,hf⟩:=hrel
          by_cases hlt2:j<1
          · have hlt2':(j:Int)<1:=by omega
            have HAd:=hid (HAdd.out wr (a+j) n' pv' hf (by omega) hCh hnj)
            have HKp:=hid (fun W hc=>ch_keep (W:=W) hCh hf (by have:=hf.size;omega) (Nat.le_refl _) hc)
            have HKo:=hid (fun W hc=>ch_out (W:=W) hCh hO (by decide) hc)
            clear hCh hO
            go_wp2_with fail
            refine HAd.out.mono ?_
            rintro e w5 ⟨rfl,pv5,n5,hCh5,hn5,hC5,_⟩
            have hf5:=HKp.out w5 hC5
            have hO5:=HKo.out w5 hC5
            go_wp2_with fail
            go_roundw
            case rel=>exact⟨j+1,n5,pv5,by omega,by go_num,by go_num,hCh5,hn5,hO5,hf5⟩
            case measure=>simp [intOf];omega
          · obtain rfl:1=j:=by omega
            have hnl2:¬(1:Int)<1:=by omega
            go_wp2_with fail
            go_roundw
            case rel=>exact⟨a+1,n',pv',(m++[⟨x,0,0⟩]),by omega,by go_num,hO,by simp;omega,HE2,hCh,hnj,hf⟩
            case measure=>simp [intOf];omega
    · obtain rfl:a=l.length:=by omega
      have hnl:¬(l.length:Int)<l.length:=by omega
      have HE2:Hid (m=findK l):=by show _=_;rw [HE.out,findGo_end l _ (Nat.le_refl _),List.append_nil]
      go_wp2_with fail
      go_ret
      exact⟨_,rfl,by rw [<- HE2.out];exact hO,hf⟩
set_option maxRecDepth 512
end Go.Proofs.YtghcmindankceaaGreatDoor
