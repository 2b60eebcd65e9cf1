/- Parts of the proof of ThreeOpens: Cu Cr9 Cv Cw Cx Cy. -/
import Derived.Test.YtijghcbpfcjjnaaGreatDoorM37
import Derived.Test.YtijghcbpfcjjnaaGreatDoorM40
import Derived.Test.YtijghcbpfcjjnaaGreatDoorM33
import Derived.Test.YtijghcbpfcjjnaaGreatDoorM36
import Derived.Test.YtijghcbpfcjjnaaGreatDoorM26
import Derived.Test.YtijghcbpfcjjnaaGreatDoorM12
import Derived.Deep.RegionHeldLaw
import Derived.BigQuiet
set_option linter.unusedVariables false
set_option linter.unusedSectionVars false
set_option linter.unusedSimpArgs false
set_option maxHeartbeats 8000000
namespace Go.Proofs.YtijghcbpfcjjnaaGreatDoor
open Go.RowKit Go.Fk
theorem results_cell_tmp1{P:Program}{fn:Func}{p q:Tmp}{ty:TypeId}(h:fn.results=#[.cell p ty,.tmp q])(tmps:Array Value)(w:World)(g:Nat)(t:TypeId)(cs:Array Value)(fr:Nat × Nat)(d:TypeDesc)(v:Value)
  (hp:tmps.getD p undef=.pointer (some ⟨g,0,none⟩)) (hq:tmps.getD q undef=v) (hg:w.heap[g]?=some (.cells cs t fr))
  (hu:P.underlying ty=some d) (hd:(match d with | .struct _ | .array _ _=>true | _=>false)=true) (hi:(P.info? ty).map (·.size)=some cs.size) :
  (results fn tmps).run P w=.ok (.tuple #[.agg cs,v]) w:=by
 have hp':tmps[p]?.getD undef=.pointer (some ⟨g,0,none⟩):=by simpa using hp
 have hq':tmps[q]?.getD undef=v:=by simpa using hq
 simp [results,h,hp',hq',asAddr,run_loadVar_row w g t ty cs fr d hg hu hd hi]
abbrev idxZ:Array Value:=#[.slice none 0 0,.slice none 0 0]
theorem dictGo_len(b:List UInt8)(size n:Nat)(l:List Nat):∀ (i:Nat) (s:Cs) (t:List (List UInt8)),(∀ x∈t,x.length<=25)->(dictGo b size n l i s t).1.length<=t.length+l.length*size:=by
 induction l with
 | nil=>intro i s t _;show t.length<=_;omega
 | cons k r ih=>
  intro i s t h
  rw [dictGo]
  have h0:=fillGo_ok (s.take b k).1 (min size (n - i*size)) 0 ⟨0,0⟩ t h
  split
  · split
    · have:=ih (i+1) (s.take b k).2 _ h0.1
      rw [List.length_cons,Nat.succ_mul]
      omega
    · exact Nat.zero_le _
  · exact Nat.zero_le _
theorem dictR_len(size:Nat)(b:List UInt8)(h1:1<=size)(h2:size<=64):(dictR size b).1.length<=100000000:=by
  have hn:(dictN b).1<=1048576:=by
    show Cs.val _ _<=_
    unfold Cs.val
    split
    · rename_i h;exact(limL_ok _ _ h.2).2.2
    · exact Nat.zero_le _
  have hK:=szGo_len b (((dictN b).1+size - 1) / size) (dictN b).2 []
  have hKn:((dictN b).1+size - 1) / size<=1048640:=Nat.le_trans (Nat.div_le_self _ _) (by omega)
  have hD:=dictGo_len b size (dictN b).1 (dictZ size b).1 0 (dictZ size b).2 [] (fun x hx=>(List.not_mem_nil hx).elim)
  have hz:(dictZ size b).1.length<=1048640:=by unfold dictZ;simp at hK;omega
  have hm:(dictZ size b).1.length*size<=1048640*64:=Nat.mul_le_mul hz h2
  unfold dictR
  split
  · show(dictGo b size (dictN b).1 (dictZ size b).1 0 (dictZ size b).2 []).1.length<=_
    simp at hD;omega
  · exact Nat.zero_le _
theorem szGo_at(b:List UInt8)(k:Nat):∀ (s:Cs) (l:List Nat),s.at_<=b.length->(szGo b k s l).2.at_<=b.length:=by
 induction k with
 | zero=>intro s l h;exact h
 | succ k ih=>
  intro s l h
  rw [szGo]
  split
  · exact ih _ _ (Cs.int_le s b 2000 h)
  · exact h
theorem dictGo_at(b:List UInt8)(size n:Nat)(l:List Nat):∀ (i:Nat) (s:Cs) (t:List (List UInt8)),s.at_<=b.length->(dictGo b size n l i s t).2.1.at_<=b.length:=by
 induction l with
 | nil=>intro i s t h;exact h
 | cons k r ih=>
  intro i s t h
  rw [dictGo]
  have h1:=Cs.take_le s b k h
  split
  · split
    · exact ih _ _ _ h1
    · exact h1
  · exact h1
theorem dictR_at(size:Nat)(b:List UInt8):(dictR size b).2.1<=b.length:=by
 unfold dictR
 split
 · exact dictGo_at b size _ _ _ _ _ (szGo_at b _ _ _ (Cs.int_le ⟨0,0⟩ b 1048576 (Nat.zero_le _)))
 · exact Nat.zero_le _
set_option maxRecDepth 100000
theorem PRead_any(size bound:Nat)(h1:1<=size)(h2:size<=64)(hb:bound<=20000)(v:Value)(b:List UInt8)(w:World)(hs:See w eB v b)(hl:b.length<=1000000) :
  Calls Tryz.prog 39 #[N size,N bound,v] w fun e w'=>∃ tv lv,e=.returned (.tuple #[.agg #[tv,lv],.int .i64 ((postR size bound b).2.2:Int)])/\Ow w' w.heap.size eS tv (postR size bound b).1/\(∃ ps,Ow w' w.heap.size eHi lv ps/\Owns w' w.heap.size eJ ps (postR size bound b).2.1)/\Fr w w':=by
 have HRd:=hid (fun W (hf:Fr w W)=>DRead_any size h1 h2 v b W (hs.fr hf) hl)
 have hdl:=dictR_len size b h1 h2
 have hda:=dictR_at size b
 have HR:Hid (postR size bound b=if(dictR size b).2.2=0 then(if(listsGo bound (b.drop (dictR size b).2.1) (dictR size b).1.length 0 []).2=0 then((dictR size b).1,(listsGo bound (b.drop (dictR size b).2.1) (dictR size b).1.length 0 []).1,0)else([],[],(listsGo bound (b.drop (dictR size b).2.1) (dictR size b).1.length 0 []).2))else([],[],(dictR size b).2.2)):=rfl
 have HS:=hid hs
 have b1:¬(bound:Int)<0:=by omega
 have b2:¬(20000:Int)<bound:=by omega
 have hinf:(Tryz.prog.info? 36).map (·.size)=some idxZ.size:=by kernel_rfl
 have hone:idxZ.all (·.oneCell')=true:=by rw [List.all_toArray];rfl
 have hR0:(w.alloc (.cells idxZ 36)).heap[w.heap.size]?=some (.cells idxZ 36 (0,0)):=heap_new _ _ _ rfl
 have hf0:Fr w (w.alloc (.cells idxZ 36)):=(Fr.refl w).alloc _
 obtain⟨a0,cap,hv,_⟩:=hs.shape
 subst hv
 clear hs
 have HRd0:=hid (HRd.out _ hf0)
 generalize postR size bound b=R at *
 have HD:Hid (dictR size b=((dictR size b).1,(dictR size b).2.1,(dictR size b).2.2)):=rfl
 generalize (dictR size b).1=T at *
 generalize (dictR size b).2.1=at_ at *
 generalize (dictR size b).2.2=er at *
 clear HRd HD
 generalize hW0:w.alloc (.cells idxZ 36)=W0 at *
 have hsz0:=hf0.size
 go_enter Tryz.func39, Tryz.ntmps39
 go_upto_region 1 with fail
 clear hW0
 go_wp2_with fail
 refine(HRd0.out).mono ?_
 rintro e w2 ⟨pv,rfl,hf2,hok⟩
 have hR2:=hf2.heap hR0
 have hf02:=hf0.trans hf2
 have hRlt:w.heap.size<W0.heap.size:=(Array.getElem?_eq_some_iff.1 hR0).1
 clear HRd0 hR0
 by_cases he:er=0
 · rw [if_pos he]at HR
   obtain⟨g,base,hs5,rfl,hgw,hD⟩:=hok he
   subst he
   clear hok
   have HD:=hid hD
   have HLen:=hid (fun W (h:Fr w2 W)=>DLen_any g base size T hs5 W (hD.fr h))
   have HAll:=hid (fun W (h:Fr w2 W)=>DAll_any g base size T hs5 W (hD.fr h) hdl)
   obtain⟨f1,f2,hfrm,hfs⟩:=run_from eB 22 Tryz.underlying22 HS.out at_ hda
   have hdr:(b.drop at_).length<=1000000:=by rw [List.length_drop];omega
   have HLs:=hid (fun W (h:Fr w2 W)=>plists_any T.length bound hb _ (b.drop at_) W (hfs.fr (hf02.trans h)) hdr hdl)
   clear hfs hdr hD
   generalize b.length - at_=bl at *
   generalize listsGo bound (b.drop at_) T.length 0 []=L at *
   go_upto_region 6 with fail
   go_region_held3 (fun _ => True)
    (first | trivial | go_keep)
    ((first
     | (go_at_call 87; refine (HLen.out _ (by first | exact Fr.refl _ | exact (Fr.refl _).drew)).mono ?_; rintro e w3 ⟨rfl, rfl⟩)
     | (go_at_call 86; refine (HLs.out _ (by first | exact Fr.refl _ | exact (Fr.refl _).drew)).mono ?_; rintro e w3 ⟨lu, rfl, ⟨ps, hL3, hP3⟩, hf3⟩; obtain ⟨la, lc, hlu⟩ := hL3.shape'; subst hlu)))
   have hf23:Fr w2 w3:=by first | exact hf3 | exact((Fr.refl w2).drew).trans hf3
   have hR3:=hf23.heap hR2
   have hf03:=hf02.trans hf23
   have HAl3:=hid (HAll.out w3 hf23)
   have hLr:=hL3.rebase (show w.heap.size<=_ from hf02.size)
   have hPr:=hP3.rebase (show w.heap.size<=_ from hf02.size)
   clear HLen HLs HAll hL3 hP3 hR2 HD
   by_cases hl0:L.2=0
   · rw [if_pos hl0]at HR
     have hl0':((L.2:Nat):Int)=0:=by omega
     rw [hl0']
     clear hl0 hl0'
     go_wp2_with fail
     refine(HAl3.out).mono ?_
     rintro e w4 ⟨tu,rfl,hT4,hf4⟩
     obtain⟨ta,tc,htu⟩:=hT4.shape'
     subst htu
     have hR4:=hf4.heap hR3
     have hf04:=hf03.trans hf4
     have hone4:(#[Value.slice ta T.length tc,.slice la ps.length lc]:Array Value).all (·.oneCell')=true:=by rw [List.all_toArray];rfl
     have hinf4:(Tryz.prog.info? 36).map (·.size)=some (#[Value.slice ta T.length tc,.slice la ps.length lc]:Array Value).size:=by kernel_rfl
     have hG:=setRow_heap w4 w.heap.size idxZ #[.slice ta T.length tc,.slice la ps.length lc] 36 (0,0) hR4
     have hst:=setRow_chg w4 w.heap.size #[.slice ta T.length tc,.slice la ps.length lc]
     have hff:=Chg.below hf04 hst hf04.size (fun k hk=>by omega)
     have hTr:Ow (w4.setRow w.heap.size #[.slice ta T.length tc,.slice la ps.length lc]) w.heap.size eS (.slice ta T.length tc) T:=(hT4.rebase hf03.size).chg hst (fun k hk e=>hT4.ne_cells hR4 (by decide) (by rw [hk,show k=w.heap.size from e]))
     have hLr4:=hLr.fr hf4
     have hLrr:=hLr4.chg hst (fun k hk e=>hLr4.ne_cells hR4 (by decide) (by rw [hk,show k=w.heap.size from e]))
     have hPr4:=hPr.fr hf4
     have hPrr:Owns (w4.setRow w.heap.size #[.slice ta T.length tc,.slice la ps.length lc]) w.heap.size eJ ps L.1:=⟨hPr4.1,fun i x1 x2=>(hPr4.2 i x1 x2).chg hst (fun k hk e=>(hPr4.2 i x1 x2).ne_cells hR4 (by decide) (by rw [hk,show k=w.heap.size from e]))⟩
     clear HAl3 hLr hPr hLr4 hPr4 hT4 hst
     go_wp2_with (first | (refine wpList_store_row rfl 36 (.tmp 6) (.tmp 47) rfl w.heap.size #[.slice ta T.length tc,.slice la ps.length lc] rfl rfl 36 _ hR4 hinf rfl hone4 ?_))
     go_wp2_with fail
     (try simp only [Exit.inBlock,Exit.then])
     refine bodyPost_ret (v:=.tuple #[.agg #[.slice ta T.length tc,.slice la ps.length lc],.int .i64 0]) (results_cell_tmp1 Tryz.results39 _ _ w.heap.size 36 _ (0,0) _ _ rfl rfl hG Tryz.underlying36 rfl hinf4) rfl ?_
     rw [HR.out]
     exact⟨_,_,rfl,hTr,⟨ps,hLrr,hPrr⟩,hff⟩
   · rw [if_neg hl0]at HR
     have hl0':¬(L.2:Int)=0:=by omega
     have hG:=setRow_heap w3 w.heap.size idxZ idxZ 36 (0,0) hR3
     have hff:Fr w (w3.setRow w.heap.size idxZ):=Chg.below hf03 (setRow_chg _ _ _) hf03.size (fun k hk=>by omega)
     clear hl0
     go_wp2_with (first | (refine wpList_store_row rfl 36 (.tmp 6) (.tmp 42) rfl w.heap.size idxZ rfl rfl 36 _ hR3 hinf rfl hone ?_))
     go_wp2_with fail
     (try simp only [Exit.inBlock,Exit.then])
     refine bodyPost_ret (v:=.tuple #[.agg idxZ,.int .i64 (L.2:Int)]) (results_cell_tmp1 Tryz.results39 _ _ w.heap.size 36 _ (0,0) _ _ rfl rfl hG Tryz.underlying36 rfl hinf) rfl ?_
     rw [HR.out]
     exact⟨_,_,rfl,Ow.nil,⟨[],Ow.nil,⟨rfl,fun t h=>by simp at h⟩⟩,hff⟩
 · rw [if_neg he]at HR
   have he':¬(er:Int)=0:=by omega
   clear hok
   go_wp2_with (first | (refine wpList_store_row rfl 36 (.tmp 6) (.tmp 28) rfl w.heap.size idxZ rfl rfl 36 _ hR2 hinf rfl hone ?_))
   have hG:=setRow_heap w2 w.heap.size idxZ idxZ 36 (0,0) hR2
   have hff:Fr w (w2.setRow w.heap.size idxZ):=Chg.below hf02 (setRow_chg _ _ _) hf02.size (fun k hk=>by omega)
   go_wp2_with fail
   (try simp only [Exit.inBlock,Exit.then])
   refine bodyPost_ret (v:=.tuple #[.agg idxZ,.int .i64 (er:Int)]) (results_cell_tmp1 Tryz.results39 _ _ w.heap.size 36 _ (0,0) _ _ rfl rfl hG Tryz.underlying36 rfl hinf) rfl ?_
   rw [HR.out]
   exact⟨_,_,rfl,Ow.nil,⟨[],Ow.nil,⟨rfl,fun t h=>by simp at h⟩⟩,hff⟩
set_option maxRecDepth 512
theorem boxI_push{w w':World}{X base:Nat}{tv lv v':Value}{ps qs:List Hd}(hX:w.heap[X]?=some (.cells #[tv,lv] 36 (0,0)))(hO:Ow w base eHi lv ps)(hXb:X<base)(hap:App base eHi qs w lv v' w') :
  (w'.setCell ⟨X,1,none⟩ v').heap[X]?=some (.cells #[tv,v'] 36 (0,0))/\w'.cell? ⟨X,1,none⟩=some lv/\w'.frozen? ⟨X,1,none⟩=false:=by
 have hG:=hap.chg'.heap hX (fun e=>by have:=(hO.lt _ e).1;omega)
 exact⟨heap_setCell_own hG 1 v',by rw [cell_of_heap hG];rfl,frozen_of_heap hG 1⟩
set_option maxRecDepth 100000
theorem RPRead_any(size bound:Nat)(h1:1<=size)(h2:size<=64)(hb:bound<=20000)(v:Value)(b:List UInt8)(w:World)(hs:See w eB v b)(hl:b.length<=1000000) :
  Calls Tryz.prog 48 #[N size,N bound,v] w fun e w'=>∃ tv lv,e=.returned (.tuple #[.agg #[tv,lv],.int .i64 ((postR size bound b).2.2:Int)])/\Ow w' w.heap.size eS tv (postR size bound b).1/\(∃ ps,Ow w' w.heap.size eHi lv ps/\Owns w' w.heap.size eJ ps (postR size bound b).2.1)/\Fr w w':=by
 have HRd:=hid (fun W (hf:Fr w W)=>RDRead_any size h1 h2 v b W (hs.fr hf) hl)
 have HRe:=hid (fun v q W hs (hq:q.length<=1000000)=>RERead_any bound hb v q W hs hq)
 have HOk:=hid (fun q h=>efR_ok bound q h)
 have hdl:=dictR_len size b h1 h2
 have hda:=dictR_at size b
 have HR:Hid (postR size bound b=if(dictR size b).2.2=0 then(if(listsGo bound (b.drop (dictR size b).2.1) ((dictR size b).1.length - 0) 0 []).2=0 then((dictR size b).1,(listsGo bound (b.drop (dictR size b).2.1) ((dictR size b).1.length - 0) 0 []).1,0)else([],[],(listsGo bound (b.drop (dictR size b).2.1) ((dictR size b).1.length - 0) 0 []).2))else([],[],(dictR size b).2.2)):=rfl
 have HS:=hid hs
 have b1:¬(bound:Int)<0:=by omega
 have b2:¬(20000:Int)<bound:=by omega
 have z1:¬(size:Int)<1:=by omega
 have z2:¬(64:Int)<size:=by omega
 have hinf:(Tryz.prog.info? 36).map (·.size)=some idxZ.size:=by kernel_rfl
 have hone:idxZ.all (·.oneCell')=true:=by rw [List.all_toArray];rfl
 have hR0:(w.alloc (.cells idxZ 36)).heap[w.heap.size]?=some (.cells idxZ 36 (0,0)):=heap_new _ _ _ rfl
 have hf0:Fr w (w.alloc (.cells idxZ 36)):=(Fr.refl w).alloc _
 obtain⟨a0,cap,hv,_⟩:=hs.shape
 subst hv
 clear hs
 have HRd0:=hid (HRd.out _ hf0)
 have HStp:=hid (fun n=>listsGo_step bound (b.drop (dictR size b).2.1) n)
 generalize postR size bound b=R at *
 generalize (dictR size b).1=T at *
 generalize (dictR size b).2.1=at_ at *
 generalize (dictR size b).2.2=er at *
 clear HRd
 generalize hW0:w.alloc (.cells idxZ 36)=W0 at *
 have hsz0:=hf0.size
 have hRlt:w.heap.size<W0.heap.size:=(Array.getElem?_eq_some_iff.1 hR0).1
 go_enter Tryz.func48, Tryz.ntmps48
 go_upto_region 1 with fail
 clear hW0
 go_wp2_with fail
 refine(HRd0.out).mono ?_
 rintro e w2 ⟨tv,rfl,hT,hf2⟩
 have hR2:=hf2.heap hR0
 have hf02:=hf0.trans hf2
 obtain⟨ta,tc,htv⟩:=hT.shape'
 subst htv
 clear HRd0 hR0
 by_cases he:er=0
 · rw [if_pos he]at HR
   subst he
   obtain⟨X,hXs⟩:∃ X,X=w2.heap.size:=⟨_,rfl⟩
   have hX3:(w2.alloc (.cells #[.slice ta T.length tc,.slice none 0 0] 36)).heap[X]?=some (.cells #[.slice ta T.length tc,.slice none 0 0] 36 (0,0)):=heap_new _ _ _ hXs
   have hf3:Fr w2 (w2.alloc (.cells #[.slice ta T.length tc,.slice none 0 0] 36)):=(Fr.refl w2).alloc _
   have hR3:=hf3.heap hR2
   have hT3:=hT.fr hf3
   have hf03:=hf02.trans hf3
   have hwX:W0.heap.size<=X:=by rw [hXs];exact hf2.size
   obtain⟨L,hLd⟩:∃ L,L=listsGo bound (b.drop at_) (T.length - 0) 0 []:=⟨_,rfl⟩
   rw [<- hLd]at HR
   have HL:=hid hLd
   have HX1:Hid ((w2.alloc (.cells #[.slice ta T.length tc,.slice none 0 0] 36)).heap.size=X+1):=by show _=_;simp [hXs]
   have HTb:=hid (fun k (hk:(Value.slice ta T.length tc).ownBlock=some k)=>(show W0.heap.size<=k/\k<X by rw [hXs];exact hT.lt k hk))
   clear hLd hR2 hf2 hf02 hf0 hT
   go_upto_region 7 with fail
   rw [<- hXs]
   have HXs:=hid hXs
   clear hXs
   generalize w2.alloc (.cells #[.slice ta T.length tc,.slice none 0 0] 36)=W3 at *
   go_wp2_with fail
   go_loopw [9,12] (fun av iv wr=>∃ (i a p:Nat) (ps:List Hd) (ls:List (List Nat)),i<=T.length/\iv=N i/\av=N p/\Hid (p=at_+a)/\p<=b.length/\ls.length=i/\(∃ lv,wr.heap[X]?=some (.cells #[.slice ta T.length tc,lv] 36 (0,0))/\Ow wr (X+1) eHi lv ps)/\Owns wr (X+1) eJ ps ls/\Chg (fun k=>X<=k) W3 wr/\Hid (L=listsGo bound (b.drop at_) (T.length - i) a ls)) (fun _ iv _=>T.length - (intOf iv).toNat)
   case atStart=>exact⟨0,0,at_,[],[],Nat.zero_le _,rfl,rfl,rfl,hda,rfl,⟨_,hX3,Ow.nil⟩,⟨rfl,fun t h=>by simp at h⟩,Chg.refl _ _,HL.out⟩
   case round=>
    clear hX3 HL hda
    obtain⟨i,a,p,ps,ls,hi,rfl,rfl,HP,hp,hll,⟨lv,hX,hO⟩,hR,hch,HLk⟩:=hrel
    have hff:Fr w wr:=((hf03.chg (fun k=>X<=k)).trans hch fun _ _ h=>h).fr (fun k hk e=>by have e:X<=k:=e;omega)
    have hRr:=hch.heap hR3 (fun e=>by have e:X<=_:=e;omega)
    have hTr:=hT3.chg hch (fun k hk e=>by have:=HTb.out k hk;have e:X<=k:=e;omega)
    obtain⟨la,lc,hlv⟩:=hO.shape'
    subst hlv
    by_cases hlt:i<T.length
    · have i1:(i:Int)<T.length:=by omega
      obtain⟨f1,f2,hfrm,hfs⟩:=run_from eB 22 Tryz.underlying22 HS.out p hp
      have hdr:(b.drop p).length=b.length - p:=List.length_drop ..
      have HR1:=hid (HRe.out _ (b.drop p) wr (hfs.fr hff) (by omega))
      have HO1:=hid (HOk.out (b.drop p))
      have HS1:=hid (HLk.out.trans (HStp.out T.length i a ls hlt))
      have hqe:(b.drop at_).drop a=b.drop p:=by rw [List.drop_drop,HP.out]
      rw [hqe]at HS1
      have HDl:=hid hdr
      clear hfs hdr HLk hqe
      generalize hq:efR bound (b.drop p)=Q at *
      clear hq
      generalize hbl:b.length - p=bl at *
      have HBl:=hid hbl
      clear hbl
      go_wp2_with fail
      refine(HR1.out).mono ?_
      rintro e w5 ⟨u,rfl,hU,hf5⟩
      obtain⟨ua,uc,hu⟩:=hU.shape'
      subst hu
      have hX5:=hf5.heap hX
      have hO5:=hO.fr hf5
      have hR5:=hR.fr hf5
      have hRr5:=hf5.heap hRr
      have hff5:=hff.trans hf5
      have hch5:Chg (fun k=>X<=k) W3 w5:=hch.trans (hf5.chg (fun k=>X<=k)) fun _ _ h=>h
      have hz5:X+1<=w5.heap.size:=by rw [<- HX1.out];exact hch5.size
      have hzr:X+1<=wr.heap.size:=by rw [<- HX1.out];exact hch.size
      clear HR1 hO hR hRr hff hch hTr hX
      by_cases he:Q.2.2=0
      · rw [if_pos he]at HS1
        obtain⟨o1,o2,o3,o4⟩:=HO1.out he
        have he':((Q.2.2:Nat):Int)=0:=by omega
        rw [he']
        by_cases hn0:Q.1=[]
        · rw [if_pos hn0]at HS1
          have HR2:Hid (R=([],[],2)):=by
           have hL:L=([],2):=HS1.out
           show _=_;rw [HR.out,hL];rfl
          rw [hn0]at hU ⊢
          clear hn0 HS1 o1 o2 o3 o4 he he' HO1 hU
          have hG:=setRow_heap w5 w.heap.size idxZ idxZ 36 (0,0) hRr5
          have hfe:Fr w (w5.setRow w.heap.size idxZ):=Chg.below hff5 (setRow_chg _ _ _) hff5.size (fun k hk=>by omega)
          go_wp2_with (first | (refine wpList_store_row rfl 36 (.tmp 6) (.tmp 66) rfl w.heap.size idxZ rfl rfl 36 _ hRr5 hinf rfl hone ?_))
          go_wp2_with fail
          (try simp only [Exit.inBlock,Exit.then])
          refine bodyPost_ret (v:=.tuple #[.agg idxZ,.int .i64 2]) (results_cell_tmp1 Tryz.results48 _ _ w.heap.size 36 _ (0,0) _ _ rfl rfl hG Tryz.underlying36 rfl hinf) rfl ?_
          rw [HR2.out]
          exact⟨_,_,rfl,Ow.nil,⟨[],Ow.nil,⟨rfl,fun t h=>by simp at h⟩⟩,hfe⟩
        · rw [if_neg hn0]at HS1
          have hl0:¬((Q.1.length:Nat):Int)=0:=by
           intro e
           exact hn0 (List.eq_nil_of_length_eq_zero (by omega))
          have HLn:Hid (L=listsGo bound (b.drop at_) (T.length - (i+1)) (a+Q.2.1) (ls++[Q.1])):=HS1.out
          have HPn:Hid (p+Q.2.1=at_+(a+Q.2.1)):=by show _=_;rw [HP.out,Nat.add_assoc]
          have hpn:p+Q.2.1<=b.length:=by have:=HDl.out;have:=HBl.out;omega
          have hPl:ps.length=i:=by rw [hR5.1,hll]
          have hUb:=hU.rebase hzr
          have HC1:Hid (ps.length+[(⟨none,0,0⟩:Hd)].length<=2147483648):=by show _<=_;simp;omega
          have d1:w5.cell? ⟨X,1,none⟩=some (.slice la ps.length lc):=by rw [cell_of_heap hX5];rfl
          have HPl:=hid hPl
          have HLl:=hid hll
          clear hn0 HS1 o1 o2 o3 o4 he he' HO1 hU hPl hll HBl
          generalize Q.2.1=tk at *
          generalize Q.1=ids at *
          go_wp2_with (at_builtin;refine wpList_app1 eHi rfl (.tmp 68) (.tmp 70) 34 rfl Tryz.underlying34 (X+1) rfl hO5 [⟨ua,ids.length,uc⟩] _ _ _ rfl rfl rfl HC1.out hz5 ?_)
          intro v6 w6 hap
          have hR6:=(hR5.app hO5 hap (by decide)).snoc (x:=⟨ua,ids.length,uc⟩) (own_app hUb hO5 hap (by decide))
          have hll:=HLl.out
          obtain⟨va,vc,hv6⟩:=hap.own.shape'
          rw [show(ps++[(⟨ua,ids.length,uc⟩:Hd)]).length=ps.length+1 from by simp]at hv6
          subst hv6
          obtain⟨hX7,e1,e2⟩:=boxI_push hX5 hO5 (Nat.lt_succ_self X) hap
          have hO7:=own_set_other (i:=1) (u:=.slice va (ps.length+1) vc) hap.own (Nat.lt_succ_self X)
          have hR7:Owns (w6.setCell ⟨X,1,none⟩ (.slice va (ps.length+1) vc)) (X+1) eJ (ps++[⟨ua,ids.length,uc⟩]) (ls++[ids]):=⟨hR6.1,fun t h1 h2=>own_set_other (i:=1) (hR6.2 t h1 h2) (Nat.lt_succ_self X)⟩
          have hch7:Chg (fun k=>X<=k) W3 (w6.setCell ⟨X,1,none⟩ (.slice va (ps.length+1) vc)):=(hch5.trans hap.chg' fun k _ e=>by have:=(hO5.lt k e).1;show X<=k;omega).trans (setCell_chg w6 ⟨X,1,none⟩ _) fun k _ e=>by have e:k=X:=e;show X<=k;omega
          clear hR6 hap hO5 hR5 hch5 hUb hX5
          go_wp2_with fail
          go_roundw
          case rel=>exact⟨i+1,a+tk,p+tk,ps++[⟨ua,ids.length,uc⟩],ls++[ids],by omega,by go_num,by go_num,HPn.out,hpn,by rw [List.length_append,hll];rfl,⟨_,hX7,hO7⟩,hR7,hch7,HLn.out⟩
          case measure=>simp [intOf];omega
      · rw [if_neg he]at HS1
        have HR2:Hid (R=([],[],Q.2.2)):=by
         have hL:L=([],Q.2.2):=HS1.out
         show _=_;rw [HR.out,hL];exact if_neg he
        have he':¬(Q.2.2:Int)=0:=by omega
        clear he HS1 HO1 hU
        have hG:=setRow_heap w5 w.heap.size idxZ idxZ 36 (0,0) hRr5
        have hfe:Fr w (w5.setRow w.heap.size idxZ):=Chg.below hff5 (setRow_chg _ _ _) hff5.size (fun k hk=>by omega)
        go_wp2_with (first | (refine wpList_store_row rfl 36 (.tmp 6) (.tmp 61) rfl w.heap.size idxZ rfl rfl 36 _ hRr5 hinf rfl hone ?_))
        go_wp2_with fail
        (try simp only [Exit.inBlock,Exit.then])
        refine bodyPost_ret (v:=.tuple #[.agg idxZ,.int .i64 (Q.2.2:Int)]) (results_cell_tmp1 Tryz.results48 _ _ w.heap.size 36 _ (0,0) _ _ rfl rfl hG Tryz.underlying36 rfl hinf) rfl ?_
        rw [HR2.out]
        exact⟨_,_,rfl,Ow.nil,⟨[],Ow.nil,⟨rfl,fun t h=>by simp at h⟩⟩,hfe⟩
    · obtain rfl:i=T.length:=by omega
      have hnl:¬(T.length:Int)<T.length:=by omega
      have HLn:Hid (L=if a<(b.drop at_).length then([],2)else(ls,0)):=by show _=_;rw [HLk.out,Nat.sub_self];rfl
      have hdr:(b.drop at_).length=b.length - at_:=List.length_drop ..
      have hpa:=HP.out
      have HX5:=hid hX
      clear HLk
      by_cases hal:p<b.length
      · have k1:(p:Int)<b.length:=by omega
        have HR2:Hid (R=([],[],2)):=by
         have hL:L=([],2):=by rw [HLn.out,if_pos (by omega)]
         show _=_;rw [HR.out,hL];rfl
        clear hdr hpa HLn
        have hG:=setRow_heap wr w.heap.size idxZ idxZ 36 (0,0) hRr
        have hfe:Fr w (wr.setRow w.heap.size idxZ):=Chg.below hff (setRow_chg _ _ _) hff.size (fun k hk=>by omega)
        go_wp2_with (first | (refine wpList_store_row rfl 36 (.tmp 6) (.tmp 80) rfl w.heap.size idxZ rfl rfl 36 _ hRr hinf rfl hone ?_))
        go_wp2_with fail
        (try simp only [Exit.inBlock,Exit.then])
        refine bodyPost_ret (v:=.tuple #[.agg idxZ,.int .i64 2]) (results_cell_tmp1 Tryz.results48 _ _ w.heap.size 36 _ (0,0) _ _ rfl rfl hG Tryz.underlying36 rfl hinf) rfl ?_
        rw [HR2.out]
        exact⟨_,_,rfl,Ow.nil,⟨[],Ow.nil,⟨rfl,fun t h=>by simp at h⟩⟩,hfe⟩
      · have k1:¬(p:Int)<b.length:=by omega
        have HR2:Hid (R=(T,ls,0)):=by
         have hL:L=(ls,0):=by rw [HLn.out,if_neg (by omega)]
         show _=_;rw [HR.out,hL];rfl
        have hone4:(#[Value.slice ta T.length tc,.slice la ps.length lc]:Array Value).all (·.oneCell')=true:=by rw [List.all_toArray];rfl
        have hinf4:(Tryz.prog.info? 36).map (·.size)=some (#[Value.slice ta T.length tc,.slice la ps.length lc]:Array Value).size:=by kernel_rfl
        have hG:=setRow_heap wr w.heap.size idxZ #[.slice ta T.length tc,.slice la ps.length lc] 36 (0,0) hRr
        have hst:=setRow_chg wr w.heap.size #[.slice ta T.length tc,.slice la ps.length lc]
        have hfe:=Chg.below hff hst hff.size (fun k hk=>by omega)
        have hwb:w.heap.size<=X+1:=by omega
        have hT9:=ow_g (hTr.rebase (show w.heap.size<=W0.heap.size from hsz0)) hRr (by decide) hst
        have hO9:=ow_g (hO.rebase hwb) hRr (by decide) hst
        have hR9:=owns_g (hR.rebase hwb) hRr (by decide) hst
        clear hdr hpa HLn hst
        go_wp2_with (first | (refine wpList_load_row rfl 36 (.tmp 11) rfl X rfl 36 #[.slice ta T.length tc,.slice la ps.length lc] (0,0) _ HX5.out Tryz.underlying36 rfl hinf4 ?_) | (refine wpList_store_row rfl 36 (.tmp 6) (.tmp 81) rfl w.heap.size #[.slice ta T.length tc,.slice la ps.length lc] rfl rfl 36 _ hRr hinf rfl hone4 ?_))
        go_wp2_with fail
        (try simp only [Exit.inBlock,Exit.then])
        refine bodyPost_ret (v:=.tuple #[.agg #[.slice ta T.length tc,.slice la ps.length lc],.int .i64 0]) (results_cell_tmp1 Tryz.results48 _ _ w.heap.size 36 _ (0,0) _ _ rfl rfl hG Tryz.underlying36 rfl hinf4) rfl ?_
        rw [HR2.out]
        exact⟨_,_,rfl,hT9,⟨ps,hO9,hR9⟩,hfe⟩
 · rw [if_neg he]at HR
   have he':¬(er:Int)=0:=by omega
   clear he hT
   have hG:=setRow_heap w2 w.heap.size idxZ idxZ 36 (0,0) hR2
   have hfe:Fr w (w2.setRow w.heap.size idxZ):=Chg.below hf02 (setRow_chg _ _ _) hf02.size (fun k hk=>by omega)
   go_wp2_with (first | (refine wpList_store_row rfl 36 (.tmp 6) (.tmp 40) rfl w.heap.size idxZ rfl rfl 36 _ hR2 hinf rfl hone ?_))
   go_wp2_with fail
   (try simp only [Exit.inBlock,Exit.then])
   refine bodyPost_ret (v:=.tuple #[.agg idxZ,.int .i64 (er:Int)]) (results_cell_tmp1 Tryz.results48 _ _ w.heap.size 36 _ (0,0) _ _ rfl rfl hG Tryz.underlying36 rfl hinf) rfl ?_
   rw [HR.out]
   exact⟨_,_,rfl,Ow.nil,⟨[],Ow.nil,⟨rfl,fun t h=>by simp at h⟩⟩,hfe⟩
set_option maxRecDepth 512
theorem leN_four(q:List UInt8)(h:q.length=4):leN q<4294967296:=by
 have:=leN_lt q
 rw [h]at this
 exact this
set_option maxRecDepth 100000
theorem foot_any (v : Value) (b : List UInt8) (w : World) (hs : See w eB v b) (hl : b.length ≤ 1000000) (ht : Crc w) :
    Calls Tryz.prog 33 #[v] w fun e w'=>∃ rv dv,e=.returned (.tuple #[rv,dv,.int .i64 (ftE b:Int)])/\(ftE b=0->See w' eB rv (bdRest b)/\Ow w' w.heap.size eB dv (bdDir b))/\Fr w w':=by
  obtain⟨a0,cap,hv,hc1,hc2,_⟩:=hs.shape
  subst hv
  by_cases h4:b.length<4
  · have hw:IntKind.i64.wrap ((b.length:Int) - 4)=(b.length:Int) - 4:=IntWalk.i64_in _ (by omega)
    have hlt:(b.length:Int) - 4<0:=by omega
    have HE:Hid (ftE b=1):=by show _=_;unfold ftE;rw [if_pos h4]
    rw [HE.out]
    clear HE
    go_enter Tryz.func33, Tryz.ntmps33
    go_wp2_with fail
    go_ret3
    exact⟨_,_,rfl,fun h=>absurd h (by decide),Fr.refl w⟩
  · obtain⟨n,hn4⟩:∃ n,n=b.length - 4:=⟨_,rfl⟩
    have hw:IntKind.i64.wrap ((b.length:Int) - 4)=(n:Int):=by rw [IntWalk.i64_in _ (by omega)];omega
    have hge:¬(n:Int)<0:=by omega
    have hdl:(b.drop n).length=4:=by rw [List.length_drop];omega
    have hE:ftE b=if n<ftK b then 1 else errCut (ftD b):=by unfold ftE;rw [if_neg h4,hn4]
    have hD:ftD b=(b.take n).drop (n - ftK b):=by unfold ftD;rw [hn4]
    have hRe:bdRest b=b.take (n - ftK b):=by unfold bdRest;rw [hn4]
    have hKe:ftK b=leN (((b.drop n).drop 0).take 4):=by unfold ftK;rw [<- hn4,List.drop_zero,List.take_of_length_le (by omega)]
    have hk4:ftK b<4294967296:=by unfold ftK;rw [<- hn4];exact leN_four _ hdl
    obtain⟨f1,f2,hfr,hfs⟩:=run_from eB 22 Tryz.underlying22 hs n (by omega)
    have HNew:=hid (New_any _ (b.drop n) w hfs (by omega))
    have HFx:=hid (fun B W (hc:CurF W 183 B w.heap.size (b.drop n) 0 0) (hb:w.heap.size<=W.heap.size)=>CFixed_yes B w.heap.size 0 4 (b.drop n) W hc (by omega) (by omega) (by omega) (by omega) hb)
    rw [<- hKe]at HFx
    generalize ftK b=k at *
    have hcv:IntKind.i64.wrap (k:Int)=k:=IntWalk.i64_in _ (by omega)
    by_cases hkn:n<k
    · rw [if_pos hkn]at hE
      rw [hE]
      have t1:(n:Int)<k:=by omega
      clear hE hD hRe hKe hfs hdl hn4
      generalize b.length - n=m at *
      go_enter Tryz.func33, Tryz.ntmps33
      go_wp2_with fail
      refine(HNew.out).mono ?_
      rintro e w1 ⟨B,rfl,hC,hf,hB⟩
      have HF1:=hid (HFx.out B w1 hC hf.size)
      clear HNew HFx hC
      go_wp2_with fail
      refine(HF1.out).mono ?_
      rintro e w2 ⟨rfl,hC2,hch⟩
      have hf2:Fr w w2:=((hf.chg (fun b=>b=B)).trans hch fun _ _ h=>h).fr (fun k hk e=>by omega)
      go_wp2_with fail
      go_ret3
      exact⟨_,_,rfl,fun h=>absurd h (by decide),hf2⟩
    · rw [if_neg hkn]at hE
      obtain⟨r,hr⟩:∃ r,r=n - k:=⟨_,rfl⟩
      have hBd:bdDir b=cutB (ftD b):=rfl
      rw [hBd,hE,hD,hRe]
      have t1:¬(n:Int)<k:=by omega
      have hw2:IntKind.i64.wrap ((n:Int) - k)=(r:Int):=by rw [IntWalk.i64_in _ (by omega)];omega
      rw [<- hr]
      obtain⟨m1,m2,hmr,hms⟩:=run_mid eB 22 Tryz.underlying22 hs r n (by omega) (by omega)
      obtain⟨htr,hts⟩:=run_to eB 22 Tryz.underlying22 hs r (by omega)
      have HT:=hid hts
      have hql:((b.take n).drop r).length<=1000000:=by rw [List.length_drop,List.length_take];omega
      have HCut:=hid (fun W (h:Fr w W)=>Cut_any _ ((b.take n).drop r) W (hms.fr h) hql (ht.fr h))
      clear hE hD hRe hKe hfs hdl hn4 hms hts hBd hr hql
      generalize (b.take n).drop r=q at *
      generalize b.length - n=m at *
      generalize n - r=nr at *
      go_enter Tryz.func33, Tryz.ntmps33
      go_wp2_with fail
      refine(HNew.out).mono ?_
      rintro e w1 ⟨B,rfl,hC,hf,hB⟩
      have HF1:=hid (HFx.out B w1 hC hf.size)
      clear HNew HFx hC
      go_wp2_with fail
      refine(HF1.out).mono ?_
      rintro e w2 ⟨rfl,hC2,hch⟩
      have hf2:Fr w w2:=((hf.chg (fun b=>b=B)).trans hch fun _ _ h=>h).fr (fun k hk e=>by omega)
      have HCu:=hid (HCut.out w2 hf2)
      clear HCut HF1 hC2
      go_wp2_with fail
      refine(HCu.out).mono ?_
      rintro e w3 ⟨u,rfl,hO,hf3⟩
      obtain⟨p4,z4,hq4⟩:=hO.shape'
      subst hq4
      have hf13:=hf2.trans hf3
      have HO:=hid (hO.rebase hf2.size)
      have HT3:=hid (HT.out.fr hf13)
      clear hO HT HCu
      go_wp2_with fail
      go_ret3
      exact⟨_,_,rfl,fun _=>⟨HT3.out,HO.out⟩,hf13⟩
set_option maxRecDepth 512
set_option maxRecDepth 100000
theorem IIndex_any(v:Value)(l:List Nat)(x:Nat)(w:World)(hs:See w eJ v l)(hn:l.length<=1000000) :
  Calls Tryz.prog 129 #[v,N x] w fun e w'=>(∃ k:Int,e=.returned (.int .i64 k)/\(0<=k↔x∈l))/\w'=w:=by
 obtain⟨a0,cap,hv,hc1,hc2,_⟩:=hs.shape
 subst hv
 have HS:=hid hs
 clear hs
 go_enter Tryz.func129, Tryz.ntmps129
 go_wp2_with fail
 go_loop [8] (fun v=>∃ i:Nat,i<=l.length/\v=N i/\∀ j,∀ h:j<l.length,j<i->l[j]≠x) (fun iv=>l.length - (intOf iv).toNat)
 case atStart=>exact⟨0,Nat.zero_le _,rfl,fun j h h0=>absurd h0 (Nat.not_lt_zero _)⟩
 case round=>
  obtain⟨i,hi,rfl,hb⟩:=hrel
  have HB:=hid hb
  clear hb
  by_cases hlt:i<l.length
  · obtain⟨b,off,cp,hv,c0⟩:=HS.out.cell1 N rfl i hlt
    simp only [Value.slice.injEq]at hv
    obtain⟨rfl,_,rfl⟩:=hv
    have d0:w.cell? ⟨b,off+i,none⟩=some (N l[i]):=c0
    clear c0
    have i1:(i:Int)<l.length:=by omega
    have i2:(0:Int)<=i:=by omega
    by_cases hx:x=l[i]
    · have hx':((x:Int)=(l[i]:Nat)):=by omega
      have HM:Hid (x∈l):=by rw [hx];exact List.getElem_mem hlt
      clear hx
      generalize l[i]=y at *
      go_wp2_with fail
      go_ret
      exact⟨⟨_,rfl,⟨fun _=>HM.out,fun _=>by omega⟩⟩,rfl⟩
    · have hx':¬((x:Int)=(l[i]:Nat)):=by omega
      have HM:Hid (∀ j,∀ h:j<l.length,j<i+1->l[j]≠x):=by
       intro j h h2 e
       by_cases hj:j=i
       · subst hj;exact hx e.symm
       · exact HB.out j h (by omega) e
      clear hx
      generalize l[i]=y at *
      go_wp2_with fail
      go_round
      case rel=>exact⟨i+1,by omega,by go_num,HM.out⟩
      case measure=>simp [intOf];omega
  · have i1:¬(i:Int)<l.length:=by omega
    go_wp2_with fail
    go_ret
    refine⟨⟨_,rfl,⟨fun h=>absurd h (by decide),fun h=>?_⟩⟩,rfl⟩
    obtain⟨j,hj,e⟩:=List.getElem_of_mem h
    exact absurd e (HB.out j hj (by omega))
set_option maxRecDepth 512
theorem IContains_any(v:Value)(l:List Nat)(x:Nat)(w:World)(hs:See w eJ v l)(hn:l.length<=1000000) :
  Calls Tryz.prog 80 #[v,N x] w fun e w'=>e=.returned (.bool (decide (x∈l)))/\w'=w:=by
 have HI:=hid (IIndex_any v l x w hs hn)
 obtain⟨a0,cap,hv,_⟩:=hs.shape
 subst hv
 clear hs
 go_enter Tryz.func80, Tryz.ntmps80
 go_wp2_with fail
 refine(HI.out).mono ?_
 rintro e w1 ⟨⟨k,rfl,hk⟩,rfl⟩
 by_cases hx:x∈l
 · have h1:0<=k:=hk.2 hx
   have HX:Hid (decide (x∈l)=true):=decide_eq_true hx
   clear hx hk
   go_wp2_with fail
   go_ret
   exact⟨by rw [HX.out];rfl,rfl⟩
 · have h1:decide (0<=k)=false:=decide_eq_false (fun h=>hx (hk.1 h))
   have HX:Hid (decide (x∈l)=false):=decide_eq_false hx
   clear hx hk
   go_wp2_with fail
   go_ret
   exact⟨by rw [HX.out];rfl,rfl⟩
theorem sum_le_mul(l:List Nat)(m:Nat)(h:∀ x∈l,x<=m):l.sum<=l.length*m:=by
 induction l with
 | nil=>simp
 | cons a l ih=>
  have h1:=h a (List.mem_cons_self ..)
  have h2:=ih fun x hx=>h x (List.mem_cons_of_mem _ hx)
  rw [List.sum_cons,List.length_cons,Nat.succ_mul]
  omega
theorem int_val_le(s:Cs)(b:List UInt8)(m:Nat):(s.int b m).1<=m:=by
 show Cs.val _ _<=_
 unfold Cs.val
 split
 · rename_i h;exact(limL_ok _ _ h.2).2.2
 · exact Nat.zero_le _
theorem dirGo_ok(b:List UInt8)(recs:Nat)(k:Nat):∀ (s:Cs) (cs zs:List Nat),(∀ x∈cs,x<=recs)->(∀ x∈zs,x<=8388608) ->
  (dirGo b recs k s cs zs).1.length<=cs.length+k/\(dirGo b recs k s cs zs).2.1.length<=zs.length+k/\(∀ x∈(dirGo b recs k s cs zs).1,x<=recs)/\(∀ x∈(dirGo b recs k s cs zs).2.1,x<=8388608):=by
 induction k with
 | zero=>intro s cs zs h1 h2;exact⟨Nat.le_refl _,Nat.le_refl _,h1,h2⟩
 | succ k ih=>
  intro s cs zs h1 h2
  rw [dirGo]
  split
  · have h3:=ih ((s.int b recs).2.int b 8388608).2 (cs++[(s.int b recs).1]) (zs++[((s.int b recs).2.int b 8388608).1])
      (fun x hx => by
       rcases List.mem_append.1 hx with h | h
       · exact h1 x h
       · rw [List.mem_singleton.1 h]; exact int_val_le _ _ _)
      (fun x hx => by
       rcases List.mem_append.1 hx with h | h
       · exact h2 x h
       · rw [List.mem_singleton.1 h]; exact int_val_le _ _ _)
    obtain⟨h4,h5,h6⟩:=h3
    rw [List.length_append]at h4 h5
    simp only [List.length_cons,List.length_nil]at h4 h5
    exact⟨by omega,by omega,h6⟩
  · exact⟨Nat.le_add_right _ _,Nat.le_add_right _ _,h1,h2⟩
theorem dir_room(b:List UInt8):(dirN b).1<=20000/\(dirK b).1<=20000/\(dirG b).1.length<=20000/\(dirG b).2.1.length<=20000/\(dirG b).1.sum<=400000000/\(dirG b).2.1.sum<=167772160000/\(dirP b).1<=8388608/\(dirQ b).1<=8388608:=by
 have h1:(dirN b).1<=20000:=int_val_le _ _ _
 have h2:(dirK b).1<=(dirN b).1:=int_val_le _ _ _
 obtain⟨h3,h4,h5,h6⟩:=dirGo_ok b (dirN b).1 (dirK b).1 (dirK b).2 [] [] (fun x hx=>(List.not_mem_nil hx).elim) (fun x hx=>(List.not_mem_nil hx).elim)
 simp only [List.length_nil,Nat.zero_add]at h3 h4
 have h7:=sum_le_mul _ _ h5
 have h8:=sum_le_mul _ _ h6
 have h9:=Nat.mul_le_mul (Nat.le_trans h3 (Nat.le_trans h2 h1)) h1
 have h10:=Nat.mul_le_mul_right 8388608 (Nat.le_trans h4 (Nat.le_trans h2 h1))
 exact⟨h1,by omega,by show(dirGo _ _ _ _ _ _).1.length<=_;omega,by show(dirGo _ _ _ _ _ _).2.1.length<=_;omega,by show(dirGo _ _ _ _ _ _).1.sum<=_;omega,by show(dirGo _ _ _ _ _ _).2.1.sum<=_;omega,int_val_le _ _ _,int_val_le _ _ _⟩
theorem dirGo_step(b:List UInt8)(recs K j:Nat)(s:Cs)(cs zs:List Nat)(h:j<K)(he:s.er=0):dirGo b recs (K - j) s cs zs=dirGo b recs (K - (j+1)) ((s.int b recs).2.int b 8388608).2 (cs++[(s.int b recs).1]) (zs++[((s.int b recs).2.int b 8388608).1]):=by
 rw [show K - j=(K - (j+1))+1 by omega,dirGo,if_pos he]
theorem dirGo_nil(b:List UInt8)(recs k:Nat)(s:Cs)(cs zs:List Nat)(h:¬s.er=0):dirGo b recs k s cs zs=(cs,zs,s):=by
 cases k with
 | zero=>rfl
 | succ k=>rw [dirGo,if_neg h]
set_option maxRecDepth 100000
theorem bsumW_any(v:Value)(l:List Nat)(w:World)(hs:See w eJ v l)(hl:l.length<=1000000)(hb:l.sum<=1000000000000000) :
  Calls Tryz.prog 81 #[v] w fun e w'=>e=.returned (N l.sum)/\w=w':=by
 have HS:=hid (fun k hk=>numAt hs k hk)
 have HTk:=hid (groups_sum_le l)
 have HSn:=hid (sum_snoc l)
 have HAl:Hid ((l.take l.length).sum=l.sum):=by show _=_;rw [List.take_length]
 obtain⟨a0,cap,hv,hcap1,hcap2,hnone⟩:=hs.shape
 subst hv
 unfold maxLen at hcap2
 generalize l.sum=T at *
 go_enter Tryz.func81, Tryz.ntmps81
 go_wp2_with fail
 go_loopw [3,8] (fun sv iv wr=>∃ k:Nat,k<=l.length/\iv=N k/\sv=N (l.take k).sum/\w=wr) (fun _ iv _=>l.length - (intOf iv).toNat)
 case atStart=>exact⟨0,Nat.zero_le _,rfl,by simp,rfl⟩
 case round=>
  obtain⟨k,hk,rfl,rfl,rfl⟩:=hrel
  have h1:=HTk.out k
  by_cases hlt:k<l.length
  · obtain⟨b,off,cap',hv,c0⟩:=HS.out k hlt
    cases hv
    have HN:=hid (HSn.out k hlt)
    have h2:=HTk.out (k+1)
    generalize hm2:(l.take (k+1)).sum=m2 at *
    have HM2:=hid hm2
    clear hm2
    generalize (l.take k).sum=m at *
    generalize l[k]=x at *
    have h3:m2=m+x:=HN.out
    have i1:(0:Int)<=k:=by omega
    have i2:(k:Int)<l.length:=by omega
    have HH:=hid h3
    clear h3
    have hw:IntKind.i64.wrap ((m:Int)+x)=(m:Int)+x:=IntWalk.i64_in _ (by have:=HH.out;omega)
    go_wp2_with fail
    exact⟨⟨k+1,by omega,by go_num,by rw [HM2.out,HH.out];go_num,by first | rfl | trivial⟩,by simp [intOf];omega⟩
  · obtain rfl:k=l.length:=by omega
    have hnl:¬(l.length:Int)<l.length:=by omega
    rw [HAl.out]
    go_wp2_with fail
    go_ret
    exact⟨rfl,rfl⟩
set_option maxRecDepth 512
abbrev bodB(cv sv:Value)(p q:Nat):Array Value:=#[cv,sv,N p,N q,.slice none 0 0,.slice none 0 0,.slice none 0 0,.slice none 0 0,.slice none 0 0,.slice none 0 0]
structure DirAt (w:World) (g base:Nat) (cs zs:List Nat) (p q:Nat):Prop where
 h:∃ cv sv,w.heap[g]?=some (.cells (bodB cv sv p q) 67 (0,0))/\Ow w base eJ cv cs/\Ow w base eJ sv zs/\(sv.ownBlock=none\/sv.ownBlock≠cv.ownBlock)
 lt:g<base
theorem DirAt.beside{w w':World}{B g base p q:Nat}{cs zs:List Nat}{cc:Array Value}{T:TypeId}{f:Nat × Nat}(h:DirAt w g base cs zs p q)(hb:w.heap[B]?=some (.cells cc T f))(hT:T≠3)(hBg:B≠g)(hc:Chg (fun k=>k=B) w w'):DirAt w' g base cs zs p q:=by
 obtain⟨⟨cv,sv,h1,h2,h3,h4⟩,h5⟩:=h
 exact⟨⟨cv,sv,hc.heap h1 (fun e=>hBg e.symm),h2.chg hc (fun k hk e=>h2.ne_cells hb hT (by rw [hk,show k=B from e])),h3.chg hc (fun k hk e=>h3.ne_cells hb hT (by rw [hk,show k=B from e])),h4⟩,h5⟩
theorem DirAt.fr{w w':World}{g base p q:Nat}{cs zs:List Nat}(h:DirAt w g base cs zs p q)(hf:Fr w w'):DirAt w' g base cs zs p q:=by
 obtain⟨⟨cv,sv,h1,h2,h3,h4⟩,h5⟩:=h
 exact⟨⟨cv,sv,hf.heap h1,h2.fr hf,h3.fr hf,h4⟩,h5⟩
theorem DirAt.push0{w w':World}{g base p q:Nat}{cs cs' zs:List Nat}{cv sv v':Value}(h1:w.heap[g]?=some (.cells (bodB cv sv p q) 67 (0,0)))(h2:Ow w base eJ cv cs)(h3:Ow w base eJ sv zs)(h4:sv.ownBlock=none\/sv.ownBlock≠cv.ownBlock)(h5:g<base)(hap:App base eJ cs' w cv v' w'):DirAt (w'.setCell ⟨g,0,none⟩ v') g base cs' zs p q:=by
 have hG:=hap.chg'.heap h1 (fun e=>by have:=(h2.lt _ e).1;omega)
 exact⟨⟨v',sv,heap_setCell_own hG 0 v',own_set_other (i:=0) (u:=v') hap.own h5,own_set_other (i:=0) (u:=v') (hap.other h3 h4) h5,hap.apart h3 h4⟩,h5⟩
theorem DirAt.push1{w w':World}{g base p q:Nat}{cs zs zs':List Nat}{cv sv v':Value}(h1:w.heap[g]?=some (.cells (bodB cv sv p q) 67 (0,0)))(h2:Ow w base eJ cv cs)(h3:Ow w base eJ sv zs)(h4:sv.ownBlock=none\/sv.ownBlock≠cv.ownBlock)(h5:g<base)(hap:App base eJ zs' w sv v' w'):DirAt (w'.setCell ⟨g,1,none⟩ v') g base cs zs' p q:=by
 have hG:=hap.chg'.heap h1 (fun e=>by have:=(h3.lt _ e).1;omega)
 exact⟨⟨cv,v',heap_setCell_own hG 1 v',own_set_other (i:=1) (u:=v') (hap.other h2 (ne_sym h4)) h5,own_set_other (i:=1) (u:=v') hap.own h5,ne_sym (hap.apart h2 (ne_sym h4))⟩,h5⟩
theorem DirAt.set2{w:World}{g base p q:Nat}{cs zs:List Nat}(h:DirAt w g base cs zs p q)(x:Nat):DirAt (w.setCell ⟨g,2,none⟩ (N x)) g base cs zs x q:=by
 obtain⟨⟨cv,sv,h1,h2,h3,h4⟩,h5⟩:=h
 exact⟨⟨cv,sv,heap_setCell_own h1 2 (N x),own_set_other (i:=2) (u:=N x) h2 h5,own_set_other (i:=2) (u:=N x) h3 h5,h4⟩,h5⟩
theorem DirAt.set3{w:World}{g base p q:Nat}{cs zs:List Nat}(h:DirAt w g base cs zs p q)(x:Nat):DirAt (w.setCell ⟨g,3,none⟩ (N x)) g base cs zs p x:=by
 obtain⟨⟨cv,sv,h1,h2,h3,h4⟩,h5⟩:=h
 exact⟨⟨cv,sv,heap_setCell_own h1 3 (N x),own_set_other (i:=3) (u:=N x) h2 h5,own_set_other (i:=3) (u:=N x) h3 h5,h4⟩,h5⟩
def ldC:Op:=Op.load 30 (.tmp 32)
def ldZ:Op:=Op.load 30 (.tmp 44)
attribute [local go_sem] ldC
attribute [local go_sem] ldZ
theorem dirE_eq(b:List UInt8)(room:Nat):dirE b room=if((dirQ b).2.fin b).er=0 then(if 0∈(dirG b).1\/¬(dirG b).1.sum=(dirN b).1\/¬(dirG b).2.1.sum+(dirP b).1+(dirQ b).1=room then 2 else 0)else((dirQ b).2.fin b).er:=rfl
set_option maxRecDepth 100000
theorem dread_any (g room : Nat) (v : Value) (b : List UInt8) (w : World) (hg : w.heap[g]? = some (.cells (bodB (.slice none 0 0) (.slice none 0 0) 0 0) 67 (0, 0))) (hs : See w eB v b) (hl : b.length ≤ 1000000) (hr : room ≤ 1000000) :
    Calls Tryz.prog 34 #[.pointer (some ⟨g,0,none⟩),v,N room] w fun e w'=>e=.returned (.int .i64 (dirE b room:Int))/\DirAt w' g w.heap.size (dirG b).1 (dirG b).2.1 (dirP b).1 (dirQ b).1/\Chg (fun k=>k=g) w w':=by
  have HNew:=hid (New_any v b w hs hl)
  have HInt:=hid (fun most (hm:most<9223372036854775808) B base s W h=>Int_cur most hm B base s b W h hl)
  have HErr:=hid (fun B base n er W h=>CErr_any B base n er b W h)
  have HEnd:=hid (fun B base s W h=>End_cur B base s b W h)
  obtain⟨r1,r2,r3,r4,r5,r6,r7,r8⟩:=dir_room b
  have HDE:=hid (dirE_eq b room)
  have HN:Hid ((dirN b)=(⟨0,0⟩:Cs).int b 20000):=rfl
  have HK:Hid ((dirK b)=(dirN b).2.int b (dirN b).1):=rfl
  have HP:Hid ((dirP b)=(dirG b).2.2.int b 8388608):=rfl
  have HQ:Hid ((dirQ b)=(dirP b).2.int b 8388608):=rfl
  have HG:Hid (dirG b=dirGo b (dirN b).1 ((dirK b).1 - 0) (dirK b).2 [] []):=rfl
  have HS:=hid (dirGo_step b (dirN b).1 (dirK b).1)
  have HNil:=hid (dirGo_nil b (dirN b).1)
  have hgw:g<w.heap.size:=(Array.getElem?_eq_some_iff.1 hg).1
  generalize dirE b room=E at *
  generalize dirG b=Z at *
  generalize hDN:dirN b=DN at *
  generalize hDK:dirK b=DK at *
  generalize hDP:dirP b=DP at *
  generalize hDQ:dirQ b=DQ at *
  obtain⟨n,s1⟩:=DN
  obtain⟨K,s2⟩:=DK
  obtain⟨p,s4⟩:=DP
  obtain⟨q,s5⟩:=DQ
  have hn:n<=20000:=r1
  have hK:K<=20000:=r2
  clear hDN hDK hDP hDQ r1 r2
  obtain⟨a0,cap,hv,_⟩:=hs.shape
  subst hv
  clear hs
  go_enter Tryz.func34, Tryz.ntmps34
  go_wp2_with fail
  refine(HNew.out).mono ?_
  rintro e w1 ⟨B,rfl,hC,hf1,hB⟩
  have HI1:=hid (HInt.out 20000 (by omega) B _ ⟨0,0⟩ w1 hC)
  rw [<- HN.out]at HI1
  have hD1:DirAt w1 g w.heap.size [] [] 0 0:=⟨⟨_,_,hf1.heap hg,Ow.nil,Ow.nil,.inl rfl⟩,hgw⟩
  have hz1:=hf1.size
  have hc01:=hf1.chg (fun k=>k=g\/w.heap.size<=k)
  obtain⟨bx,hbx⟩:=hC.cbox
  clear HNew hC hg HN
  go_wp2_with fail
  refine(HI1.out).mono ?_
  rintro e w2 ⟨rfl,hC2,hc2⟩
  have hD2:=hD1.beside hbx (by decide) (by omega) hc2
  have hz2:=Nat.le_trans hz1 hc2.size
  have hc02:=hc01.trans (G':=fun k=>k=B) hc2 fun k _ e=>.inr (by have e:k=B:=e;omega)
  have HI2:=hid (HInt.out n (by omega) B _ s1 w2 hC2)
  rw [<- HK.out]at HI2
  obtain⟨bx,hbx2⟩:=hC2.cbox
  clear HI1 hD1 hc01 hbx hc2 hC2 HK
  go_wp2_with fail
  refine(HI2.out).mono ?_
  rintro e w3 ⟨rfl,hC3,hc3⟩
  have hD3:=hD2.beside hbx2 (by decide) (by omega) hc3
  have hz3:=Nat.le_trans hz2 hc3.size
  have hc03:=hc02.trans (G':=fun k=>k=B) hc3 fun k _ e=>.inr (by have e:k=B:=e;omega)
  clear HI2 hD2 hc02 hbx2 hc3 hz1 hz2
  go_upto_block 0 with fail
  go_cut [10]from 19 to 51 (fun _ wx=>∃ (s:Cs) (cs zs:List Nat),Z=(cs,zs,s)/\DirAt wx g w.heap.size cs zs 0 0/\CurF wx 183 B w.heap.size b s.at_ s.er/\Chg (fun k=>k=g\/w.heap.size<=k) w wx/\w.heap.size<=wx.heap.size)
  case first=>
    go_wp2_with fail
    go_loopw [10] (fun iv wr=>∃ (j:Nat) (s:Cs) (cs zs:List Nat),j<=K/\iv=N j/\Hid (cs.length=j)/\Hid (zs.length=j)/\DirAt wr g w.heap.size cs zs 0 0/\CurF wr 183 B w.heap.size b s.at_ s.er/\Chg (fun k=>k=g\/w.heap.size<=k) w wr/\w.heap.size<=wr.heap.size/\Hid (Z=dirGo b n (K - j) s cs zs)) (fun iv _=>K - (intOf iv).toNat)
    case atStart=>exact⟨0,s2,[],[],Nat.zero_le _,rfl,rfl,rfl,hD3,hC3,hc03,hz3,HG.out⟩
    case round=>
      clear hD3 hC3 hc03 hz3 HG
      obtain⟨j,s,cs,zs,hj,rfl,HCl,HZl,hD,hC,hch,hz,HZk⟩:=hrel
      have HE1:=hid (HErr.out B _ s.at_ s.er wr hC)
      by_cases hlt:j<K
      · have i1:(j:Int)<K:=by omega
        by_cases he:s.er=0
        · have HZ2:=hid (HZk.out.trans (HS.out j s cs zs hlt he))
          rw [he]at HE1
          have HIa:=hid (HInt.out n (by omega) B _ s wr.drew (hC.fr (Fr.refl wr).drew))
          have HIb:=hid (fun W h=>HInt.out 8388608 (by omega) B w.heap.size (s.int b n).2 W h)
          obtain⟨bcs,hbx⟩:=hC.cbox
          obtain⟨cv,sv,hG,hCv,hSv,hne⟩:=hD.h
          obtain⟨ca,cc,hcv⟩:=hCv.shape'
          subst hcv
          have hBg:B≠g:=by omega
          have hlc:=HCl.out
          have hlz:=HZl.out
          have HC1:Hid (cs.length+[(s.int b n).1].length<=2147483648):=by show _<=_;simp;omega
          have HC2:Hid (zs.length+[((s.int b n).2.int b 8388608).1].length<=2147483648):=by show _<=_;simp;omega
          have c0:wr.cell? ⟨g,0,none⟩=some (.slice ca cs.length cc):=by rw [cell_of_heap hG];rfl
          clear hlc hlz he HZk
          generalize ((s.int b n).2.int b 8388608).2=s4' at *
          generalize ((s.int b n).2.int b 8388608).1=y at *
          generalize (s.int b n).1=x at *
          generalize (s.int b n).2=s3 at *
          go_wp2_with fail
          refine(HE1.out).mono ?_
          rintro e w5 ⟨rfl,rfl⟩
          go_upto_region 7 with fail
          go_cut []from 29 to 40 (fun wx=>DirAt wx g w.heap.size (cs++[x]) zs 0 0/\CurF wx 183 B w.heap.size b s3.at_ s3.er/\Chg (fun k=>k=g\/w.heap.size<=k) w wx/\w.heap.size<=wx.heap.size)
          case first=>
            clear HZ2 HIb HE1
            rw [show Op.load 30 (.tmp 32)=ldC from rfl]
            go_region_held_law (fun _ => True) (first | trivial | go_keep) (((first
              | (go_at_call 77; refine (HIa.out).mono ?_; rintro e w6 ⟨rfl, hC6, hc6⟩
                 have hG6 := hc6.heap (show wr.drew.heap[g]? = _ from hG) (fun e => hBg e.symm)
                 have hCv6 := hCv.drew.chg hc6 (fun k hk e => hCv.ne_cells hbx (by decide) (by rw [hk, show k = B from e]))
                 have hSv6 := hSv.drew.chg hc6 (fun k hk e => hSv.ne_cells hbx (by decide) (by rw [hk, show k = B from e]))
                 have hz6 : w.heap.size ≤ w6.heap.size := Nat.le_trans hz hc6.size
                 have hch6 := (hch.trans ((Fr.refl wr).drew.chg (fun k => k = g ∨ w.heap.size ≤ k)) (fun _ _ h => h)).trans (G' := fun k => k = B) hc6 fun k _ e => .inr (by have e : k = B := e; omega)
                 have d0 : w6.cell? ⟨g, 0, none⟩ = some (.slice ca cs.length cc) := by rw [cell_of_heap hG6]; rfl
                 have d1 := ((Fr.refl w6).alloc (.cells #[N x] 3)).cell d0)
              | (refine step_app1 eJ rfl (.tmp 33) (.tmp 37) 30 rfl Tryz.underlying30 w.heap.size rfl hCv6 [x] _ _ _ rfl rfl rfl HC1.out hz6 ?_
                 intro v' w7 hap
                 have own7 := hap.own
                 obtain ⟨va, vc, hv'⟩ := own7.shape'
                 rw [show (cs ++ [x]).length = cs.length + 1 from by simp] at hv'
                 subst hv'
                 have hG7 := hap.chg'.heap hG6 (fun e => by have := (hCv6.lt _ e).1; omega)
                 have e3 : w7.cell? ⟨g, 0, none⟩ = some (.slice ca cs.length cc) := by rw [cell_of_heap hG7]; rfl
                 have e4 : w7.frozen? ⟨g, 0, none⟩ = false := frozen_of_heap hG7 0))))
            all_goals go_wp2_with fail
            all_goals go_meet
            all_goals exact⟨DirAt.push0 hG6 hCv6 hSv6 hne hgw hap,(hC6.app hCv6 hap (by decide) (by decide)).box hG7 (by decide) hBg (setCell_chg w7 ⟨g,0,none⟩ _),(hch6.trans hap.chg' fun k _ e=>.inr (hCv6.lt k e).1).trans (setCell_chg w7 ⟨g,0,none⟩ _) fun k _ e=>.inl e,Nat.le_trans (Nat.le_trans hz6 hap.size) (setCell_chg w7 ⟨g,0,none⟩ _).size⟩
          case rest=>
            obtain⟨hD,hC,hch,hz⟩:=hcut
            clear HIa HE1 hbx hG hCv hSv hne c0 HC1
            have HIc:=hid (HIb.out wc.drew (hC.fr (Fr.refl wc).drew))
            obtain⟨bcs,hbx⟩:=hC.cbox
            obtain⟨cv,sv,hG,hCv,hSv,hne⟩:=hD.h
            obtain⟨sa,sc,hsv⟩:=hSv.shape'
            subst hsv
            have c0:wc.cell? ⟨g,1,none⟩=some (.slice sa zs.length sc):=by rw [cell_of_heap hG];rfl
            go_upto_region 8 with fail
            have hlc:=HCl.out
            have hlz:=HZl.out
            have HCn:Hid ((cs++[x]).length=j+1):=by show _=_;rw [List.length_append,hlc];rfl
            have HZn:Hid ((zs++[y]).length=j+1):=by show _=_;rw [List.length_append,hlz];rfl
            clear hlc hlz HIb
            rw [show Op.load 30 (.tmp 44)=ldZ from rfl]
            go_region_held_law (fun _ => True) (first | trivial | go_keep) (((first
              | (go_at_call 77; refine (HIc.out).mono ?_; rintro e w6 ⟨rfl, hC6, hc6⟩
                 have hG6 := hc6.heap (show wc.drew.heap[g]? = _ from hG) (fun e => hBg e.symm)
                 have hCv6 := hCv.drew.chg hc6 (fun k hk e => hCv.ne_cells hbx (by decide) (by rw [hk, show k = B from e]))
                 have hSv6 := hSv.drew.chg hc6 (fun k hk e => hSv.ne_cells hbx (by decide) (by rw [hk, show k = B from e]))
                 have hz6 : w.heap.size ≤ w6.heap.size := Nat.le_trans hz hc6.size
                 have hch6 := (hch.trans ((Fr.refl wc).drew.chg (fun k => k = g ∨ w.heap.size ≤ k)) (fun _ _ h => h)).trans (G' := fun k => k = B) hc6 fun k _ e => .inr (by have e : k = B := e; omega)
                 have d0 : w6.cell? ⟨g, 1, none⟩ = some (.slice sa zs.length sc) := by rw [cell_of_heap hG6]; rfl
                 have d1 := ((Fr.refl w6).alloc (.cells #[N y] 3)).cell d0)
              | (refine step_app1 eJ rfl (.tmp 45) (.tmp 48) 30 rfl Tryz.underlying30 w.heap.size rfl hSv6 [y] _ _ _ rfl rfl rfl HC2.out hz6 ?_
                 intro v' w7 hap
                 have own7 := hap.own
                 obtain ⟨va, vc, hv'⟩ := own7.shape'
                 rw [show (zs ++ [y]).length = zs.length + 1 from by simp] at hv'
                 subst hv'
                 have hG7 := hap.chg'.heap hG6 (fun e => by have := (hSv6.lt _ e).1; omega)
                 have e3 : w7.cell? ⟨g, 1, none⟩ = some (.slice sa zs.length sc) := by rw [cell_of_heap hG7]; rfl
                 have e4 : w7.frozen? ⟨g, 1, none⟩ = false := frozen_of_heap hG7 1))))
            all_goals go_wp2_with fail
            all_goals go_roundw
            all_goals first
              | (simp [intOf];omega)
              | exact⟨j+1,s4',cs++[x],zs++[y],by omega,by go_num,HCn.out,HZn.out,DirAt.push1 hG6 hCv6 hSv6 hne hgw hap,(hC6.app hSv6 hap (by decide) (by decide)).box hG7 (by decide) hBg (setCell_chg w7 ⟨g,1,none⟩ _),(hch6.trans hap.chg' fun k _ e=>.inr (hSv6.lt k e).1).trans (setCell_chg w7 ⟨g,1,none⟩ _) fun k _ e=>.inl e,Nat.le_trans (Nat.le_trans hz6 hap.size) (setCell_chg w7 ⟨g,1,none⟩ _).size,HZ2.out⟩
        · have he':¬(s.er:Int)=0:=by omega
          have HZ2:=hid (HZk.out.trans (HNil.out (K - j) s cs zs he))
          clear HZk
          go_wp2_with fail
          refine(HE1.out).mono ?_
          rintro e w5 ⟨rfl,rfl⟩
          go_wp2_with fail
          go_meet
          exact⟨s,cs,zs,HZ2.out,hD,hC,hch,hz⟩
      · obtain rfl:j=K:=by omega
        have i1:¬(j:Int)<j:=by omega
        have HZ2:Hid (Z=(cs,zs,s)):=by show _=_;rw [HZk.out,Nat.sub_self];rfl
        clear HZk
        go_wp2_with fail
        go_meet
        exact⟨s,cs,zs,HZ2.out,hD,hC,hch,hz⟩
  case rest=>
    obtain⟨s,cs,zs,hZe,hD,hC,hch,hz⟩:=hcut
    clear hD3 hC3 hc03 hz3 HG HS HNil
    have HIp:=hid (HInt.out 8388608 (by omega) B _ s wc hC)
    subst hZe
    rw [show(s.int b 8388608)=(p,s4)from HP.out.symm]at HIp
    have HI5:=hid (fun W h=>HInt.out 8388608 (by omega) B w.heap.size s4 W h)
    rw [show(s4.int b 8388608)=(q,s5)from HQ.out.symm]at HI5
    have HEd:=hid (fun W h=>HEnd.out B w.heap.size s5 W h)
    obtain⟨bcs,hbx⟩:=hC.cbox
    have hBg:B≠g:=by omega
    clear hC HP HQ HEnd HInt HErr
    generalize s5.fin b=s6 at *
    go_wp2_with fail
    refine(HIp.out).mono ?_
    rintro e w4 ⟨rfl,hC4,hc4⟩
    have hD4:=hD.beside hbx (by decide) hBg hc4
    have hch4:=hch.trans (G':=fun k=>k=B) hc4 fun k _ e=>.inr (by have e:k=B:=e;omega)
    have hz4:=Nat.le_trans hz hc4.size
    clear HIp hD hch hbx hc4
    obtain⟨cv,sv,hG,hCv,hSv,hne⟩:=hD4.h
    have e3:w4.cell? ⟨g,2,none⟩=some (N 0):=by rw [cell_of_heap hG];rfl
    have e4:w4.frozen? ⟨g,2,none⟩=false:=frozen_of_heap hG 2
    have hD5:=hD4.set2 p
    have hC5:=hC4.box hG (by decide) hBg (setCell_chg w4 ⟨g,2,none⟩ (N p))
    have hch5:=hch4.trans (setCell_chg w4 ⟨g,2,none⟩ (N p)) fun k _ e=>.inl e
    have hz5:=Nat.le_trans hz4 (setCell_chg w4 ⟨g,2,none⟩ (N p)).size
    clear hD4 hC4 hch4 hG hCv hSv hne hz4
    go_wp2_with fail
    generalize w4.setCell ⟨g,2,none⟩ (N p)=w5 at *
    have HI6:=hid (HI5.out w5 hC5)
    obtain⟨bcs,hbx⟩:=hC5.cbox
    clear HI5 hC5 e3 e4
    refine(HI6.out).mono ?_
    rintro e w6 ⟨rfl,hC6,hc6⟩
    have hD6:=hD5.beside hbx (by decide) hBg hc6
    have hch6:=hch5.trans (G':=fun k=>k=B) hc6 fun k _ e=>.inr (by have e:k=B:=e;omega)
    have hz6:=Nat.le_trans hz5 hc6.size
    clear HI6 hD5 hch5 hbx hc6 hz5
    obtain⟨cv,sv,hG,hCv,hSv,hne⟩:=hD6.h
    have e3:w6.cell? ⟨g,3,none⟩=some (N 0):=by rw [cell_of_heap hG];rfl
    have e4:w6.frozen? ⟨g,3,none⟩=false:=frozen_of_heap hG 3
    have hD7:=hD6.set3 q
    have hC7:=hC6.box hG (by decide) hBg (setCell_chg w6 ⟨g,3,none⟩ (N q))
    have hch7:=hch6.trans (setCell_chg w6 ⟨g,3,none⟩ (N q)) fun k _ e=>.inl e
    have hz7:=Nat.le_trans hz6 (setCell_chg w6 ⟨g,3,none⟩ (N q)).size
    clear hD6 hC6 hch6 hG hCv hSv hne hz6
    go_wp2_with fail
    generalize w6.setCell ⟨g,3,none⟩ (N q)=w7 at *
    have HE7:=hid (HEd.out w7 hC7)
    obtain⟨bcs,hbx⟩:=hC7.cbox
    clear HEd hC7 e3 e4
    refine(HE7.out).mono ?_
    rintro e w8 ⟨rfl,hC8,hc8⟩
    have hD8:=hD7.beside hbx (by decide) hBg hc8
    have hch8:=hch7.trans (G':=fun k=>k=B) hc8 fun k _ e=>.inr (by have e:k=B:=e;omega)
    have HC8:Hid (Chg (fun k=>k=g) w w8):=hch8.mono (G':=fun k=>k=g) fun k hk h=>by have h:k=g\/w.heap.size<=k:=h;show k=g;omega
    clear HE7 hD7 hch7 hbx hc8 hC8 hch8
    by_cases he:s6.er=0
    · have he0:((s6.er:Nat):Int)=0:=by omega
      have HE1:Hid (E=if 0∈cs\/¬cs.sum=n\/¬zs.sum+p+q=room then 2 else 0):=by show _=_;rw [HDE.out,if_pos he]
      rw [he0]
      have HD9:=hid hD8
      have HC9:Hid (Chg (fun k=>k=g) w w8.drew):=HC8.out.trans ((Fr.refl w8).drew.chg (fun k=>k=g)) fun _ _ h=>h
      obtain⟨cv,sv,hG,hCv,hSv,_⟩:=hD8.h
      obtain⟨ca,cc,hcv⟩:=hCv.shape'
      subst hcv
      obtain⟨sa,sc,hsv⟩:=hSv.shape'
      subst hsv
      have c0:w8.cell? ⟨g,0,none⟩=some (.slice ca cs.length cc):=by rw [cell_of_heap hG];rfl
      have c1:w8.cell? ⟨g,1,none⟩=some (.slice sa zs.length sc):=by rw [cell_of_heap hG];rfl
      have c2:w8.cell? ⟨g,2,none⟩=some (N p):=by rw [cell_of_heap hG];rfl
      have c3:w8.cell? ⟨g,3,none⟩=some (N q):=by rw [cell_of_heap hG];rfl
      have r3:cs.length<=20000:=r3
      have r4:zs.length<=20000:=r4
      have r5:cs.sum<=400000000:=r5
      have r6:zs.sum<=167772160000:=r6
      have r7:p<=8388608:=r7
      have r8:q<=8388608:=r8
      have HCo:Hid (∀ W,Fr w8 W->Calls Tryz.prog 80 #[.slice ca cs.length cc,.int .i64 0] W fun e w'=>e=.returned (.bool (decide (0∈cs)))/\w'=W):=fun W h=>IContains_any _ cs 0 W (hCv.see.fr h) (by omega)
      have HS1:=hid (fun W (h:Fr w8 W)=>bsumW_any _ cs W (hCv.see.fr h) (by omega) (by omega))
      have HS2:=hid (fun W (h:Fr w8 W)=>bsumW_any _ zs W (hSv.see.fr h) (by omega) (by omega))
      clear HDE he he0 hD8 hG hCv hSv hz7 r3 r4
      by_cases m0:0∈cs
      · rw [decide_eq_true m0]at HCo
        have HE0:Hid (E=2):=by show _=_;rw [HE1.out,if_pos (.inl m0)]
        clear m0 HE1 HS1 HS2
        go_upto_region 14 with fail
        go_quiet ((go_at_call 80;exact Calls.quiet_of_same (HCo.out _ (Fr.drewN (Fr.refl w8) _))))
        go_wp2_with fail
        go_ret
        exact⟨by rw [HE0.out];rfl,HD9.out.fr (Fr.drewN (Fr.refl w8) _),HC8.out.trans (drew_chg (fun k=>k=g) w8 _) fun _ _ h=>h⟩
      rw [decide_eq_false m0]at HCo
      by_cases m1:cs.sum=n
      · have i1:((cs.sum:Nat):Int)=n:=by omega
        rw [m1]at HS1
        obtain⟨a1,ha1⟩:∃ a1,a1=zs.sum+p:=⟨_,rfl⟩
        obtain⟨a2,ha2⟩:∃ a2,a2=a1+q:=⟨_,rfl⟩
        have ww1:IntKind.i64.wrap ((zs.sum:Int)+p)=(a1:Int):=by rw [IntWalk.i64_in _ (by omega)];omega
        have ww2:IntKind.i64.wrap ((a1:Int)+q)=(a2:Int):=by rw [IntWalk.i64_in _ (by omega)];omega
        rw [<- ha1,<- ha2]at HE1
        by_cases m2:a2=room
        · have HE0:Hid (E=0):=by show _=_;rw [HE1.out,if_neg (by rintro(h | h | h);exact m0 h;exact h m1;exact h m2)]
          have j2:(a2:Int)=room:=by omega
          clear m0 m1 ha1 ha2 HE1 r5 r6 i1
          generalize zs.sum=zz at *
          rw [m2]at ww2
          clear m2 j2
          go_upto_region 14 with fail
          go_region_held3 (fun W => W.cell? ⟨g, 0, none⟩ = some (.slice ca cs.length cc) ∧ W.cell? ⟨g, 1, none⟩ = some (.slice sa zs.length sc) ∧ W.cell? ⟨g, 2, none⟩ = some (N p) ∧ W.cell? ⟨g, 3, none⟩ = some (N q))
            (first | go_keep)
            ((first
              | (go_at_call 80; refine (HCo.out _ (Fr.refl _).drew).mono ?_; rintro e wx ⟨rfl, rfl⟩)
              | (go_at_call_of 81 (Value.slice ca cs.length cc); refine (HS1.out _ (Fr.refl _).drew).mono ?_; rintro e wx ⟨rfl, rfl⟩)
              | (go_at_call_of 81 (Value.slice sa zs.length sc); refine (HS2.out _ (Fr.refl _).drew).mono ?_; rintro e wx ⟨rfl, rfl⟩)))
          go_wp2_with fail
          go_ret
          exact⟨by rw [HE0.out];rfl,HD9.out.fr (Fr.refl _).drew,HC9.out⟩
        · have HE0:Hid (E=2):=by show _=_;rw [HE1.out,if_pos (.inr (.inr m2))]
          have j2:¬(a2:Int)=room:=by omega
          clear m0 m1 ha1 ha2 HE1 r5 r6 i1
          generalize zs.sum=zz at *
          go_upto_region 14 with fail
          go_region_held3 (fun W => W.cell? ⟨g, 0, none⟩ = some (.slice ca cs.length cc) ∧ W.cell? ⟨g, 1, none⟩ = some (.slice sa zs.length sc) ∧ W.cell? ⟨g, 2, none⟩ = some (N p) ∧ W.cell? ⟨g, 3, none⟩ = some (N q))
            (first | go_keep)
            ((first
              | (go_at_call 80; refine (HCo.out _ (Fr.refl _).drew).mono ?_; rintro e wx ⟨rfl, rfl⟩)
              | (go_at_call_of 81 (Value.slice ca cs.length cc); refine (HS1.out _ (Fr.refl _).drew).mono ?_; rintro e wx ⟨rfl, rfl⟩)
              | (go_at_call_of 81 (Value.slice sa zs.length sc); refine (HS2.out _ (Fr.refl _).drew).mono ?_; rintro e wx ⟨rfl, rfl⟩)))
          go_wp2_with fail
          go_ret
          exact⟨by rw [HE0.out];rfl,HD9.out.fr (Fr.refl _).drew,HC9.out⟩
      · have HE0:Hid (E=2):=by show _=_;rw [HE1.out,if_pos (.inr (.inl m1))]
        have i1:¬((cs.sum:Nat):Int)=n:=by omega
        clear m0 HE1 HS2 HC9 r5 r6 m1
        go_upto_region 14 with fail
        go_quiet ((first
          | (go_at_call 80; exact Calls.quiet_of_same (HCo.out _ (Fr.drewN (Fr.refl w8) _)))
          | (go_at_call 81; exact Calls.quiet_of_same ((HS1.out _ (Fr.drewN (Fr.refl w8) _)).mono fun _ _ h => ⟨h.1, h.2.symm⟩))))
        go_wp2_with fail
        go_ret
        exact⟨by rw [HE0.out];rfl,HD9.out.fr (Fr.drewN (Fr.refl w8) _),HC8.out.trans (drew_chg (fun k=>k=g) w8 _) fun _ _ h=>h⟩
    · have he':¬(s6.er:Int)=0:=by omega
      have HE0:Hid (E=s6.er):=by show _=_;rw [HDE.out,if_neg he]
      clear HDE he
      go_wp2_with fail
      go_ret
      exact⟨by rw [HE0.out];rfl,hD8,HC8.out⟩
set_option maxRecDepth 512
end Go.Proofs.YtijghcbpfcjjnaaGreatDoor
