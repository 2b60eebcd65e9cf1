/- Parts of the proof of ArchOne: Y3 Y4 Y6 Y5. -/
import Derived.Test.YtdagmoonnbnceaaGreatDoorM25
import Derived.Test.YtdagmoonnbnceaaGreatDoorM27
import Derived.Test.YtdagmoonnbnceaaGreatDoorM09
import Derived.Test.YtdagmoonnbnceaaGreatDoorM29
set_option linter.unusedVariables false
set_option linter.unusedSectionVars false
set_option linter.unusedSimpArgs false
set_option maxHeartbeats 8000000
set_option maxRecDepth 100000
namespace Go.Proofs.YtdagmoonnbnceaaGreatDoor
open Go.RowKit Go.Fk
theorem Split_any (t : Tok) (w : World) (hm : mayT t = true) :
    Calls Tryz.prog 156 #[tkV t] w fun e w'=>e=.returned (.tuple #[pcV (pieceK t),.int .i64 0])/\Fr w w':=by
  have HMy:=hid (fun W=>LMay_any t W hm)
  have HCl:=hid (fun v W h1 h2=>class_any v W h1 h2)
  have hf0:Fr w (w.alloc (.cells #[.int .u8 (t.lit.toNat:Int),N t.len,N t.dist] 188)):=(Fr.refl w).alloc _
  have hT0:(w.alloc (.cells #[.int .u8 (t.lit.toNat:Int),N t.len,N t.dist] 188)).heap[w.heap.size]? = some (.cells #[.int .u8 (t.lit.toNat:Int),N t.len,N t.dist] 188 (0,0)):=heap_new _ _ _ rfl
  have hf1:Fr (w.alloc (.cells #[.int .u8 (t.lit.toNat:Int),N t.len,N t.dist] 188)) ((w.alloc (.cells #[.int .u8 (t.lit.toNat:Int),N t.len,N t.dist] 188)).alloc (.cells #[N 0,N 0,N 0,N 0] 247)):=(Fr.refl _).alloc _
  have hP1:((w.alloc (.cells #[.int .u8 (t.lit.toNat:Int),N t.len,N t.dist] 188)).alloc (.cells #[N 0,N 0,N 0,N 0] 247)).heap[w.heap.size+1]? = some (.cells #[N 0,N 0,N 0,N 0] 247 (0,0)):=heap_new _ _ (w.heap.size+1) (by rw [size_alloc])
  have hT1:=hf1.heap hT0
  have hf01:=hf0.trans hf1
  have hK:pieceK t=if t.len=0 then⟨t.lit.toNat,0,0,0⟩else⟨257+clsK (t.len - 2),rstK (t.len - 2),clsK t.dist,rstK t.dist⟩:=rfl
  have hml:=hid (mayT_len t hm)
  have hll:=t.lit.toNat_lt
  clear hf0 hf1 hT0
  go_enter Tryz.func156, Tryz.ntmps156
  go_upto_region 1 with fail
  generalize (w.alloc (.cells #[.int .u8 (t.lit.toNat:Int),N t.len,N t.dist] 188)).alloc (.cells #[N 0,N 0,N 0,N 0] 247)=W1 at *
  have HT:=hid hT1
  have HP:=hid hP1
  have HF:=hid hf01
  have HM1:=hid (HMy.out W1)
  have e0:=cellx hT1 0 rfl
  have e1:=cellx hT1 1 rfl
  have e2:=cellx hT1 2 rfl
  have HE:=hid (fun W (h:Fr W1 W)=>And.intro (h.cell e0) (And.intro (h.cell e1) (h.cell e2)))
  clear hT1 hP1 hf01
  go_wp2_with fail
  refine HM1.out.mono ?_
  rintro e W2 ⟨rfl,hf2⟩
  obtain⟨a0,a1,a2⟩:=HE.out W2 hf2
  clear e0 e1 e2
  by_cases h0:t.len=0
  · have HK:=hid (hK.trans (if_pos h0))
    have hP2:=hf2.heap HP.out
    rw [h0]at a1
    generalize t.lit.toNat=ln at *
    have b0:=cellx hP2 0 rfl
    have b1:=cellx hP2 1 rfl
    have b2:=cellx hP2 2 rfl
    have b3:=cellx hP2 3 rfl
    have f0:=frozen_of_heap hP2 0
    have f1:=frozen_of_heap hP2 1
    have f2:=frozen_of_heap hP2 2
    have f3:=frozen_of_heap hP2 3
    have HF2:=hid (HF.out.trans hf2)
    have HQ:=hid hP2
    have hlw:IntKind.i64.wrap (ln:Int)=ln:=IntWalk.i64_in _ (by omega)
    clear hK hml hP2 HM1 HMy
    go_wp2_with fail
    have h1:((((W2.setCell ⟨w.heap.size+1,0,none⟩ (N ln)).setCell ⟨w.heap.size+1,1,none⟩ (N 0)).setCell ⟨w.heap.size+1,2,none⟩ (N 0)).setCell ⟨w.heap.size+1,3,none⟩ (N 0)).heap[w.heap.size+1]? = some (.cells #[N ln,N 0,N 0,N 0] 247 (0,0)):=
      heap_setCell_own (heap_setCell_own (heap_setCell_own (heap_setCell_own HQ.out 0 _) 1 _) 2 _) 3 _
    have hch:Chg (fun k=>k=w.heap.size+1) W2 ((((W2.setCell ⟨w.heap.size+1,0,none⟩ (N ln)).setCell ⟨w.heap.size+1,1,none⟩ (N 0)).setCell ⟨w.heap.size+1,2,none⟩ (N 0)).setCell ⟨w.heap.size+1,3,none⟩ (N 0)):=
      (((setCell_chg W2 ⟨w.heap.size+1,0,none⟩ _).trans (setCell_chg _ ⟨w.heap.size+1,1,none⟩ _) (fun _ _ h=>h)).trans (setCell_chg _ ⟨w.heap.size+1,2,none⟩ _) (fun _ _ h=>h)).trans (setCell_chg _ ⟨w.heap.size+1,3,none⟩ _) (fun _ _ h=>h)
    have hfE:Fr w _:=Chg.below HF2.out hch HF2.out.size (fun k hk=>by omega)
    exact bodyPost_ret (v:=.tuple #[.agg #[N ln,N 0,N 0,N 0],.int .i64 0]) (results_cell_tmp Tryz.results156 _ _ (w.heap.size+1) 247 _ (0,0) _ _ rfl rfl h1 Tryz.underlying247 rfl (by kernel_rfl)) rfl ⟨by rw [HK.out],hfE⟩
  · obtain⟨_,h1,h2,h3,h4⟩:=hml.out h0
    have HK:=hid (hK.trans (if_neg h0))
    have HC1:=hid (HCl.out (t.len - 2) W2 (by omega) (by omega))
    have HC2:=hid (fun W=>HCl.out t.dist W (by omega) (by omega))
    have c1:=cls_small (t.len - 2) 8 (by omega) (by have:(2:Nat) ^ 8=256:=rfl;omega)
    generalize hc:clsK (t.len - 2)=c at *
    generalize hr:rstK (t.len - 2)=r at *
    generalize hd:clsK t.dist=d at *
    generalize hq:rstK t.dist=q at *
    clear hc hr hd hq hll
    generalize htl:t.len=tl at *
    generalize htd:t.dist=td at *
    have n1:¬(tl:Int)=0:=by omega
    have n2:((tl:Int) == 0)=false:=by simp [h0]
    have n3:(tl:Int) - 2=((tl - 2:Nat):Int):=by omega
    have HF2:=hid (HF.out.trans hf2)
    have hP2:=hid (hf2.heap HP.out)
    clear hK hml HM1 HMy htl htd
    go_wp2_with fail
    refine HC1.out.mono ?_
    rintro e W3 ⟨rfl,hf3⟩
    obtain⟨a0',a1',a2'⟩:=HE.out W3 (hf2.trans hf3)
    have HF3:=hid (HF2.out.trans hf3)
    have hP3:=hid (hf3.heap hP2.out)
    have HC3:=hid (HC2.out W3)
    clear a0 a1 a2
    go_wp2_with fail
    refine HC3.out.mono ?_
    rintro e W4 ⟨rfl,hf4⟩
    have hP4:=hf4.heap hP3.out
    have HF4:=hid (HF3.out.trans hf4)
    have b0:=cellx hP4 0 rfl
    have b1:=cellx hP4 1 rfl
    have b2:=cellx hP4 2 rfl
    have b3:=cellx hP4 3 rfl
    have f0:=frozen_of_heap hP4 0
    have f1:=frozen_of_heap hP4 1
    have f2:=frozen_of_heap hP4 2
    have f3:=frozen_of_heap hP4 3
    have HQ:=hid hP4
    obtain⟨sy,hsy⟩:∃ sy,sy=257+c:=⟨_,rfl⟩
    have hcw:(257:Int)+c=(sy:Int):=by omega
    have HSY:=hid hsy
    clear hsy
    clear hP4
    go_wp2_with fail
    have h1:((((W4.setCell ⟨w.heap.size+1,0,none⟩ (N sy)).setCell ⟨w.heap.size+1,1,none⟩ (N r)).setCell ⟨w.heap.size+1,2,none⟩ (N d)).setCell ⟨w.heap.size+1,3,none⟩ (N q)).heap[w.heap.size+1]? = some (.cells #[N sy,N r,N d,N q] 247 (0,0)):=
      heap_setCell_own (heap_setCell_own (heap_setCell_own (heap_setCell_own HQ.out 0 _) 1 _) 2 _) 3 _
    have hch:Chg (fun k=>k=w.heap.size+1) W4 ((((W4.setCell ⟨w.heap.size+1,0,none⟩ (N sy)).setCell ⟨w.heap.size+1,1,none⟩ (N r)).setCell ⟨w.heap.size+1,2,none⟩ (N d)).setCell ⟨w.heap.size+1,3,none⟩ (N q)):=
      (((setCell_chg W4 ⟨w.heap.size+1,0,none⟩ _).trans (setCell_chg _ ⟨w.heap.size+1,1,none⟩ _) (fun _ _ h=>h)).trans (setCell_chg _ ⟨w.heap.size+1,2,none⟩ _) (fun _ _ h=>h)).trans (setCell_chg _ ⟨w.heap.size+1,3,none⟩ _) (fun _ _ h=>h)
    have hfE:Fr w _:=Chg.below HF4.out hch HF4.out.size (fun k hk=>by omega)
    exact bodyPost_ret (v:=.tuple #[.agg #[N sy,N r,N d,N q],.int .i64 0]) (results_cell_tmp Tryz.results156 _ _ (w.heap.size+1) 247 _ (0,0) _ _ rfl rfl h1 Tryz.underlying247 rfl (by kernel_rfl)) rfl ⟨by rw [HK.out,HSY.out],hfE⟩
theorem range_set{α:Type}(n:Nat)(f:Nat->α)(i:Nat)(x:α):((List.range n).map f).set i x=(List.range n).map (fun j=>if j=i then x else f j):=by
 apply List.ext_getElem
 · simp
 · intro j h1 h2
   simp only [List.length_map,List.length_range]at h2
   simp only [List.getElem_set,List.getElem_map,List.getElem_range]
   by_cases e:j=i
   · subst e;simp
   · rw [if_neg (fun h=>e h.symm),if_neg e]
theorem tkAt{w:World}{v:Value}{l:List Tok}(h:See w eTk v l)(k:Nat)(hk:k<l.length) :
  ∃ b off cap,v=.slice (some ⟨b,off,none⟩) l.length cap/\w.cell? ⟨b,off+k*3,none⟩=some (.int .u8 (l[k].lit.toNat:Int))/\w.cell? ⟨b,off+k*3+1,none⟩=some (N l[k].len)/\w.cell? ⟨b,off+k*3+2,none⟩=some (N l[k].dist):=by
 obtain⟨b,off,cap,rfl,h1,h2,h3⟩:=h.cells (by intro e;simp [e]at hk)
 exact⟨b,off,cap,rfl,h3 k hk 0 (by decide) _ rfl,h3 k hk 1 (by decide) _ rfl,h3 k hk 2 (by decide) _ rfl⟩
theorem Count_any (v : Value) (l : List Tok) (w : World) (hs : See w eTk v l) (hn : l.length ≤ 1000000) (hm : ∀ t ∈ l, mayT t = true) :
    Calls Tryz.prog 108 #[v] w fun e w'=>∃ u1 u2,e=.returned (.tuple #[u1,u2,.int .i64 0])/\Ow w' w.heap.size eV u1 (symsL l)/\Ow w' w.heap.size eV u2 (farsL l)/\Fr w w':=by
  have HS:=hid (fun W (h:Fr w W)=>hs.fr h)
  obtain⟨a0,cap,rfl,hcap1,hcap2,hnone⟩:=hs.shape
  unfold maxLen at hcap2
  have HSp:=hid (fun t W h=>Split_any t W h)
  have m1:(Instr.makeSlice 175 (.int .i64 265) (.int .i64 265)).run Tryz.prog w.drew=.ok (.slice (some ⟨w.heap.size,0,none⟩) 265 265) (w.drew.alloc (.cells (madeCells (eV:Elt Tryz.prog Nat).z.cells (265*(eV:Elt Tryz.prog Nat).k)) (eV:Elt Tryz.prog Nat).e)):=made_runE (eV:Elt Tryz.prog Nat) 175 Tryz.underlying175 .i64 .i64 265 (by omega) w.drew
  have m2:(Instr.makeSlice 175 (.int .i64 12) (.int .i64 12)).run Tryz.prog w.drew=.ok (.slice (some ⟨w.heap.size,0,none⟩) 12 12) (w.drew.alloc (.cells (madeCells (eV:Elt Tryz.prog Nat).z.cells (12*(eV:Elt Tryz.prog Nat).k)) (eV:Elt Tryz.prog Nat).e)):=made_runE (eV:Elt Tryz.prog Nat) 175 Tryz.underlying175 .i64 .i64 12 (by omega) w.drew
  have m3:(Instr.makeSlice 175 (.int .i64 12) (.int .i64 12)).run Tryz.prog (w.alloc (.cells (madeCells (eV:Elt Tryz.prog Nat).z.cells (265*(eV:Elt Tryz.prog Nat).k)) (eV:Elt Tryz.prog Nat).e)).drew=.ok (.slice (some ⟨w.heap.size+1,0,none⟩) 12 12) ((w.alloc (.cells (madeCells (eV:Elt Tryz.prog Nat).z.cells (265*(eV:Elt Tryz.prog Nat).k)) (eV:Elt Tryz.prog Nat).e)).drew.alloc (.cells (madeCells (eV:Elt Tryz.prog Nat).z.cells (12*(eV:Elt Tryz.prog Nat).k)) (eV:Elt Tryz.prog Nat).e)):=by
    have:=made_runE (eV:Elt Tryz.prog Nat) 175 Tryz.underlying175 .i64 .i64 12 (by omega) (w.alloc (.cells (madeCells (eV:Elt Tryz.prog Nat).z.cells (265*(eV:Elt Tryz.prog Nat).k)) (eV:Elt Tryz.prog Nat).e)).drew
    rwa [show ∀ (W:World),W.drew.heap=W.heap from fun _=>rfl,size_alloc]at this
  have m4:(Instr.makeSlice 175 (.int .i64 265) (.int .i64 265)).run Tryz.prog (w.alloc (.cells (madeCells (eV:Elt Tryz.prog Nat).z.cells (12*(eV:Elt Tryz.prog Nat).k)) (eV:Elt Tryz.prog Nat).e)).drew=.ok (.slice (some ⟨w.heap.size+1,0,none⟩) 265 265) ((w.alloc (.cells (madeCells (eV:Elt Tryz.prog Nat).z.cells (12*(eV:Elt Tryz.prog Nat).k)) (eV:Elt Tryz.prog Nat).e)).drew.alloc (.cells (madeCells (eV:Elt Tryz.prog Nat).z.cells (265*(eV:Elt Tryz.prog Nat).k)) (eV:Elt Tryz.prog Nat).e)):=by
    have:=made_runE (eV:Elt Tryz.prog Nat) 175 Tryz.underlying175 .i64 .i64 265 (by omega) (w.alloc (.cells (madeCells (eV:Elt Tryz.prog Nat).z.cells (12*(eV:Elt Tryz.prog Nat).k)) (eV:Elt Tryz.prog Nat).e)).drew
    rwa [show ∀ (W:World),W.drew.heap=W.heap from fun _=>rfl,size_alloc]at this
  have o1:=fun W (hb:w.heap.size<=W.heap.size)=>made_ownE (base:=w.heap.size) (eV:Elt Tryz.prog Nat) 265 (by omega) W hb
  have o2:=fun W (hb:w.heap.size<=W.heap.size)=>made_ownE (base:=w.heap.size) (eV:Elt Tryz.prog Nat) 12 (by omega) W hb
  have o1:=hid o1
  have o2:=hid o2
  generalize hA1:(Obj.cells (madeCells (eV:Elt Tryz.prog Nat).z.cells (265*(eV:Elt Tryz.prog Nat).k)) (eV:Elt Tryz.prog Nat).e)=A1 at *
  generalize hA2:(Obj.cells (madeCells (eV:Elt Tryz.prog Nat).z.cells (12*(eV:Elt Tryz.prog Nat).k)) (eV:Elt Tryz.prog Nat).e)=A2 at *
  clear hs hA1 hA2
  go_enter Tryz.func108, Tryz.ntmps108
  go_upto_region 1 with fail
  go_cut [5,6]from 11 to 12 (fun v1 v2 wx=>∃ g1 g2,v1=.slice (some ⟨g1,0,none⟩) 265 265/\v2=.slice (some ⟨g2,0,none⟩) 12 12/\g1≠g2/\Ow wx w.heap.size eV v1 (List.replicate 265 0)/\Ow wx w.heap.size eV v2 (List.replicate 12 0)/\Fr w wx)
  case first=>
    go_region
    all_goals go_wp2_with fail
    all_goals go_meet
    · exact⟨w.heap.size,w.heap.size+1,rfl,rfl,by omega,((o1.out w (Nat.le_refl _)).fr ((Fr.refl _).alloc A2)).drew,(by have:=(o2.out (w.alloc A1) (by rw [size_alloc];omega)).drew;rwa [size_alloc]at this),(((Fr.refl w).alloc A1).alloc A2).drew⟩
    · exact⟨w.heap.size+1,w.heap.size,rfl,rfl,by omega,(by have:=(o1.out (w.alloc A2) (by rw [size_alloc];omega)).drew;rwa [size_alloc]at this),((o2.out w (Nat.le_refl _)).fr ((Fr.refl _).alloc A1)).drew,(((Fr.refl w).alloc A2).alloc A1).drew⟩
  case rest=>
    obtain⟨g1,g2,rfl,rfl,hgg,hO1,hO2,hfc⟩:=hcut
    clear m1 m2 m3 m4 o1 o2
    go_wp2_with fail
    go_loopw [15] (fun iv wr=>∃ k:Nat,k<=l.length/\iv=N k/\Ow wr w.heap.size eV (.slice (some ⟨g1,0,none⟩) 265 265) ((List.range 265).map (symsN (l.take k)))/\Ow wr w.heap.size eV (.slice (some ⟨g2,0,none⟩) 12 12) ((List.range 12).map (farsN (l.take k)))/\Fr w wr) (fun iv _=>l.length - (intOf iv).toNat)
    case atStart=>exact⟨0,Nat.zero_le _,rfl,by rw [List.take_zero];exact hO1,by rw [List.take_zero];exact hO2,hfc⟩
    case round=>
      clear hO1 hO2 hfc
      obtain⟨k,hk,rfl,hO1,hO2,hf⟩:=hrel
      by_cases hlt:k<l.length
      · obtain⟨b,off,cap',hv,c0,c1,c2⟩:=tkAt (HS.out wr hf) k hlt
        cases hv
        have hmt:=hm _ (List.getElem_mem hlt)
        have hTk:=List.take_succ_eq_append_getElem hlt
        have HSp1:Hid (∀ W,Calls Tryz.prog 156 #[tkV l[k]] W fun e w'=>e=.returned (.tuple #[.agg #[N (pieceK l[k]).sym,N (pieceK l[k]).len,N (pieceK l[k]).dist,N (pieceK l[k]).far],.int .i64 0])/\Fr W w'):=fun W=>HSp.out l[k] W hmt
        have hpb:=piece_bounds l[k] hmt
        generalize l[k]=t at *
        have i1:(0:Int)<=k:=by omega
        have i2:(k:Int)<l.length:=by omega
        go_wp2_with fail
        refine(HSp1.out _).mono ?_
        rintro e W2 ⟨rfl,hf2⟩
        have hf02:Fr wr W2:=((Fr.refl wr).alloc _).trans hf2
        have hfP:Fr W2 (W2.alloc (.cells #[N (pieceK t).sym,N (pieceK t).len,N (pieceK t).dist,N (pieceK t).far] 247)):=(Fr.refl W2).alloc _
        have hO1':=(hO1.fr hf02).fr hfP
        have hO2':=(hO2.fr hf02).fr hfP
        have hf':=(hf.trans hf02).trans hfP
        have htl:(l.take k).length<=1000000:=by rw [List.length_take];omega
        have hs1:=symsN_snoc (l.take k) t
        have hs2:=farsN_snoc (l.take k) t
        rw [<- hTk]at hs1 hs2
        have hle1:=fun j=>symsN_le (l.take k) j
        have hle2:=fun j=>farsN_le (l.take k) j
        obtain⟨hb1,hb2,hb3,hb4,hb5,hb6⟩:=hpb
        have HS1:=hid hs1
        have HS2:=hid hs2
        have HL1:=hid hle1
        have HL2:=hid hle2
        clear hs1 hs2 hle1 hle2 hf2 hf02 hO1 hO2 hf c0 c1 c2 HSp1 hTk
        generalize hgs:(pieceK t).sym=sy at *
        generalize hgd:(pieceK t).dist=di at *
        generalize (pieceK t).len=le at *
        generalize (pieceK t).far=fa at *
        have hm1:symsN (l.take k) sy<=1000000:=Nat.le_trans (HL1.out sy) htl
        have hm2:farsN (l.take k) di<=1000000:=Nat.le_trans (HL2.out di) htl
        have q1:=hO1'.cellAt (fun n:Nat=>Value.int .u32 (n:Int)) rfl sy (by simp;omega)
        have q2:=hO2'.cellAt (fun n:Nat=>Value.int .u32 (n:Int)) rfl di (by simp;omega)
        simp only [List.getElem_map,List.getElem_range]at q1 q2
        have HO1:=hid (hO1'.set (fun n:Nat=>Value.int .u32 (n:Int)) rfl sy (by simp;omega) (symsN (l.take k) sy+1) (.int .u32 ((symsN (l.take k) sy:Int)+1)) (by simp))
        have hRS:((List.range 265).map (symsN (l.take k))).set sy (symsN (l.take k) sy+1)=(List.range 265).map (symsN (l.take (k+1))):=by
          rw [range_set]
          refine List.map_congr_left fun j _=>?_
          rw [HS1.out j]
          by_cases e:j=sy
          · subst e;rw [if_pos rfl,if_pos rfl]
          · rw [if_neg e,if_neg (fun h=>e h.symm),Nat.add_zero]
        rw [hRS]at HO1
        have i3:(sy:Int)<265:=by omega
        have i4:(0:Int)<=sy:=by omega
        have hw1:IntKind.u32.wrap ((symsN (l.take k) sy:Int)+1)=((symsN (l.take k) sy+1:Nat):Int):=by rw [IntWalk.u32_in _ (by omega)];omega
        obtain⟨q1c,q1f⟩:=q1
        have hP3:(W2.alloc (.cells #[N sy,N le,N di,N fa] 247)).heap[W2.heap.size]? = some (.cells #[N sy,N le,N di,N fa] 247 (0,0)):=heap_new _ _ _ rfl
        have p0:(W2.alloc (.cells #[N sy,N le,N di,N fa] 247)).cell? ⟨W2.heap.size,0,none⟩=some (N sy):=by rw [cell_of_heap hP3];rfl
        have p2:(W2.alloc (.cells #[N sy,N le,N di,N fa] 247)).cell? ⟨W2.heap.size,2,none⟩=some (N di):=by rw [cell_of_heap hP3];rfl
        have hc8:Chg (fun k=>k=g1) (W2.alloc (.cells #[N sy,N le,N di,N fa] 247)) ((W2.alloc (.cells #[N sy,N le,N di,N fa] 247)).setCell ⟨g1,sy,none⟩ (.int .u32 ((symsN (l.take k) sy:Int)+1))):=setCell_chg _ ⟨g1,sy,none⟩ _
        have hg1:w.heap.size<=g1:=(hO1'.lt g1 rfl).1
        have hg2:w.heap.size<=g2:=(hO2'.lt g2 rfl).1
        have hf8:=Chg.below hf' hc8 hf'.size (fun i e=>by have e':i=g1:=e;omega)
        have hO28 := hO2'.chg hc8 (fun k hk e => by have e' : k = g1 := e; have : g2 = k := by simpa [Value.ownBlock] using hk
                                                    omega)
        have hp8:=hc8.heap hP3 (fun e=>by have:=hO1'.ne_cells hP3 (by decide);exact this (by rw [<- e];rfl))
        go_upto_region 8 with fail
        generalize W2.alloc (.cells #[N sy,N le,N di,N fa] 247)=W3 at *
        generalize W2.heap.size=pb at *
        go_upto_region 9 with fail
        have HO8:=HO1.out
        have hp80:(W3.setCell ⟨g1,sy,none⟩ (.int .u32 ((symsN (l.take k) sy:Int)+1))).cell? ⟨pb,0,none⟩=some (N sy):=by rw [cell_of_heap hp8];rfl
        have hp82:(W3.setCell ⟨g1,sy,none⟩ (.int .u32 ((symsN (l.take k) sy:Int)+1))).cell? ⟨pb,2,none⟩=some (N di):=by rw [cell_of_heap hp8];rfl
        clear hc8 hp8 hP3 p0 p2 hO1' hO2' hf' q1c q1f HO1 hRS hw1 HS1 HL1 hm1
        generalize W3.setCell ⟨g1,sy,none⟩ (.int .u32 ((symsN (l.take k) sy:Int)+1))=W8 at *
        by_cases h0:t.len=0
        · have hsy:¬(256:Int)<sy:=by have:=hb5.2 h0;omega
          have hO29:Ow W8 w.heap.size eV (.slice (some ⟨g2,0,none⟩) 12 12) ((List.range 12).map (farsN (l.take (k+1)))):=by
            rw [show farsN (l.take (k+1))=farsN (l.take k)from funext fun j=>by rw [HS2.out j,if_neg (fun h=>h.1 h0),Nat.add_zero]];exact hO28
          clear HS2 HL2
          go_wp2_with fail
          go_roundw
          case rel=>exact⟨k+1,by omega,by go_num,HO8,hO29,hf8⟩
          case measure=>simp [intOf];omega
        · have hsy:(256:Int)<sy:=by have:=hb6 h0;omega
          have q3:=hO28.cellAt (fun n:Nat=>Value.int .u32 (n:Int)) rfl di (by simp;omega)
          simp only [List.getElem_map,List.getElem_range]at q3
          obtain⟨q3c,q3f⟩:=q3
          have HO2:=hO28.set (fun n:Nat=>Value.int .u32 (n:Int)) rfl di (by simp;omega) (farsN (l.take k) di+1) (.int .u32 ((farsN (l.take k) di:Int)+1)) (by simp)
          have hRS2:((List.range 12).map (farsN (l.take k))).set di (farsN (l.take k) di+1)=(List.range 12).map (farsN (l.take (k+1))):=by
            rw [range_set]
            refine List.map_congr_left fun j _=>?_
            rw [HS2.out j]
            by_cases e:j=di
            · subst e;rw [if_pos rfl,if_pos ⟨h0,rfl⟩]
            · rw [if_neg e,if_neg (fun h=>e h.2.symm),Nat.add_zero]
          rw [hRS2]at HO2
          have i5:(di:Int)<12:=by omega
          have i6:(0:Int)<=di:=by omega
          have hc9:Chg (fun k=>k=g2) W8 (W8.setCell ⟨g2,di,none⟩ (.int .u32 ((farsN (l.take k) di:Int)+1))):=setCell_chg _ ⟨g2,di,none⟩ _
          have hf9:=Chg.below hf8 hc9 hf8.size (fun i e=>by have e':i=g2:=e;omega)
          have hO19 := HO8.chg hc9 (fun k hk e => by have e' : k = g2 := e; have : g1 = k := by simpa [Value.ownBlock] using hk
                                                     omega)
          have HO2:=hid HO2
          have hf9:=hid hf9
          have hO19:=hid hO19
          clear HS2 HL2 hRS2 hc9
          generalize farsN (l.take k) di=fm at *
          have hw2:IntKind.u32.wrap ((fm:Int)+1)=(fm:Int)+1:=IntWalk.u32_in _ (by omega)
          go_wp2_with fail
          go_roundw
          case rel=>exact⟨k+1,by omega,by go_num,hO19.out,HO2.out,hf9.out⟩
          case measure=>simp [intOf];omega
      · obtain rfl:k=l.length:=by omega
        have hnl:¬(l.length:Int)<l.length:=by omega
        rw [List.take_length]at hO1 hO2
        have hle:=symsN_le l 256
        have q1:=hO1.cellAt (fun n:Nat=>Value.int .u32 (n:Int)) rfl 256 (by simp)
        simp only [List.getElem_map,List.getElem_range]at q1
        obtain⟨q1c,q1f⟩:=q1
        have HO1:=hO1.set (fun n:Nat=>Value.int .u32 (n:Int)) rfl 256 (by simp) (symsN l 256+1) (.int .u32 ((symsN l 256:Int)+1)) (by simp)
        have hRS:((List.range 265).map (symsN l)).set 256 (symsN l 256+1)=symsL l:=by
          rw [range_set]
          refine List.map_congr_left fun j _=>?_
          by_cases e:j=256
          · subst e;rw [if_pos rfl,if_pos rfl]
          · rw [if_neg e,if_neg e,Nat.add_zero]
        rw [hRS]at HO1
        have hg1:w.heap.size<=g1:=(hO1.lt g1 rfl).1
        have hc9:Chg (fun k=>k=g1) wr (wr.setCell ⟨g1,256,none⟩ (.int .u32 ((symsN l 256:Int)+1))):=setCell_chg _ ⟨g1,256,none⟩ _
        have hf9:=Chg.below hf hc9 hf.size (fun i e=>by have e':i=g1:=e;omega)
        have hO29 := hO2.chg hc9 (fun k hk e => by have e' : k = g1 := e; have : g2 = k := by simpa [Value.ownBlock] using hk
                                                   omega)
        have HO1:=hid HO1
        have hf9:=hid hf9
        have hO29:=hid hO29
        clear hRS hc9 hO1 hO2
        generalize symsN l 256=sm at *
        have hw2:IntKind.u32.wrap ((sm:Int)+1)=(sm:Int)+1:=IntWalk.u32_in _ (by omega)
        go_wp2_with fail
        go_ret3
        exact⟨_,_,rfl,HO1.out,hO29.out,hf9.out⟩
theorem HufAt.chg{w w':World}{base g n:Nat}{a:List UInt8}{c:Nat->Value}{G:Nat->Prop}(h:HufAt w base g a n c)(hc:Chg G w w')(h1:¬G g)(h2:∀ k,(c 0).ownBlock=some k->¬G k)(h3:∀ k,(c 1).ownBlock=some k->¬G k)
  (h4:∀ l,1<=l->l<16->∀ k,(c (34+l)).ownBlock=some k->¬G k):HufAt w' base g a n c:=
 ⟨h.arr.chg hc h1,h.own0.chg hc h2,h.own1.chg hc h3,h.first,h.many,fun l a b=>(h.syms l a b).chg hc (h4 l a b),h.apart,h.up⟩
theorem HufAt.fr{w w':World}{base g n:Nat}{a:List UInt8}{c:Nat->Value}(h:HufAt w base g a n c)(hf:Fr w w'):HufAt w' base g a n c:=
 ⟨h.arr.fr hf,h.own0.fr hf,h.own1.fr hf,h.first,h.many,fun l a b=>(h.syms l a b).fr hf,h.apart,h.up⟩
def CdAt(w:World)(b:Nat)(cv:Value)(a:List UInt8)(g:Nat)(bv:Value):Prop:=
 (okK a=false/\cv=.pointer none)\/(okK a=true/\∃ g2 c,cv=.pointer (some ⟨g2,0,none⟩)/\HufAt w b g2 a a.length c/\g2≠g/\((c 0).ownBlock=none\/(c 0).ownBlock≠bv.ownBlock))
theorem CdAt.fr{w w':World}{b g:Nat}{cv bv:Value}{a:List UInt8}(h:CdAt w b cv a g bv)(hf:Fr w w'):CdAt w' b cv a g bv:=by
 rcases h with h | ⟨h,g2,c,h1,h2,h3,h4⟩
 · exact .inl h
 · exact .inr ⟨h,g2,c,h1,h2.fr hf,h3,h4⟩
theorem CdAt.step{w w':World}{b base g:Nat}{T:TypeId}{rest:List Value}{cv bv bv':Value}{a l:List UInt8}(h:CdAt w b cv a g bv)(hW:WrB w base g T rest bv l)(hT:T≠5/\T≠211/\T≠3)(hst:WSt g bv bv' w w'):CdAt w' b cv a g bv':=by
 rcases h with h | ⟨h,g2,c,h1,h2,h3,h4⟩
 · exact .inl h
 · have hbv:=hW.2.1
   refine .inr ⟨h,g2,c,h1,h2.chg hst.1 ?_ ?_ ?_ ?_,h3,?_⟩
   · rintro(e | e)
     · exact h3 e
     · exact hbv.ne_cells h2.arr (by decide) e
   · rintro k hk (e | e)
     · exact h2.own0.ne_cells hW.1 hT.1 (by rw [hk,e])
     · rcases h4 with h5 | h5
       · rw [h5]at hk;cases hk
       · exact h5 (hk.trans e.symm)
   · rintro k hk (e | e)
     · exact h2.own1.ne_cells hW.1 hT.2.1 (by rw [hk,e])
     · rcases own_ne h2.own1 hbv (by decide)with h5 | h5
       · rw [h5]at hk;cases hk
       · exact h5 (hk.trans e.symm)
   · rintro i i1 i2 k hk (e | e)
     · exact(h2.syms i i1 i2).ne_cells hW.1 hT.2.2 (by rw [hk,e])
     · rcases own_ne (h2.syms i i1 i2) hbv (by decide)with h5 | h5
       · rw [h5]at hk;cases hk
       · exact h5 (hk.trans e.symm)
   · cases hb:(c 0).ownBlock with
     | none=>exact .inl rfl
     | some k=>
      refine .inr fun e=>?_
      rcases hst.2 k e.symm with h5 | h5
      · rcases h4 with h6 | h6
        · rw [h6]at hb;cases hb
        · exact h6 (hb.trans h5.symm)
      · have:=(h2.own0.lt k hb).2
        omega
theorem cdPut_any(a:List UInt8)(b2 s:Nat)(cv:Value)(base g:Nat)(T:TypeId)(rest:List Value)(bv:Value)(l:List UInt8)(w:World)(h:CdAt w b2 cv a g bv)(hW:WrB w base g T rest bv l)
  (hn:a.length<=300) (h15:∀ c∈a,c.toNat<=15) (hs:s<=1000000) (hl:l.length<=900000000) (hsz:base<=w.heap.size) :
  Calls Tryz.prog 111 #[cv,.pointer (some ⟨g,0,none⟩),N s] w fun e w'=>(∃ x:Int,e=.returned (.int .i64 x))/\∃ bv',WrB w' base g T rest bv' (l++ptK a s)/\WSt g bv bv' w w':=by
 rcases h with⟨h,rfl⟩ | ⟨h,g2,c,rfl,h2,_,_⟩
 · refine(HPut_nil _ _ w).mono ?_
   rintro e w' ⟨rfl,hf⟩
   refine⟨⟨7,rfl⟩,bv,?_,(WSt.refl g bv w).frR hf⟩
   have e:ptK a s=[]:=by unfold ptK;rw [h];rfl
   rw [e,List.append_nil]
   exact⟨hf.heap hW.1,hW.2.1.fr hf,hW.2.2⟩
 · refine(HPut_any a b2 g2 a.length s c base g T rest bv l w h2 hW hn h15 h hs hl hsz).mono ?_
   rintro e w' ⟨rfl,bv',h3,h4⟩
   refine⟨⟨_,rfl⟩,bv',?_,h4⟩
   unfold ptK
   rw [h]
   exact h3
end Go.Proofs.YtdagmoonnbnceaaGreatDoor
