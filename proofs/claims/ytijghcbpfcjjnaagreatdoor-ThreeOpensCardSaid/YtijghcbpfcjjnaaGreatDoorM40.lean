/- Parts of the proof of ThreeOpens: Tr4. -/
import Derived.Test.YtijghcbpfcjjnaaGreatDoorM28
import Derived.Test.YtijghcbpfcjjnaaGreatDoorM39
import Derived.Test.YtijghcbpfcjjnaaGreatDoorM18
import Derived.Test.YtijghcbpfcjjnaaGreatDoorM20
set_option linter.unusedVariables false
set_option linter.unusedSectionVars false
set_option linter.unusedSimpArgs false
set_option maxHeartbeats 8000000
namespace Go.Proofs.YtijghcbpfcjjnaaGreatDoor
open Go.RowKit Go.Fk
theorem results_cell_tmp3{P:Program}{fn:Func}{p q r s:Tmp}{ty:TypeId}(h:fn.results=#[.cell p ty,.tmp q,.tmp r,.tmp s])(tmps:Array Value)(w:World)(g:Nat)(t:TypeId)(cs:Array Value)(fr:Nat × Nat)(d:TypeDesc)(v1 v2 v3:Value)
  (hp:tmps.getD p undef=.pointer (some ⟨g,0,none⟩)) (hq:tmps.getD q undef=v1) (hr:tmps.getD r undef=v2) (hs:tmps.getD s undef=v3) (hg:w.heap[g]?=some (.cells cs t fr))
  (hu:P.underlying ty=some d) (hd:(match d with | .struct _ | .array _ _=>true | _=>false)=true) (hi:(P.info? ty).map (·.size)=some cs.size) :
  (results fn tmps).run P w=.ok (.tuple #[.agg cs,v1,v2,v3]) w:=by
 have hp':tmps[p]?.getD undef=.pointer (some ⟨g,0,none⟩):=by simpa using hp
 have hq':tmps[q]?.getD undef=v1:=by simpa using hq
 have hr':tmps[r]?.getD undef=v2:=by simpa using hr
 have hs':tmps[s]?.getD undef=v3:=by simpa using hs
 simp [results,h,hp',hq',hr',hs',asAddr,run_loadVar_row w g t ty cs fr d hg hu hd hi]
abbrev optZ:Array Value:=#[.int .i64 0,.bool false,.int .i64 0,.int .i64 0,.int .i64 0,.int .i64 0]
theorem headOf_counts(b:List UInt8):countB (headOf b)=hasB b:=by
 unfold headOf hasB
 cases h:countB (b.take 21)
 · simp
 · simp [h]
set_option maxRecDepth 100000
theorem RBody_any (v : Value) (b : List UInt8) (w : World) (hs : See w eB v b) (hl : b.length ≤ 1500) :
    Calls Tryz.prog 16 #[v] w fun e w'=>∃ ov u,e=.returned (.tuple #[ov,u,N (bodyR b).2.2,.int .i64 ((bodyR b).1:Int)])/\Ow w' w.heap.size eB u (bodyR b).2.1/\Fr w w'/\((bodyR b).1=0->ov=optV (optH (headOf b)))/\((bodyR b).1≠0->ov=.agg optZ):=by
  have HS:=hid hs
  obtain⟨a0,cap,hv,hcap1,hcap2,_⟩:=hs.shape
  subst hv
  unfold maxLen at hcap2
  have hinf:(Tryz.prog.info? 25).map (·.size)=some 6:=by kernel_rfl
  have hone:(optZ).all (·.oneCell')=true:=by rw [List.all_toArray];rfl
  have hfA:Fr w (w.alloc (.cells optZ 25)):=(Fr.refl w).alloc _
  have h0:=heap_new w (.cells optZ 25) w.heap.size rfl
  obtain⟨W0,hW0⟩:∃ W0,W0=w.alloc (.cells optZ 25):=⟨_,rfl⟩
  rw [<- hW0]at hfA h0
  have HZE:=hid (fun(W:World) (hg:W.heap[w.heap.size]?=some (.cells optZ 25 (0,0))) (hf:Fr w W)=>show Fr w (W.setRow w.heap.size optZ)from Chg.below hf (setRow_chg W w.heap.size optZ) hf.size (fun i e=>by rw [show i=w.heap.size from e];exact Nat.le_refl _))
  by_cases h42:b.length<42
  · have HR:=hid (bodyR_short b h42)
    have j1:(b.length:Int)<42:=by omega
    clear hs h42
    subst hW0
    go_enter Tryz.func16, Tryz.ntmps16
    go_wp2_with (first | (refine wpList_store_row rfl 25 (.tmp 2) (.tmp 17) rfl w.heap.size optZ rfl rfl 25 _ h0 hinf rfl hone ?_))
    have hE:=HZE.out _ h0 hfA
    have hG:=setRow_heap _ w.heap.size _ optZ _ _ h0
    refine bodyPost_ret (v:=.tuple #[.agg optZ,.slice none 0 0,.int .i64 0,.int .i64 1]) (results_cell_tmp3 Tryz.results16 _ _ w.heap.size 25 _ (0,0) _ _ _ _ rfl rfl rfl rfl hG Tryz.underlying25 rfl hinf) rfl ?_
    rw [HR.out]
    exact⟨_,_,rfl,Ow.nil,hE,(fun h=>by cases h),fun _=>rfl⟩
  · have hhl:=headOf_len b h42
    obtain⟨hto,hts⟩:=run_to eB 22 Tryz.underlying22 hs 21 (by omega)
    have hto2:∀ W,(Instr.slice 22 (.slice a0 b.length cap) none (some (.int .i64 21)) none).run Tryz.prog W=.ok (.slice a0 21 cap) W:=hto
    obtain⟨K21,hK⟩:∃ K,K=b.length - 21:=⟨_,rfl⟩
    obtain⟨fa,fc,hfr,hfs⟩:=run_from eB 22 Tryz.underlying22 hs K21 (by omega)
    rw [show b.length - K21=21 by omega]at hfr hfs
    have hw21:IntKind.i64.wrap ((b.length:Int) - 21)=(K21:Int):=by rw [IntWalk.i64_in _ (by omega)];omega
    have hw21b:wrap64 ((b.length:Int) - 21)=(K21:Int):=by rw [IntWalk.wrap64_in _ (by omega)];omega
    rw [hK]at hfs
    have HC1:=hid (fun W (h:Fr w W)=>RCountB_any _ (b.take 21) W (hts.fr h) (by rw [List.length_take];omega))
    have HCh:=hid (fun W u (h:See W eB u (headOf b))=>RCountB_any u (headOf b) W h (by rw [hhl];omega))
    rw [headOf_counts]at HCh
    have HHe:Hid (headOf b=if countB (b.take 21)then b.take 21 else b.drop (b.length - 21)):=rfl
    have HSum:=hid (bodyR_sum b h42)
    have HForm:=hid (bodyR_form b h42)
    have HOpts:=hid (bodyR_opts b h42)
    have HErr:=hid (bodyR_read b h42)
    have HGood:=hid (bodyR_ok b h42)
    have j1:¬(b.length:Int)<42:=by omega
    have j2:(21:Int)<=b.length:=by omega
    have j3:(K21:Int)<=b.length:=by omega
    have j4:(0:Int)<=K21:=by omega
    have HK:=hid hK
    have H42:=hid h42
    have hts':=hid hts
    have hfs':=hid hfs
    have HB5:=hid (And.intro hto2 hfr)
    clear hs h42 hto hts hfs hK
    subst hW0
    go_enter Tryz.func16, Tryz.ntmps16
    go_wp2_with fail
    refine(HC1.out _ hfA).mono ?_
    rintro e w1 ⟨rfl,hf1⟩
    have hf01:=hfA.trans hf1
    have h1:=hf1.heap h0
    clear HC1 hf1
    go_upto_if 22 with fail
    go_cut [6]from 20 to 28 (fun hv wx=>See wx eB hv (headOf b)/\wx=w1)
    case first=>
      have hce:=HHe.out
      cases hcb:countB (b.take 21)
      · rw [hcb]at hce
        have hse:See w1 eB (.slice fa 21 fc) (headOf b):=by rw [hce];exact hfs'.out.fr hf01
        clear hce hcb
        go_wp2_with fail
        go_meet
        exact⟨hse,rfl⟩
      · rw [hcb]at hce
        have hse:See w1 eB (.slice a0 21 cap) (headOf b):=by rw [hce];exact hts'.out.fr hf01
        clear hce hcb
        go_wp2_with fail
        go_meet
        exact⟨hse,rfl⟩
    case rest=>
      obtain⟨hse,hwx⟩:=hcut
      subst hwx
      have HC2:=hid (HCh.out _ _ hse)
      obtain⟨ha,hc,hhv,_,_,_⟩:=hse.shape
      rw [hhl]at hhv
      subst hhv
      have hf0c:=hf01
      cases hh:hasB b
      · have HR:=hid (HSum.out hh)
        rw [hh]at HC2
        clear hh hse
        go_wp2_with fail
        refine HC2.out.mono ?_
        rintro e w2 ⟨rfl,hf2⟩
        have h2:=hf2.heap h1
        have hf02:=hf0c.trans hf2
        go_wp2_with (first | (refine wpList_store_row rfl 25 (.tmp 2) (.tmp 31) rfl w.heap.size optZ rfl rfl 25 _ h2 hinf rfl hone ?_))
        have hE:=HZE.out _ h2 hf02
        have hG:=setRow_heap _ w.heap.size _ optZ _ _ h2
        refine bodyPost_ret (v:=.tuple #[.agg optZ,.slice none 0 0,.int .i64 0,.int .i64 5]) (results_cell_tmp3 Tryz.results16 _ _ w.heap.size 25 _ (0,0) _ _ _ _ rfl rfl rfl rfl hG Tryz.underlying25 rfl hinf) rfl ?_
        rw [HR.out]
        exact⟨_,_,rfl,Ow.nil,hE,(fun h=>by cases h),fun _=>rfl⟩
      · rw [hh]at HC2
        obtain⟨hb,hoff,hcp,hv,_,_,hcell⟩:=hse.at1 Fk.u8 rfl (by intro e;rw [e]at hhl;cases hhl)
        rw [hhl]at hv
        simp only [Value.slice.injEq]at hv
        obtain⟨rfl,hz1,rfl⟩:=hv
        have e5:=hcell 5 (by rw [hhl];omega)
        have e6:=hcell 6 (by rw [hhl];omega)
        have e7:=hcell 7 (by rw [hhl];omega)
        have e8:=hcell 8 (by rw [hhl];omega)
        have q5:wc.cell? ⟨hb,hoff+5,none⟩=some (.int .u8 ((hX (headOf b):Nat):Int)):=by rw [e5];unfold hX;rw [getD_at _ _ _ (by rw [hhl];omega)]
        have q6:wc.cell? ⟨hb,hoff+6,none⟩=some (.int .u8 ((hBu (headOf b):Nat):Int)):=by rw [e6];unfold hBu;rw [getD_at _ _ _ (by rw [hhl];omega)]
        have q7:wc.cell? ⟨hb,hoff+7,none⟩=some (.int .u8 ((hD (headOf b):Nat):Int)):=by rw [e7];unfold hD;rw [getD_at _ _ _ (by rw [hhl];omega)]
        have q8:wc.cell? ⟨hb,hoff+8,none⟩=some (.int .u8 ((hQ (headOf b):Nat):Int)):=by rw [e8];unfold hQ;rw [getD_at _ _ _ (by rw [hhl];omega)]
        clear e5 e6 e7 e8 hz1 hcell
        by_cases hX1:1<hX (headOf b)
        · have HR:=hid (HForm.out hh hX1)
          have i1:(1:Int)<((hX (headOf b):Nat):Int):=by omega
          clear hh hX1 hse
          generalize hX (headOf b)=x at *
          go_wp2_with fail
          refine HC2.out.mono ?_
          rintro e w2 ⟨rfl,hf2⟩
          have h2:=hf2.heap h1
          have hf02:=hf0c.trans hf2
          have p5:=hf2.cell q5
          go_wp2_with (first | (refine wpList_store_row rfl 25 (.tmp 2) (.tmp 36) rfl w.heap.size optZ rfl rfl 25 _ h2 hinf rfl hone ?_))
          have hE:=HZE.out _ h2 hf02
          have hG:=setRow_heap _ w.heap.size _ optZ _ _ h2
          refine bodyPost_ret (v:=.tuple #[.agg optZ,.slice none 0 0,.int .i64 0,.int .i64 2]) (results_cell_tmp3 Tryz.results16 _ _ w.heap.size 25 _ (0,0) _ _ _ _ rfl rfl rfl rfl hG Tryz.underlying25 rfl hinf) rfl ?_
          rw [HR.out]
          exact⟨_,_,rfl,Ow.nil,hE,(fun h=>by cases h),fun _=>rfl⟩
        · have i1:¬(1:Int)<((hX (headOf b):Nat):Int):=by omega
          obtain⟨ga,gc,hfr9,hs9⟩:=run_from eB 22 Tryz.underlying22 hse 9 (by rw [hhl];omega)
          rw [hhl,show 21 - 9=12 from rfl]at hfr9 hs9
          have hfr9b:∀ W,(Instr.slice 22 (.slice (some ⟨hb,hoff,none⟩) 21 hc) (some (.int .i64 9)) none none).run Tryz.prog W=.ok (.slice ga 12 gc) W:=hfr9
          have hl9:((headOf b).drop 9).length=12:=by rw [List.length_drop,hhl]
          have HNew:=hid (fun W (h:Fr wc W)=>RNew_any _ ((headOf b).drop 9) W (hs9.fr h) (by omega))
          have HF0:=hid (fun B base W (hcu:CurF W 99 B base ((headOf b).drop 9) 0 0) (hb:base<=W.heap.size)=>RFixed_yes B base 0 2 ((headOf b).drop 9) W hcu (by omega) (by omega) (by omega) (by omega) hb)
          have HF2:=hid (fun B base W (hcu:CurF W 99 B base ((headOf b).drop 9) 2 0) (hb:base<=W.heap.size)=>RFixed_yes B base 2 2 ((headOf b).drop 9) W hcu (by omega) (by omega) (by omega) (by omega) hb)
          have HF4:=hid (fun B base W (hcu:CurF W 99 B base ((headOf b).drop 9) 4 0) (hb:base<=W.heap.size)=>RFixed_yes B base 4 4 ((headOf b).drop 9) W hcu (by omega) (by omega) (by omega) (by omega) hb)
          have z1:leN ((((headOf b).drop 9).drop 0).take 2)=hC (headOf b):=rfl
          have z2:leN ((((headOf b).drop 9).drop 2).take 2)=hSz (headOf b):=by rw [List.drop_drop];rfl
          have z3:leN ((((headOf b).drop 9).drop 4).take 4)=hN (headOf b):=by rw [List.drop_drop];rfl
          rw [z1]at HF0
          rw [z2]at HF2
          rw [z3]at HF4
          have HOC:=hid (fun W=>show Calls Tryz.prog 42 #[.int .i64 3,optV (optH (headOf b))] W fun e w'=>e=.returned (.int .i64 (optE (optH (headOf b))))/\Fr W w' from ROCheck3_any (optH (headOf b)) W)
          have HOe:Hid (optV (optH (headOf b))=.agg #[N (hSz (headOf b)),.bool (decide (hX (headOf b)=1)),N (hBu (headOf b)),N (hD (headOf b)),N (hQ (headOf b)),N (hC (headOf b))]):=rfl
          have HOe2:=hid HOe.out
          rw [HOe.out]at HOC
          have b1:hX (headOf b)<256:=UInt8.toNat_lt _
          have b2:hBu (headOf b)<256:=UInt8.toNat_lt _
          have b3:hD (headOf b)<256:=UInt8.toNat_lt _
          have b4:hQ (headOf b)<256:=UInt8.toNat_lt _
          have c1:hC (headOf b)<65536:=by have:=leN_lt ((headOf b).drop 9 |>.take 2);rw [List.length_take,List.length_drop,hhl]at this;exact this
          have c2:hSz (headOf b)<65536:=by have:=leN_lt ((headOf b).drop 11 |>.take 2);rw [List.length_take,List.length_drop,hhl]at this;exact this
          have c3:hN (headOf b)<4294967296:=by have:=leN_lt ((headOf b).drop 13 |>.take 4);rw [List.length_take,List.length_drop,hhl]at this;exact this
          have HRe:=hid (fun(ho:opt3 (optH (headOf b))=true) W u (h:See W eB u (innerB b))=>RRead_any (hD (headOf b)) (hQ (headOf b)) (hC (headOf b)) (hN (headOf b)) u (innerB b) W h (optH_ok _ ho).2.2.2.2.1 (optH_ok _ ho).2.2.2.2.2.1 (optH_ok _ ho).2.2.2.2.2.2.1 (optH_ok _ ho).2.2.2.2.2.2.2 (by omega) (by rw [innerB_len];omega))
          have HRB:Hid (readB b=readS (hD (headOf b)) (hQ (headOf b)) (hC (headOf b)) (hN (headOf b)) (innerB b)):=rfl
          rw [<- HRB.out]at HRe
          have HX1:=hid hX1
          have HHh:=hid hh
          have hpb:(((hX (headOf b):Nat):Int) == 1)=decide (hX (headOf b)=1):=by
            rw [show(((hX (headOf b):Nat):Int) == 1)=decide (((hX (headOf b):Nat):Int)=1)from rfl]
            exact decide_eq_decide.2 ⟨fun h=>by omega,fun h=>by omega⟩
          clear z1 z2 z3 hX1 hh hse hfr9 hs9 hl9 HOe
          generalize hX (headOf b)=x at *
          generalize hBu (headOf b)=xb at *
          generalize hD (headOf b)=xd at *
          generalize hQ (headOf b)=xq at *
          generalize hC (headOf b)=fC at *
          generalize hSz (headOf b)=fS at *
          generalize hN (headOf b)=fN at *
          generalize decide (x=1)=p at *
          have w1:IntKind.i64.wrap (xb:Int)=(xb:Int):=wrap_i64 _ (by omega)
          have w2:IntKind.i64.wrap (xd:Int)=(xd:Int):=wrap_i64 _ (by omega)
          have w3:IntKind.i64.wrap (xq:Int)=(xq:Int):=wrap_i64 _ (by omega)
          have w4:IntKind.i64.wrap (fC:Int)=(fC:Int):=wrap_i64 _ (by omega)
          have w5:IntKind.i64.wrap (fS:Int)=(fS:Int):=wrap_i64 _ (by omega)
          have w6:IntKind.i64.wrap (fN:Int)=(fN:Int):=wrap_i64 _ (by omega)
          go_wp2_with fail
          refine HC2.out.mono ?_
          rintro e W2 ⟨rfl,hf2⟩
          have h2:=hf2.heap h1
          have hO2:w.heap.size<W2.heap.size:=(Array.getElem?_eq_some_iff.1 h2).1
          have hf02:=hf0c.trans hf2
          have p5:=hf2.cell q5
          have p6:=hf2.cell q6
          have p7:=hf2.cell q7
          have p8:=hf2.cell q8
          have HN2:=hid (HNew.out W2 hf2)
          clear q5 q6 q7 q8 h1 hf2 hf0c HC2 HNew
          go_wp2_with fail
          refine HN2.out.mono ?_
          rintro e W3 ⟨B,rfl,hCu,hf3,hBs⟩
          have h3:=hf3.heap h2
          have hf03:=hf02.trans hf3
          have r5:=hf3.cell p5
          have r6:=hf3.cell p6
          have r7:=hf3.cell p7
          have r8:=hf3.cell p8
          clear p5 p6 p7 p8 h2 HN2
          go_upto_region 11 with fail
          go_region_held3 (fun w' => w'.cell? ⟨hb, hoff + 5, none⟩ = some (.int .u8 (x : Int)) ∧ w'.cell? ⟨hb, hoff + 6, none⟩ = some (.int .u8 (xb : Int)) ∧ w'.cell? ⟨hb, hoff + 7, none⟩ = some (.int .u8 (xd : Int)) ∧ w'.cell? ⟨hb, hoff + 8, none⟩ = some (.int .u8 (xq : Int)))
            (first | go_keep)
            (fail)
          have hfA4:Fr W3 (W3.alloc (.cells #[.int .i64 0,.bool p,N xb,N xd,N xq,.int .i64 0] 25)).drew:=((Fr.refl W3).alloc _).drew
          have hG4:(W3.alloc (.cells #[.int .i64 0,.bool p,N xb,N xd,N xq,.int .i64 0] 25)).drew.heap[W3.heap.size]?=some (.cells #[.int .i64 0,.bool p,N xb,N xd,N xq,.int .i64 0] 25 (0,0)):=heap_new W3 _ _ rfl
          generalize (W3.alloc (.cells #[.int .i64 0,.bool p,N xb,N xd,N xq,.int .i64 0] 25)).drew=W4 at *
          have hgB:B<W3.heap.size:=by obtain⟨⟨v,h1,_⟩,_⟩:=hCu;exact(Array.getElem?_eq_some_iff.1 h1).1
          have hgs:w.heap.size<=W3.heap.size:=hf03.size
          have hgO:w.heap.size<W3.heap.size:=(Array.getElem?_eq_some_iff.1 h3).1
          have hg2:=hf02.size
          generalize W3.heap.size=g at *
          have h4:=hfA4.heap h3
          have hf04:=hf03.trans hfA4
          have hC4:=hCu.fr hfA4
          have hb24:W2.heap.size<=W4.heap.size:=Nat.le_trans hf3.size hfA4.size
          have HB5:=hid (HF0.out B _ W4 hC4 hb24)
          generalize W2.heap.size=bs at *
          clear h3 hfA4 hCu hf02 hf3 HF0 hC4 r5 r6 r7 r8
          go_wp2_with fail
          refine(HB5.out).mono ?_
          rintro e W5 ⟨rfl,hC5,hch5⟩
          have hf05:Fr w W5:=Chg.below hf04 hch5 hf04.size (fun i e=>by have e:i=B:=e;omega)
          have hG5:=hch5.heap hG4 (by omega)
          have h5:=hch5.heap h4 (by omega)
          have hbs5:=Nat.le_trans hb24 hch5.size
          have d5:W5.cell? ⟨g,5,none⟩=some (.int .i64 0):=by rw [cell_of_heap hG5];rfl
          have f5:=frozen_of_heap hG5 5
          clear HB5 hch5 hG4 h4 hf04 hb24
          have hBg:B≠g:=by omega
          have hch6:=setCell_chg W5 ⟨g,5,none⟩ (.int .i64 (fC:Int))
          have hG6:(W5.setCell ⟨g,5,none⟩ (.int .i64 (fC:Int))).heap[g]?=some (.cells #[.int .i64 0,.bool p,N xb,N xd,N xq,N fC] 25 (0,0)):=by simpa using heap_setCell_own hG5 5 (.int .i64 (fC:Int))
          have hC6:=hC5.box hG5 (by decide) hBg hch6
          have hf06:Fr w (W5.setCell ⟨g,5,none⟩ (.int .i64 (fC:Int))):=Chg.below hf05 hch6 hf05.size (fun i e=>by have e:i=g:=e;omega)
          have h6:=hch6.heap h5 (fun e=>by have e:w.heap.size=g:=e;omega)
          have HB7:=hid (HF2.out B _ _ hC6 (Nat.le_trans hbs5 hch6.size))
          have hbs6:=Nat.le_trans hbs5 hch6.size
          clear hch6 hC5 hf05 h5 hbs5 HF2 hC6
          have HG6:=hid hG6
          have HW6:=hid (And.intro hf06 (And.intro h6 hbs6))
          clear hG6 hf06 h6 hbs6
          go_wp2_with fail
          generalize W5.setCell ⟨g,5,none⟩ (.int .i64 (fC:Int))=W6 at *
          obtain⟨hf06,h6,hbs6⟩:=HW6.out
          refine(HB7.out).mono ?_
          rintro e W7 ⟨rfl,hC7,hch7⟩
          have hf07:Fr w W7:=Chg.below hf06 hch7 hf06.size (fun i e=>by have e:i=B:=e;omega)
          have hG7:=hch7.heap HG6.out (fun e=>hBg e.symm)
          have h7:=hch7.heap h6 (by omega)
          have hbs7:=Nat.le_trans hbs6 hch7.size
          have d0:W7.cell? ⟨g,0,none⟩=some (.int .i64 0):=by rw [cell_of_heap hG7];rfl
          have f0:=frozen_of_heap hG7 0
          have hch8:=setCell_chg W7 ⟨g,0,none⟩ (.int .i64 (fS:Int))
          have hG8:(W7.setCell ⟨g,0,none⟩ (.int .i64 (fS:Int))).heap[g]?=some (.cells #[N fS,.bool p,N xb,N xd,N xq,N fC] 25 (0,0)):=by simpa using heap_setCell_own hG7 0 (.int .i64 (fS:Int))
          have hC8:=hC7.box hG7 (by decide) hBg hch8
          have hf08:Fr w (W7.setCell ⟨g,0,none⟩ (.int .i64 (fS:Int))):=Chg.below hf07 hch8 hf07.size (fun i e=>by have e:i=g:=e;omega)
          have h8:=hch8.heap h7 (fun e=>by have e:w.heap.size=g:=e;omega)
          have HB9:=hid (HF4.out B _ _ hC8 (Nat.le_trans hbs7 hch8.size))
          have HG8:=hid hG8
          have HW8:=hid (And.intro hf08 h8)
          clear HB7 hch7 hch8 hC7 hf07 h7 hbs7 HF4 hC8 hG8 hf08 h8 HG6 HW6 hf06 h6 hbs6 d5 f5
          go_wp2_with fail
          generalize W7.setCell ⟨g,0,none⟩ (.int .i64 (fS:Int))=W8 at *
          obtain⟨hf08,h8⟩:=HW8.out
          refine(HB9.out).mono ?_
          rintro e W9 ⟨rfl,hC9,hch9⟩
          have hf09:Fr w W9:=Chg.below hf08 hch9 hf08.size (fun i e=>by have e:i=B:=e;omega)
          have hG9:=hch9.heap HG8.out (fun e=>hBg e.symm)
          have h9:=hch9.heap h8 (by omega)
          have y0:W9.cell? ⟨g,0,none⟩=some (N fS):=by rw [cell_of_heap hG9];rfl
          have y1:W9.cell? ⟨g,1,none⟩=some (.bool p):=by rw [cell_of_heap hG9];rfl
          have y2:W9.cell? ⟨g,2,none⟩=some (N xb):=by rw [cell_of_heap hG9];rfl
          have y3:W9.cell? ⟨g,3,none⟩=some (N xd):=by rw [cell_of_heap hG9];rfl
          have y4:W9.cell? ⟨g,4,none⟩=some (N xq):=by rw [cell_of_heap hG9];rfl
          have y5:W9.cell? ⟨g,5,none⟩=some (N fC):=by rw [cell_of_heap hG9];rfl
          clear HB9 hch9 hC9 hf08 h8 HG8 HW8 d0 f0 hG7 hG5
          go_wp2_with fail
          refine(HOC.out _).mono ?_
          rintro e Wa ⟨rfl,hfa⟩
          have hf0a:=hf09.trans hfa
          have hGa:=hfa.heap hG9
          have ha:=hfa.heap h9
          clear y0 y1 y2 y3 y4 y5 hf09 hfa hG9 h9 HOC
          cases hop:opt3 (optH (headOf b))
          · have HR:=hid (HOpts.out HHh.out HX1.out hop)
            rw [optE_nine _ hop]
            clear hop
            go_wp2_with (first | (refine wpList_store_row rfl 25 (.tmp 2) (.tmp 71) rfl w.heap.size optZ rfl rfl 25 _ ha hinf rfl hone ?_))
            have hE:=HZE.out _ ha hf0a
            have hGz:=setRow_heap _ w.heap.size _ optZ _ _ ha
            refine bodyPost_ret (v:=.tuple #[.agg optZ,.slice none 0 0,.int .i64 0,.int .i64 9]) (results_cell_tmp3 Tryz.results16 _ _ w.heap.size 25 _ (0,0) _ _ _ _ rfl rfl rfl rfl hGz Tryz.underlying25 rfl hinf) rfl ?_
            rw [HR.out]
            exact⟨_,_,rfl,Ow.nil,hE,(fun h=>by cases h),fun _=>rfl⟩
          · obtain⟨hda,hdc,hmid,hms⟩:=run_mid eB 22 Tryz.underlying22 HS.out 21 K21 (by have:=HK.out;have:=H42.out;omega) (by have:=HK.out;omega)
            have hie:(b.take K21).drop 21=innerB b:=by unfold innerB;rw [List.drop_take,HK.out];congr 1
            rw [hie]at hms
            have hmid2:∀ W,(Instr.slice 22 (.slice a0 b.length cap) (some (.int .i64 21)) (some (.int .i64 (K21:Int))) none).run Tryz.prog W=.ok (.slice hda (K21 - 21) hdc) W:=hmid
            have hkk:(21:Int)<=K21:=by have:=HK.out;have:=H42.out;omega
            have HR3:=hid (HRe.out hop Wa.drew _ (hms.fr (hf0a.trans (Fr.refl Wa).drew)))
            have HE2:=hid (HErr.out HHh.out HX1.out hop)
            have HG2:=hid (HGood.out HHh.out HX1.out hop)
            rw [optE_zero _ hop]
            have t0:Wa.cell? ⟨g,0,none⟩=some (N fS):=by rw [cell_of_heap hGa];rfl
            have t1:Wa.cell? ⟨g,1,none⟩=some (.bool p):=by rw [cell_of_heap hGa];rfl
            have t2:Wa.cell? ⟨g,2,none⟩=some (N xb):=by rw [cell_of_heap hGa];rfl
            have t3:Wa.cell? ⟨g,3,none⟩=some (N xd):=by rw [cell_of_heap hGa];rfl
            have t4:Wa.cell? ⟨g,4,none⟩=some (N xq):=by rw [cell_of_heap hGa];rfl
            have t5:Wa.cell? ⟨g,5,none⟩=some (N fC):=by rw [cell_of_heap hGa];rfl
            clear hop HRe HErr HGood HOpts HForm HSum hmid hie hms
            go_upto_region 17 with fail
            go_region_held3 (fun w' => w'.cell? ⟨g, 3, none⟩ = some (N xd) ∧ w'.cell? ⟨g, 4, none⟩ = some (N xq) ∧ w'.cell? ⟨g, 5, none⟩ = some (N fC))
              (first | go_keep)
              ((go_at_call 43;refine HR3.out.mono ?_;rintro e Wb ⟨u3,bv3,rfl,hO3,hB3,hf3⟩;have uu3:=hf3.cell t3;have uu4:=hf3.cell t4;have uu5:=hf3.cell t5))
            have hfab:Fr Wa Wb:=(Fr.refl Wa).drew.trans hf3
            have hf0b:Fr w Wb:=hf0a.trans hfab
            have hGb:=hfab.heap hGa
            have hb2:=hfab.heap ha
            clear uu3 uu4 uu5 t0 t1 t2 t3 t4 t5 HR3 hGa ha hf3
            by_cases herr:(readB b).1=0
            · have HG3:=hid (HG2.out herr)
              obtain⟨ba,bc,hbv⟩:=hB3.shape'
              subst hbv
              have hO4:=hO3.rebase (b:=w.heap.size) (show w.heap.size<=Wa.drew.heap.size from hf0a.size)
              have hbl:(readB b).2.2.length<=1500:=by
                have h1:=readS_bad xd xq fC fN (innerB b)
                rw [innerB_len,<- HRB.out]at h1
                omega
              have hcv1:=fun nq=>conv_at (.slice a0 21 cap) (b.take 21) (Wb.drewN nq) (hts'.out.fr (hf0b.drewN nq))
              have hcv2:=fun nq=>conv_at (.slice fa 21 fc) (b.drop (b.length - 21)) (Wb.drewN nq) (hfs'.out.fr (hf0b.drewN nq))
              rw [herr]
              have t0:Wb.cell? ⟨g,0,none⟩=some (N fS):=by rw [cell_of_heap hGb];rfl
              have t1:Wb.cell? ⟨g,1,none⟩=some (.bool p):=by rw [cell_of_heap hGb];rfl
              have t2:Wb.cell? ⟨g,2,none⟩=some (N xb):=by rw [cell_of_heap hGb];rfl
              have t3:Wb.cell? ⟨g,3,none⟩=some (N xd):=by rw [cell_of_heap hGb];rfl
              have t4:Wb.cell? ⟨g,4,none⟩=some (N xq):=by rw [cell_of_heap hGb];rfl
              have t5:Wb.cell? ⟨g,5,none⟩=some (N fC):=by rw [cell_of_heap hGb];rfl
              have hone2:(#[N fS,.bool p,N xb,N xd,N xq,N fC]:Array Value).all (·.oneCell')=true:=by rw [List.all_toArray];rfl
              have hwn:IntKind.i64.wrap ((((readB b).2.2.length:Nat):Int)+1)=(((readB b).2.2.length:Nat):Int)+1:=IntWalk.i64_in _ (by omega)
              have HO5:=hid (show Ow Wb w.heap.size eB u3 (readB b).2.1 from hO4)
              have HZ2:=hid (fun(W:World) (hg:W.heap[w.heap.size]?=some (.cells optZ 25 (0,0))) (hf:Fr w W)=>show Fr w (W.setRow w.heap.size #[N fS,.bool p,N xb,N xd,N xq,N fC])from Chg.below hf (setRow_chg W w.heap.size _) hf.size (fun i e=>by rw [show i=w.heap.size from e];exact Nat.le_refl _))
              have HOf:=hid (fun(W:World) (hg:W.heap[w.heap.size]?=some (.cells optZ 25 (0,0))) (ho:Ow W w.heap.size eB u3 (readB b).2.1)=>show Ow (W.setRow w.heap.size #[N fS,.bool p,N xb,N xd,N xq,N fC]) w.heap.size eB u3 (readB b).2.1 from ho.chg (setRow_chg W w.heap.size _) (fun k hk e=>ho.ne_cells hg (by decide) (by rw [hk,show k=w.heap.size from e])))
              clear hO3 hB3 hO4 hfab hGb HE2 HG2 herr
              generalize (readB b).2.2.length=bl at *
              by_cases heq:b.take 21=b.drop (b.length - 21)
              · have HRE:Hid (bodyR b=(0,(readB b).2.1,bl)):=by show _=_;rw [HG3.out,if_pos heq];rfl
                have hbb1:(b.take 21 == b.drop (b.length - 21))=true:=by simp [heq]
                have hbb2:(b.take 21 != b.drop (b.length - 21))=false:=by simp [heq]
                clear heq HG3
                generalize b.take 21=T1 at *
                generalize b.drop (b.length - 21)=T2 at *
                go_upto_region 21 with fail
                go_quiet (fail)
                have hbq:(Wb.drewN nq).heap[w.heap.size]?=some (.cells optZ 25 (0,0)):=hb2
                go_wp2_with (first | (refine wpList_store_row rfl 25 (.tmp 2) (.tmp 107) rfl w.heap.size #[N fS,.bool p,N xb,N xd,N xq,N fC] rfl rfl 25 _ hbq hinf rfl hone2 ?_))
                have hE:=HZ2.out _ hbq (hf0b.drewN nq)
                have hOE:=HOf.out _ hbq (HO5.out.fr ((Fr.refl Wb).drewN nq))
                have hGz:=setRow_heap _ w.heap.size _ #[N fS,.bool p,N xb,N xd,N xq,N fC] _ _ hbq
                refine bodyPost_ret (v:=.tuple #[.agg #[N fS,.bool p,N xb,N xd,N xq,N fC],u3,N bl,.int .i64 0]) (results_cell_tmp3 Tryz.results16 _ _ w.heap.size 25 _ (0,0) _ _ _ _ rfl rfl rfl rfl hGz Tryz.underlying25 rfl hinf) rfl ?_
                rw [HRE.out]
                exact⟨_,_,rfl,hOE,hE,(fun _=>HOe2.out.symm),fun h=>absurd rfl h⟩
              · have HRE:Hid (bodyR b=(0,(readB b).2.1,bl+1)):=by show _=_;rw [HG3.out,if_neg heq]
                have hbb1:(b.take 21 == b.drop (b.length - 21))=false:=by simp [heq]
                have hbb2:(b.take 21 != b.drop (b.length - 21))=true:=by simp [heq]
                clear heq HG3
                generalize b.take 21=T1 at *
                generalize b.drop (b.length - 21)=T2 at *
                go_upto_region 21 with fail
                go_quiet (fail)
                have hbq:(Wb.drewN nq).heap[w.heap.size]?=some (.cells optZ 25 (0,0)):=hb2
                go_wp2_with (first | (refine wpList_store_row rfl 25 (.tmp 2) (.tmp 107) rfl w.heap.size #[N fS,.bool p,N xb,N xd,N xq,N fC] rfl rfl 25 _ hbq hinf rfl hone2 ?_))
                have hE:=HZ2.out _ hbq (hf0b.drewN nq)
                have hOE:=HOf.out _ hbq (HO5.out.fr ((Fr.refl Wb).drewN nq))
                have hGz:=setRow_heap _ w.heap.size _ #[N fS,.bool p,N xb,N xd,N xq,N fC] _ _ hbq
                refine bodyPost_ret (v:=.tuple #[.agg #[N fS,.bool p,N xb,N xd,N xq,N fC],u3,.int .i64 ((bl:Int)+1),.int .i64 0]) (results_cell_tmp3 Tryz.results16 _ _ w.heap.size 25 _ (0,0) _ _ _ _ rfl rfl rfl rfl hGz Tryz.underlying25 rfl hinf) rfl ?_
                rw [HRE.out]
                exact⟨_,_,rfl,hOE,hE,(fun _=>HOe2.out.symm),fun h=>absurd rfl h⟩
            · have HRE:=hid (HE2.out herr)
              have hxne:¬(((readB b).1:Nat):Int)=0:=by omega
              clear HE2 HG2 hO3 hB3 herr
              generalize (readB b).1=er at *
              go_wp2_with (first | (refine wpList_store_row rfl 25 (.tmp 2) (.tmp 91) rfl w.heap.size optZ rfl rfl 25 _ hb2 hinf rfl hone ?_))
              have hE:=HZE.out _ hb2 hf0b
              have hGz:=setRow_heap _ w.heap.size _ optZ _ _ hb2
              refine bodyPost_ret (v:=.tuple #[.agg optZ,.slice none 0 0,.int .i64 0,.int .i64 (er:Int)]) (results_cell_tmp3 Tryz.results16 _ _ w.heap.size 25 _ (0,0) _ _ _ _ rfl rfl rfl rfl hGz Tryz.underlying25 rfl hinf) rfl ?_
              rw [HRE.out]
              exact⟨_,_,rfl,Ow.nil,hE,(fun h=>absurd h (by simpa using hxne)),fun _=>rfl⟩
set_option maxRecDepth 512
end Go.Proofs.YtijghcbpfcjjnaaGreatDoor
