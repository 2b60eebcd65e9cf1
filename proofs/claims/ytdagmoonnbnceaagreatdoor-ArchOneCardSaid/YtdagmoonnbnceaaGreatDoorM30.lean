/- Parts of the proof of ArchOne: Y8 Y9 YA V1 Ok2 D0 YB YC V2. -/
import Derived.Test.YtdagmoonnbnceaaGreatDoorM28
import Derived.Test.YtdagmoonnbnceaaGreatDoorM22
import Derived.Test.YtdagmoonnbnceaaGreatDoorM29
import Derived.Test.YtdagmoonnbnceaaGreatDoorM07
import Derived.Test.YtdagmoonnbnceaaGreatDoorM27
import Derived.Test.YtdagmoonnbnceaaGreatDoorM13
import Derived.Test.YtdagmoonnbnceaaGreatDoorM31
import Derived.Test.YtdagmoonnbnceaaGreatDoorM16
import Derived.Test.YtdagmoonnbnceaaGreatDoorM24
set_option linter.unusedVariables false
set_option linter.unusedSectionVars false
set_option linter.unusedSimpArgs false
set_option maxHeartbeats 8000000
set_option maxRecDepth 100000
namespace Go.Proofs.YtdagmoonnbnceaaGreatDoor
open Go.RowKit Go.Fk
theorem wrB_fr{w w':World}{base g:Nat}{T:TypeId}{rest:List Value}{bv:Value}{l:List UInt8}(h:WrB w base g T rest bv l)(hf:Fr w w'):WrB w' base g T rest bv l:=⟨hf.heap h.1,h.2.1.fr hf,h.2.2⟩
theorem coder_any(v:Value)(often:List Nat)(base g:Nat)(T:TypeId)(rest:List Value)(bv:Value)(l:List UInt8)(w:World)(hs:See w eV v often)(hn:often.length<=300)(h32:∀ x∈often,x<4294967296)(hW:WrB w base g T rest bv l)
  (hT:T≠5/\T≠211/\T≠3) (hl:l.length<=900000000) (hsz:base<=w.heap.size) :
  Calls Tryz.prog 109 #[.pointer (some ⟨g,0,none⟩),v] w fun e w'=>∃ cv bv' b,e=.returned cv/\CdAt w' b cv (lensB often) g bv'/\WrB w' base g T rest bv' (l++wrK (lensB often))/\WSt g bv bv' w w':=by
 have HLn:=hid (Lens_any v often w hs hn h32)
 have hlen0:=lensB_len often
 have h150:=lensB_15 often
 have hgb:=hW.2.2.1
 have HK:=hid (fun lv W b2 hO hW' hap hok hb=>KWrite_any lv (lensB often) b2 base g T hT.1 rest bv l W hW' hO hap (by rw [hlen0];exact hn) h150 hok hl hb)
 have HKn:=hid (fun lv W hS hok=>KWrite_no lv (lensB often) g W hS (by rw [hlen0];exact hn) h150 hok)
 have HN:=hid (fun lv W hS hok=>HNew_any lv (lensB often) W hS (by rw [hlen0];exact hn) h150 hok)
 have HNn:=hid (fun lv W hS hok=>HNew_no lv (lensB often) W hS (by rw [hlen0];exact hn) h150 hok)
 have hWK:wrK (lensB often)=if okK (lensB often)then wrGo (lensB often)else []:=rfl
 have HWK:=hid hWK
 clear hs hWK h32
 generalize lensB often=a at *
 have hbl:=hid (fun k hk=>(hW.2.1.lt k hk).2)
 clear hlen0 h150
 go_enter Tryz.func109, Tryz.ntmps109
 go_wp2_with fail
 refine HLn.out.mono ?_
 rintro e w1 ⟨lv,rfl,hO1,hf1⟩
 obtain⟨la,lc,rfl⟩:=hO1.shape'
 have hW1:=wrB_fr hW hf1
 have hap:(Value.slice la a.length lc).ownBlock=none\/(Value.slice la a.length lc).ownBlock≠bv.ownBlock:=by
  cases hk:(Value.slice la a.length lc).ownBlock with
  | none=>exact .inl rfl
  | some k=>exact .inr fun e=>by have h1:=(hO1.lt k hk).1;have h2:=hbl.out k e.symm;omega
 cases hok:okK a with
 | true=>
  have HK1:=hid (HK.out _ w1 _ hO1 hW1 hap hok (Nat.le_trans hsz hf1.size))
  have HKeep := hid (fun W bv' (hst : WSt g bv bv' w1 W) => (hO1.chg hst.1 fun k hk e => by
   rcases e with e | e
   · exact hO1.ne_cells hW1.1 hT.1 (by rw [hk, e])
   · rcases hap with h1 | h1
     · rw [h1] at hk; cases hk
     · exact h1 (hk.trans e.symm)).see)
  clear hW hW1 hap hO1 HK HKn HNn hbl
  go_wp2_with fail
  refine HK1.out.mono ?_
  rintro e w2 ⟨rfl,bv2,hW2,hst2⟩
  have HN1:=hid (HN.out _ w2 (HKeep.out w2 bv2 hst2) hok)
  clear HK1 HKeep
  go_wp2_with fail
  refine HN1.out.mono ?_
  rintro e w3 ⟨g2,c,rfl,hH,hf3⟩
  go_wp2_with fail
  go_ret
  refine⟨_,bv2,w2.heap.size,rfl,.inr ⟨hok,g2,c,rfl,hH,?_,?_⟩,?_,?_⟩
  · have h1:=hH.up
    have h2:=(Array.getElem?_eq_some_iff.1 hW2.1).1
    omega
  · cases hk:(c 0).ownBlock with
    | none=>exact .inl rfl
    | some k=>exact .inr fun e=>by have h1:=(hH.own0.lt k hk).1;have h2:=(hW2.2.1.lt k e.symm).2;omega
  · rw [HWK.out,hok];exact wrB_fr hW2 hf3
  · exact WSt.fr hf1 (hst2.frR hf3)
 | false=>
  have HK1:=hid (HKn.out _ w1 hO1.see hok)
  have HS1:=hid (fun W (h:Fr w1 W)=>(hO1.fr h).see)
  have HW1:=hid hW1
  clear hW hW1 hap hO1 HK HKn HN hbl
  go_wp2_with fail
  refine HK1.out.mono ?_
  rintro e w2 ⟨rfl,hf2⟩
  have HN1:=hid (HNn.out _ w2 (HS1.out w2 hf2) hok)
  clear HK1 HS1
  go_wp2_with fail
  refine HN1.out.mono ?_
  rintro e w3 ⟨rfl,hf3⟩
  go_wp2_with fail
  go_ret
  refine⟨_,bv,0,rfl,.inl ⟨hok,rfl⟩,?_,(WSt.refl g bv w).frR ((hf1.trans hf2).trans hf3)⟩
  have e:wrK a=[]:=by rw [HWK.out,hok];rfl
  rw [e,List.append_nil]
  exact wrB_fr (wrB_fr HW1.out hf2) hf3
theorem ptK_len(a:List UInt8)(s:Nat)(h:∀ c∈a,c.toNat<=15):(ptK a s).length<=15:=by
 unfold ptK
 split
 · exact bitK_len a s h
 · simp
theorem tokK_lit(A B:List UInt8)(t:Tok)(h:t.len=0):tokK A B t=ptK A (pieceK t).sym:=by unfold tokK;rw [if_pos h,List.append_nil]
theorem tokK_match(A B:List UInt8)(t:Tok)(h:t.len≠0):tokK A B t=ptK A (pieceK t).sym++(bitsL (pieceK t).len ((pieceK t).sym - 257)++(ptK B (pieceK t).dist++bitsL (pieceK t).far (pieceK t).dist)):=by unfold tokK;rw [if_neg h]
theorem piece_fits(t:Tok)(h:mayT t=true)(h0:t.len≠0):(pieceK t).len<2 ^ ((pieceK t).sym - 257)/\(pieceK t).far<2 ^ (pieceK t).dist:=by
 obtain⟨_,h1,h2,h3,h4⟩:=mayT_len t h h0
 unfold pieceK
 rw [if_neg h0]
 refine⟨?_,rst_lt _ h3⟩
 show rstK (t.len - 2)<2 ^ (257+clsK (t.len - 2) - 257)
 rw [show 257+clsK (t.len - 2) - 257=clsK (t.len - 2) by omega]
 exact rst_lt _ (by omega)
theorem token_any(t:Tok)(hm:mayT t=true)(A B:List UInt8)(bA bB:Nat)(cv1 cv2:Value)(base g:Nat)(T:TypeId)(bv:Value)(l:List UInt8)(w:World)(hW:WrB w base g T [cv1,cv2] bv l)(h1:CdAt w bA cv1 A g bv)(h2:CdAt w bB cv2 B g bv)
  (hT:T≠5/\T≠211/\T≠3) (hA:A.length<=300) (hB:B.length<=300) (hA15:∀ c∈A,c.toNat<=15) (hB15:∀ c∈B,c.toNat<=15) (hl:l.length<=800000000) (hsz:base<=w.heap.size) :
  Calls Tryz.prog 110 #[.pointer (some ⟨g,0,none⟩),tkV t] w fun e w'=>e=.returned (.tuple #[])/\∃ bv',WrB w' base g T [cv1,cv2] bv' (l++tokK A B t)/\WSt g bv bv' w w':=by
 have HSp:Hid (∀ W,Calls Tryz.prog 156 #[tkV t] W fun e w'=>e=.returned (.tuple #[.agg #[N (pieceK t).sym,N (pieceK t).len,N (pieceK t).dist,N (pieceK t).far],.int .i64 0])/\Fr W w'):=fun W=>Split_any t W hm
 have HP1:=hid (fun s W bv m (hs:s<=1000000) (hm:m.length<=900000000) hc hW hb=>cdPut_any A bA s cv1 base g T [cv1,cv2] bv m W hc hW hA hA15 hs hm hb)
 have HP2:=hid (fun s W bv m (hs:s<=1000000) (hm:m.length<=900000000) hc hW hb=>cdPut_any B bB s cv2 base g T [cv1,cv2] bv m W hc hW hB hB15 hs hm hb)
 have HPt:=hid (fun x n hn hx bv' m W hW hm hb=>bput_any x n hn hx base g T [cv1,cv2] bv' m W hW hm hb)
 have hlen1:=hid (fun s=>ptK_len A s hA15)
 have hlen2:=hid (fun s=>ptK_len B s hB15)
 have hpb:=piece_bounds t hm
 have HFt:=hid (piece_fits t hm)
 have HTl:=hid (tokK_lit A B t)
 have HTm:=hid (tokK_match A B t)
 have hfA:Fr w (w.alloc (.cells #[.int .u8 (t.lit.toNat:Int),N t.len,N t.dist] 188)):=(Fr.refl w).alloc _
 obtain⟨hb1,hb2,hb3,hb4,hb5,hb6⟩:=hpb
 clear hA15 hB15 hA hB
 go_enter Tryz.func110, Tryz.ntmps110
 go_wp2_with fail
 refine(HSp.out _).mono ?_
 rintro e W2 ⟨rfl,hf2⟩
 have hf02:=hfA.trans hf2
 have hf3:Fr W2 (W2.alloc (.cells #[N (pieceK t).sym,N (pieceK t).len,N (pieceK t).dist,N (pieceK t).far] 247)):=(Fr.refl W2).alloc _
 have hP3:(W2.alloc (.cells #[N (pieceK t).sym,N (pieceK t).len,N (pieceK t).dist,N (pieceK t).far] 247)).heap[W2.heap.size]? = some (.cells #[N (pieceK t).sym,N (pieceK t).len,N (pieceK t).dist,N (pieceK t).far] 247 (0,0)):=heap_new _ _ _ rfl
 have hf03:=hf02.trans hf3
 have hpg:W2.heap.size≠g:=by have:=(Array.getElem?_eq_some_iff.1 (hf02.heap hW.1)).1;omega
 generalize hgs:(pieceK t).sym=sy at *
 generalize hgd:(pieceK t).dist=di at *
 generalize hgl:(pieceK t).len=le at *
 generalize hgf:(pieceK t).far=fa at *
 clear hgs hgd hgl hgf hfA hf2 hf02 HSp
 go_upto_region 2 with fail
 generalize W2.alloc (.cells #[N sy,N le,N di,N fa] 247)=W3 at *
 generalize W2.heap.size=pb at *
 have hW3:=wrB_fr hW hf03
 have h13:=h1.fr hf03
 have h23:=h2.fr hf03
 have hst3:WSt g bv bv w W3:=(WSt.refl g bv w).frR hf03
 have hsz3:=Nat.le_trans hsz hf03.size
 clear hW h1 h2 hf03 hf3
 have k2:W3.cell? ⟨g,2,none⟩=some cv1:=by rw [cell_of_heap hW3.1];rfl
 have p0:=cellx hP3 0 rfl
 have hfd:Fr W3 W3.drew:=(Fr.refl W3).drew
 have HC1:=hid (HP1.out sy W3.drew bv l (by omega) (by omega) (h13.fr hfd) (wrB_fr hW3 hfd) (Nat.le_trans hsz3 hfd.size))
 go_still_tail 9,(by kernel_rfl)
 change wpList _ _ _ _ _ W3.drew
 generalize hWD:W3.drew=WD at *
 have HWD:=hid hWD
 clear hWD
 go_wp2_with fail
 refine HC1.out.mono ?_
 rintro e W4 ⟨⟨r4,rfl⟩,bv4,hW4,hst4⟩
 have hpbv:bv.ownBlock≠some pb:=hW3.2.1.ne_cells hP3 (by decide)
 have hstd:WSt g bv bv4 W3 W4:=WSt.fr hfd hst4
 have hP4:=hstd.heap hP3 hpg hpbv
 have h14:=h13.step hW3 hT hstd
 have h24:=h23.step hW3 hT hstd
 have hst04:=hst3.trans hstd
 have hsz4:=Nat.le_trans hsz3 hstd.1.size
 have hlen4:(l++ptK A sy).length<=l.length+15:=by rw [List.length_append];have:=hlen1.out sy;omega
 clear HC1 hW3 h13 h23 hP3 k2 p0 hstd hst4 hst3 hsz3 HWD hpbv hfd
 have p0:=cellx hP4 0 rfl
 have p1:=cellx hP4 1 rfl
 by_cases h0:t.len=0
 · have hsy:(sy:Int)<256:=by have:=hb5.2 h0;omega
   have HE:Hid (l++tokK A B t=l++ptK A sy):=by show _=_;rw [HTl.out h0]
   clear HTl HTm HP1 HP2 HPt hb5 hb6
   go_wp2_with fail
   refine bodyPost_ret (results_none rfl _ _ _) rfl ?_
   exact⟨rfl,bv4,by rw [HE.out];exact hW4,hst04⟩
 · have hsy:¬(sy:Int)<256:=by have:=hb6 h0;omega
   have hsy2:257<=sy:=hb6 h0
   obtain⟨hx1,hx2⟩:=HFt.out h0
   obtain⟨m4,hm4⟩:∃ m4,m4=l++ptK A sy:=⟨_,rfl⟩
   rw [<- hm4]at hW4 hlen4
   have HM4:=hid hm4
   have HX2:=hid hx2
   have hd4:Fr W4 W4.drew:=(Fr.refl W4).drew
   have HC2:=hid (HPt.out le (sy - 257) (by omega) hx1 bv4 m4 W4.drew (wrB_fr hW4 hd4) (by omega) (Nat.le_trans hsz4 hd4.size))
   have hsw:(sy:Int) - 257=((sy - 257:Nat):Int):=by omega
   have hlw:IntKind.u64.wrap (le:Int)=le:=IntWalk.u64_in _ (by omega)
   have hb5':=hid hb5
   clear hb5 hb6 hm4 hx1 hx2
   go_upto_region 4 with fail
   go_still_tail 9,(by kernel_rfl)
   change wpList _ _ _ _ _ W4.drew
   generalize hWD:W4.drew=WD at *
   have HWD:=hid hWD
   clear hWD
   go_wp2_with fail
   refine HC2.out.mono ?_
   rintro e W5 ⟨rfl,bv5,hW5,hst5⟩
   have hpbv:bv4.ownBlock≠some pb:=hW4.2.1.ne_cells hP4 (by decide)
   have hstd:WSt g bv4 bv5 W4 W5:=WSt.fr hd4 hst5
   have hP5:=hstd.heap hP4 hpg hpbv
   have h25:=h24.step hW4 hT hstd
   have hst05:=hst04.trans hstd
   have hsz5:=Nat.le_trans hsz4 hstd.1.size
   have hlen5:(m4++bitsL le (sy - 257)).length<=l.length+23:=by rw [List.length_append,bitsL_len];omega
   clear HC2 hW4 h14 h24 hP4 p0 p1 hstd hst5 hst04 hsz4 HWD hpbv hd4 hlen4 hsw hlw
   obtain⟨m5,hm5⟩:∃ m5,m5=m4++bitsL le (sy - 257):=⟨_,rfl⟩
   rw [<- hm5]at hW5 hlen5
   have HM5:=hid hm5
   clear hm5
   have k3:W5.cell? ⟨g,3,none⟩=some cv2:=by rw [cell_of_heap hW5.1];rfl
   have p2:=cellx hP5 2 rfl
   have hd5:Fr W5 W5.drew:=(Fr.refl W5).drew
   have HC3:=hid (HP2.out di W5.drew bv5 m5 (by omega) (by omega) (h25.fr hd5) (wrB_fr hW5 hd5) (Nat.le_trans hsz5 hd5.size))
   go_upto_region 5 with fail
   go_still_tail 9,(by kernel_rfl)
   change wpList _ _ _ _ _ W5.drew
   generalize hWD:W5.drew=WD5 at *
   have HWD:=hid hWD
   clear hWD
   go_wp2_with fail
   refine HC3.out.mono ?_
   rintro e W6 ⟨⟨r6,rfl⟩,bv6,hW6,hst6⟩
   have hpbv:bv5.ownBlock≠some pb:=hW5.2.1.ne_cells hP5 (by decide)
   have hstd:WSt g bv5 bv6 W5 W6:=WSt.fr hd5 hst6
   have hP6:=hstd.heap hP5 hpg hpbv
   have hst06:=hst05.trans hstd
   have hsz6:=Nat.le_trans hsz5 hstd.1.size
   have hlen6:(m5++ptK B di).length<=l.length+38:=by rw [List.length_append];have:=hlen2.out di;omega
   clear HC3 hW5 h25 hP5 k3 p2 hstd hst6 hst05 hsz5 HWD hpbv hd5 hlen5
   obtain⟨m6,hm6⟩:∃ m6,m6=m5++ptK B di:=⟨_,rfl⟩
   rw [<- hm6]at hW6 hlen6
   have HM6:=hid hm6
   clear hm6
   have p2:=cellx hP6 2 rfl
   have p3:=cellx hP6 3 rfl
   have hd6:Fr W6 W6.drew:=(Fr.refl W6).drew
   have HC4:=hid (HPt.out fa di (by omega) HX2.out bv6 m6 W6.drew (wrB_fr hW6 hd6) (by omega) (Nat.le_trans hsz6 hd6.size))
   have hfw:IntKind.u64.wrap (fa:Int)=fa:=IntWalk.u64_in _ (by omega)
   go_upto_region 6 with fail
   go_still_tail 8,(by kernel_rfl)
   change wpList _ _ _ _ _ W6.drew
   generalize hWD:W6.drew=WD6 at *
   have HWD:=hid hWD
   clear hWD
   go_wp2_with fail
   refine HC4.out.mono ?_
   rintro e W7 ⟨rfl,bv7,hW7,hst7⟩
   have hstd:WSt g bv6 bv7 W6 W7:=WSt.fr hd6 hst7
   have hst07:=hst06.trans hstd
   have HE:Hid (l++tokK A B t=m6++bitsL fa di):=by
    show _=_
    rw [HTm.out h0,HM6.out,HM5.out,HM4.out];simp
   go_wp2_with fail
   go_end0
   exact⟨rfl,bv7,by rw [HE.out];exact hW7,hst07⟩
theorem wrB_set2{w:World}{base g:Nat}{T:TypeId}{p q bv x:Value}{l:List UInt8}(h:WrB w base g T [p,q] bv l):WrB (w.setCell ⟨g,2,none⟩ x) base g T [x,q] bv l/\WSt g bv bv w (w.setCell ⟨g,2,none⟩ x):=
 ⟨⟨by have:=heap_setCell_own h.1 2 x;simpa using this,own_set_other h.2.1 h.2.2.1,h.2.2⟩,(setCell_chg w ⟨g,2,none⟩ x).mono (fun k _ e=>.inl e),fun _ e=>.inl e⟩
theorem wrB_set3{w:World}{base g:Nat}{T:TypeId}{p q bv x:Value}{l:List UInt8}(h:WrB w base g T [p,q] bv l):WrB (w.setCell ⟨g,3,none⟩ x) base g T [p,x] bv l/\WSt g bv bv w (w.setCell ⟨g,3,none⟩ x):=
 ⟨⟨by have:=heap_setCell_own h.1 3 x;simpa using this,own_set_other h.2.1 h.2.2.1,h.2.2⟩,(setCell_chg w ⟨g,3,none⟩ x).mono (fun k _ e=>.inl e),fun _ e=>.inl e⟩
theorem CdAt.ptr{w:World}{b g:Nat}{cv bv:Value}{a:List UInt8}(h:CdAt w b cv a g bv):∃ p,cv=.pointer p:=by
 rcases h with⟨_,h⟩ | ⟨_,g2,c,h,_⟩
 · exact⟨_,h⟩
 · exact⟨_,h⟩
theorem TWrite_any(v:Value)(l:List Tok)(w:World)(hs:See w eTk v l)(hn:l.length<=32768)(hm:∀ t∈l,mayT t=true) :
  Calls Tryz.prog 77 #[v] w fun e w'=>∃ u,e=.returned (.tuple #[u,.int .i64 0])/\Ow w' w.heap.size eB u (packW (allK (lensB (symsL l)) (lensB (farsL l)) l))/\Fr w w':=by
 have HS:=hid (fun W (h:Fr w W)=>hs.fr h)
 have HCo:=hid (Count_any v l w hs (by omega) hm)
 obtain⟨a0,cap,rfl,hcap1,hcap2,hnone⟩:=hs.shape
 unfold maxLen at hcap2
 have hT:185≠5/\185≠211/\185≠3:=by decide
 have hS32:∀ x∈symsL l,x<4294967296:=fun x hx=>by
  obtain⟨k,_,rfl⟩:=List.mem_map.1 hx
  have:=symsN_le l k
  split <;> omega
 have hF32:∀ x∈farsL l,x<4294967296:=fun x hx=>by
  obtain⟨k,_,rfl⟩:=List.mem_map.1 hx
  have:=farsN_le l k
  omega
 have hSl:(symsL l).length=265:=by simp [symsL]
 have hFl:(farsL l).length=12:=by simp [farsL]
 have hAl:(lensB (symsL l)).length=265:=by rw [lensB_len,hSl]
 have hBl:(lensB (farsL l)).length=12:=by rw [lensB_len,hFl]
 have hA15:=lensB_15 (symsL l)
 have hB15:=lensB_15 (farsL l)
 have HCa:=hid (fun u base g rest bv m W hu hW hl hsz=>coder_any u (symsL l) base g 185 rest bv m W hu (by omega) hS32 hW hT hl hsz)
 have HCb:=hid (fun u base g rest bv m W hu hW hl hsz=>coder_any u (farsL l) base g 185 rest bv m W hu (by omega) hF32 hW hT hl hsz)
 have HAl:=hid hAl
 have HBl:=hid hBl
 have HA15:=hid hA15
 have HB15:=hid hB15
 have hWa:=wrK_len (lensB (symsL l))
 have hWb:=wrK_len (lensB (farsL l))
 have HTk:=hid (fun k (hk:k<l.length)=>hm _ (List.getElem_mem hk))
 have HTl:=hid (fun k=>toksK_len (lensB (symsL l)) (lensB (farsL l)) hA15 hB15 (l.take k) (fun t h=>hm t (List.mem_of_mem_take h)))
 have HAll:Hid (allK (lensB (symsL l)) (lensB (farsL l)) l=((wrK (lensB (symsL l))++wrK (lensB (farsL l)))++toksK (lensB (symsL l)) (lensB (farsL l)) l)++ptK (lensB (symsL l)) 256):=rfl
 rw [hAl]at hWa
 rw [hBl]at hWb
 generalize lensB (symsL l)=A at *
 generalize lensB (farsL l)=B at *
 clear hs hAl hBl hA15 hB15 hSl hFl hS32 hF32 hm
 generalize hWA:wrK A=WA at *
 generalize hWB:wrK B=WB at *
 clear hWA hWB
 have HWa:=hid hWa
 have HWb:=hid hWb
 clear hWa hWb
 have hl1:¬(32768:Int)<l.length:=by omega
 go_enter Tryz.func77, Tryz.ntmps77
 go_wp2_with fail
 refine HCo.out.mono ?_
 rintro e w1 ⟨u1,u2,rfl,hO1,hO2,hf1⟩
 have hg:(w1.alloc (.cells #[.slice none 0 0,N 0,.pointer none,.pointer none] 185)).heap[w1.heap.size]? = some (.cells #[.slice none 0 0,N 0,.pointer none,.pointer none] 185 (0,0)):=heap_new _ _ _ rfl
 have hfg:Fr w1 (w1.alloc (.cells #[.slice none 0 0,N 0,.pointer none,.pointer none] 185)):=(Fr.refl w1).alloc _
 have hW2:WrB (w1.alloc (.cells #[.slice none 0 0,N 0,.pointer none,.pointer none] 185)) (w1.heap.size+1) w1.heap.size 185 [.pointer none,.pointer none] (.slice none 0 0) []:=
  ⟨hg,Ow.nil,by omega,fun c hc=>by cases hc⟩
 have hO1':=(hO1.fr hfg).see
 have HO2':=hid (fun W (h:Fr w1 W)=>(hO2.fr h).see)
 have HHd:Hid (∀ W bv,WSt w1.heap.size (.slice none 0 0) bv (w1.alloc (.cells #[.slice none 0 0,N 0,.pointer none,.pointer none] 185)) W->Fr w1 W):=fun W bv h=>
  Chg.below hfg h.1 hfg.size (fun i e => by
   rcases e with e | e
   · exact Nat.le_of_eq e.symm
   · cases e)
 have HC1:=hid (HCa.out u1 _ _ _ _ [] _ hO1' hW2 (by simp) (by rw [size_alloc];omega))
 clear hO1 hO2 hO1' hg hW2 HCo
 go_upto_region 7 with fail
 generalize w1.alloc (.cells #[.slice none 0 0,N 0,.pointer none,.pointer none] 185)=W2 at *
 have hg1:w.heap.size<=w1.heap.size:=hf1.size
 generalize hgq:w1.heap.size=g at *
 go_wp2_with fail
 refine HC1.out.mono ?_
 rintro e W3 ⟨cv,bv3,b3,rfl,hC3,hW3,hst3⟩
 obtain⟨p3,rfl⟩:=hC3.ptr
 have e2:W3.cell? ⟨g,2,none⟩=some (.pointer none):=by rw [cell_of_heap hW3.1];rfl
 have f2:=frozen_of_heap hW3.1 2
 obtain⟨hW4,hs4⟩:=wrB_set2 (x:=.pointer p3) hW3
 have hC4:=hC3.step hW3 hT hs4
 have hst4:=hst3.trans hs4
 have hfr4:=HHd.out _ _ hst4
 have hsz4:g+1<=(W3.setCell ⟨g,2,none⟩ (.pointer p3)).heap.size:=(Array.getElem?_eq_some_iff.1 hW4.1).1
 have HC2:=hid (HCb.out u2 _ _ _ _ _ _ (HO2'.out _ hfr4) hW4 (by simp;have:=HWa.out;omega) hsz4)
 clear HC1 hC3 hW3 hst3 hs4
 go_upto_region 8 with fail
 generalize W3.setCell ⟨g,2,none⟩ (.pointer p3)=W4 at *
 clear e2 f2
 go_wp2_with fail
 refine HC2.out.mono ?_
 rintro e W5 ⟨cv,bv5,b5,rfl,hD5,hW5,hst5⟩
 obtain⟨p5,rfl⟩:=hD5.ptr
 have hC5:=hC4.step hW4 hT hst5
 have e3:W5.cell? ⟨g,3,none⟩=some (.pointer none):=by rw [cell_of_heap hW5.1];rfl
 have f3:=frozen_of_heap hW5.1 3
 obtain⟨hW6,hs6⟩:=wrB_set3 (x:=.pointer p5) hW5
 have hC6:=hC5.step hW5 hT hs6
 have hD6:=hD5.step hW5 hT hs6
 have hst6:=(hst4.trans hst5).trans hs6
 clear HC2 hC4 hC5 hD5 hW4 hW5 hst5 hs6 hst4 hfr4 hsz4
 go_upto_region 9 with fail
 generalize W5.setCell ⟨g,3,none⟩ (.pointer p5)=W6 at *
 clear e3 f3
 obtain⟨m6,hm6⟩:∃ m6,m6=[]++WA++WB:=⟨_,rfl⟩
 rw [<- hm6]at hW6
 have HM6:=hid hm6
 have hl6:m6.length<=3000:=by rw [hm6];simp;have:=HWa.out;have:=HWb.out;omega
 clear hm6
 have HTo:=hid (fun t ht bv m W hW hc hd hl hsz=>token_any t ht A B b3 b5 (.pointer p3) (.pointer p5) (g+1) g 185 bv m W hW hc hd hT (by have:=HAl.out;omega) (by have:=HBl.out;omega) HA15.out HB15.out hl hsz)
 go_wp2_with fail
 go_loopw [38] (fun iv wr=>∃ (k:Nat) (bv:Value),k<=l.length/\iv=N k/\WrB wr (g+1) g 185 [.pointer p3,.pointer p5] bv (m6++toksK A B (l.take k))/\CdAt wr b3 (.pointer p3) A g bv/\CdAt wr b5 (.pointer p5) B g bv/\WSt g (.slice none 0 0) bv W2 wr) (fun iv _=>l.length - (intOf iv).toNat)
 case atStart=>exact⟨0,bv5,Nat.zero_le _,rfl,by rw [List.take_zero];simpa [toksK] using hW6,hC6,hD6,hst6⟩
 case round=>
  clear hW6 hC6 hD6 hst6
  obtain⟨k,bv,hk,rfl,hW,hC,hD,hst⟩:=hrel
  have hfr:=HHd.out _ _ hst
  have hszr:g+1<=wr.heap.size:=(Array.getElem?_eq_some_iff.1 hW.1).1
  have hlk : (m6 ++ toksK A B (l.take k)).length ≤ 2000000 := by rw [List.length_append]; have h1 := HTl.out k; have h2 : (l.take k).length ≤ l.length := by rw [List.length_take]; omega
                                                                 omega
  by_cases hlt:k<l.length
  · obtain⟨b,off,cap',hv,c0,c1,c2⟩:=tkAt (HS.out wr (hf1.trans hfr)) k hlt
    cases hv
    have HX:Hid ((m6++toksK A B (l.take k))++tokK A B l[k]=m6++toksK A B (l.take (k+1))):=by
     show _=_;rw [List.take_succ_eq_append_getElem hlt,toksK_snoc,List.append_assoc]
    have HT1:=HTk.out k hlt
    generalize l[k]=t at *
    have hfA:Fr wr (wr.alloc (.cells #[.int .u8 (t.lit.toNat:Int),N t.len,N t.dist] 188)):=(Fr.refl wr).alloc _
    have HGo:=hid (HTo.out t HT1 bv _ _ (wrB_fr hW hfA) (hC.fr hfA) (hD.fr hfA) (by omega) (Nat.le_trans hszr hfA.size))
    have hW':=wrB_fr hW hfA
    have hC':=hC.fr hfA
    have hD':=hD.fr hfA
    have hst':=hst.frR hfA
    have i1:(0:Int)<=k:=by omega
    have i2:(k:Int)<l.length:=by omega
    clear hW hC hD hst hlk
    obtain⟨mk,hmk⟩:∃ mk,mk=m6++toksK A B (l.take k):=⟨_,rfl⟩
    rw [<- hmk]at HGo hW' HX
    clear hmk
    go_wp2_with fail
    refine HGo.out.mono ?_
    rintro e W7 ⟨rfl,bv7,hW7,hst7⟩
    rw [HX.out]at hW7
    have hC7:=hC'.step hW' hT hst7
    have hD7:=hD'.step hW' hT hst7
    go_wp2_with fail
    go_roundw
    case rel=>exact⟨k+1,bv7,by omega,by go_num,hW7,hC7,hD7,hst'.trans hst7⟩
    case measure=>simp [intOf];omega
  · obtain rfl:k=l.length:=by omega
    have hnl:¬(l.length:Int)<l.length:=by omega
    rw [List.take_length]at hW hlk
    have hd:Fr wr wr.drew:=(Fr.refl wr).drew
    have HPu:=hid (cdPut_any A b3 256 (.pointer p3) (g+1) g 185 [.pointer p3,.pointer p5] bv _ wr.drew (hC.fr hd) (wrB_fr hW hd) (by have:=HAl.out;omega) HA15.out (by omega) (by omega) (Nat.le_trans hszr hd.size))
    have k2:wr.cell? ⟨g,2,none⟩=some (.pointer p3):=by rw [cell_of_heap hW.1];rfl
    have HW:=hid hW
    clear hC hD hW
    go_upto_region 14 with fail
    go_still_tail 7,(by kernel_rfl)
    change wpList _ _ _ _ _ wr.drew
    generalize hWD:wr.drew=WD at *
    have HWD:=hid hWD
    clear hWD
    go_wp2_with fail
    refine HPu.out.mono ?_
    rintro e W8 ⟨⟨r8,rfl⟩,bv8,hW8,hst8⟩
    have hstd:WSt g bv bv8 wr W8:=WSt.fr hd hst8
    have hfr8:=hf1.trans (HHd.out _ _ (hst.trans hstd))
    have HE:Hid ((m6++toksK A B l)++ptK A 256=allK A B l):=by show _=_;rw [HAll.out,HM6.out];simp
    have hl8:((m6++toksK A B l)++ptK A 256).length<=7999992:=by rw [List.length_append];have:=ptK_len A 256 HA15.out;omega
    have HBy:=hid (bbytes_any (g+1) g 185 [.pointer p3,.pointer p5] bv8 _ W8 hW8 hl8)
    clear HPu k2 hW8 hst8 hstd hst hl8 hlk
    go_wp2_with fail
    refine HBy.out.mono ?_
    rintro e W9 ⟨u,rfl,hU,hf9⟩
    go_wp2_with fail
    go_ret2
    exact⟨_,rfl,by rw [<- HE.out];exact hU.rebase hfr8.size,hfr8.trans hf9⟩
def sqzK(b:List UInt8):List UInt8:=packW (allK (lensB (symsL (findK b))) (lensB (farsL (findK b))) (findK b))
def blockB(plain:Bool)(b:List UInt8):List UInt8:=if plain=false/\(sqzK b).length<b.length then frameB 1 b.length (sqzK b)else frameB 0 b.length b
theorem blockB_len(p:Bool)(b:List UInt8)(h:b.length<1000000000):(blockB p b).length<=b.length+25:=by
 unfold blockB
 split
 · rename_i h1;have:=frameB_len 1 b.length (sqzK b) (by omega) (by omega);omega
 · exact frameB_len 0 b.length b (by omega) (by omega)
theorem squeeze_any(v:Value)(l:List UInt8)(w:World)(hs:See w eB v l)(hn:l.length<=32768) :
  Calls Tryz.prog 47 #[v] w fun e w'=>∃ u,e=.returned (.tuple #[u,.bool (decide ((sqzK l).length<l.length))])/\Ow w' w.heap.size eB u (sqzK l)/\Fr w w':=by
 obtain⟨a0,cap,rfl,_⟩:=hs.shape
 have HF:=hid (LFind_any _ l w hs (by omega))
 have HW:=hid (fun u W (h:See W eTk u (findK l))=>TWrite_any u (findK l) W h (by have:=findGo_len l 0;unfold findK;omega) (findGo_may l 0))
 have HQ:Hid (sqzK l=packW (allK (lensB (symsL (findK l))) (lensB (farsL (findK l))) (findK l))):=rfl
 rw [<- HQ.out]at HW
 clear HQ
 generalize sqzK l=q at *
 generalize findK l=t at *
 go_enter Tryz.func47, Tryz.ntmps47
 go_wp2_with fail
 refine HF.out.mono ?_
 rintro e w1 ⟨v1,rfl,hown1,hf1⟩
 have HW1:=hid (HW.out _ _ hown1.see)
 clear HW
 go_wp2_with fail
 refine HW1.out.mono ?_
 rintro e w2 ⟨v2,rfl,hown2,hf2⟩
 obtain⟨va,vc,rfl⟩:=hown2.shape'
 go_wp2_with fail
 go_ret2
 exact⟨_,by simp,hown2.rebase hf1.size,hf1.trans hf2⟩
theorem frame_all(way:UInt8)(n:Nat)(body:List UInt8):frameB way n body=putB (([way]++numB n++numB body.length)++body):=rfl
theorem BWrite_any(p:Bool)(v:Value)(l:List UInt8)(w:World)(hs:See w eB v l)(hn:l.length<=32768)(ht:Crc w) :
  Calls Tryz.prog 29 #[v,.bool p] w fun e w'=>∃ u,e=.returned (.tuple #[u,.int .i64 0])/\Ow w' w.heap.size eB u (blockB p l)/\Fr w w':=by
 obtain⟨a0,cap,rfl,hcap1,hcap2,hnone⟩:=hs.shape
 have HS:=hid (fun W (h:Fr w W)=>hs.fr h)
 have HQ:=hid (squeeze_any _ l w hs hn)
 have hnl:¬(32768:Int)<l.length:=by omega
 have HNm:=hid (fun n (h:n<18446744073709551616) W=>Num_any n h W)
 have hN10:=numB_le l.length (by omega)
 have HT:=hid (fun W (h:Fr w W)=>ht.fr h)
 have hw1:IntKind.u64.wrap (l.length:Int)=(l.length:Int):=IntWalk.u64_in _ (by omega)
 have HLt:Hid (l.length<18446744073709551616):=by show _<_;omega
 have HFr:=hid frame_all
 clear hs ht hnone
 have HE:Hid (blockB p l=if p=false/\(sqzK l).length<l.length then frameB 1 l.length (sqzK l)else frameB 0 l.length l):=rfl
 generalize blockB p l=T at *
 generalize sqzK l=q at *
 go_enter Tryz.func29, Tryz.ntmps29
 go_upto_if 16 with fail
 go_cut [6,7]from 8 to 23 (fun wv bv wx=>∃ (way:UInt8) (body:List UInt8),wv=Fk.u8 way/\See wx eB bv body/\body.length<=32768/\Hid (T=frameB way l.length body)/\Fr w wx)
 case first=>
  cases p with
  | true=>
   have HE2:Hid (T=frameB 0 l.length l):=by show _=_;rw [HE.out,if_neg (by simp)]
   go_wp2_with fail
   go_meet
   exact⟨0,l,rfl,HS.out _ (Fr.refl w),hn,HE2,Fr.refl w⟩
  | false=>
   by_cases hsq:q.length<l.length
   · have HE2:Hid (T=frameB 1 l.length q):=by show _=_;rw [HE.out,if_pos ⟨rfl,hsq⟩]
     rw [decide_eq_true hsq]at HQ
     go_wp2_with fail
     refine HQ.out.mono ?_
     rintro e w1 ⟨v1,rfl,hO1,hf1⟩
     obtain⟨va,vc,rfl⟩:=hO1.shape'
     go_wp2_with fail
     go_meet
     exact⟨1,q,rfl,hO1.see,by omega,HE2,hf1⟩
   · have HE2:Hid (T=frameB 0 l.length l):=by show _=_;rw [HE.out,if_neg (fun h=>hsq h.2)]
     rw [decide_eq_false hsq]at HQ
     go_wp2_with fail
     refine HQ.out.mono ?_
     rintro e w1 ⟨v1,rfl,hO1,hf1⟩
     go_wp2_with fail
     go_meet
     exact⟨0,l,rfl,HS.out _ hf1,hn,HE2,hf1⟩
 case rest=>
  obtain⟨way,body,rfl,hsb,hbl,HF,hf⟩:=hcut
  obtain⟨ba,bc,rfl,_⟩:=hsb.shape
  clear HQ HE
  have hN2:=numB_le body.length (by omega)
  have hw2:IntKind.u64.wrap (body.length:Int)=(body.length:Int):=IntWalk.u64_in _ (by omega)
  have HN1:=hid (HNm.out l.length HLt.out)
  have HN2:=hid (HNm.out body.length (by omega))
  have hown0:=own_lit eB wc #[Fk.u8 way] [way] 1 rfl (by simp [maxLen]) (Nat.le_refl wc.heap.size)
  have hf0:Fr wc (wc.alloc (.cells #[Fk.u8 way] 5)):=(Fr.refl wc).alloc _
  have HF2:Hid (T=putB (([way]++numB l.length++numB body.length)++body)):=HF
  generalize numB l.length=nb at *
  generalize numB body.length=nb2 at *
  go_wp2_with fail
  refine(HN1.out _).mono ?_
  rintro e w2 ⟨v2,rfl,hO2,hf2⟩
  obtain⟨p2,z2,rfl⟩:=hO2.shape'
  go_wp2_with fail
  refine(HN2.out _).mono ?_
  rintro e w3 ⟨v3,rfl,hO3,hf3⟩
  obtain⟨p3,z3,rfl⟩:=hO3.shape'
  have hs0:=(hown0.fr (hf2.trans hf3)).see
  have HA1:=hid (all3_any _ _ _ [way] nb nb2 w3 hs0 (hO2.fr hf3).see hO3.see (by simp;omega))
  have hfc3:=hf0.trans (hf2.trans hf3)
  clear hown0 hs0 hO2 hO3
  go_wp2_with fail
  refine HA1.out.mono ?_
  rintro e w4 ⟨v4,rfl,hO4,hf4⟩
  obtain⟨hh,hhe⟩:∃ hh,hh=[way]++nb++nb2:=⟨_,rfl⟩
  rw [<- hhe]at hO4 HF2
  obtain⟨p4,z4,rfl⟩:=hO4.shape'
  have hhl:hh.length<=21:=by rw [hhe];simp;omega
  clear hhe HA1
  have hfc4:=hfc3.trans hf4
  have HA2:=hid (all2_any _ _ hh body w4 hO4.see (hsb.fr hfc4) (by omega))
  obtain⟨fb,hfb⟩:∃ fb,fb=hh++body:=⟨_,rfl⟩
  rw [<- hfb]at HA2 HF2
  have hfbl:fb.length<=32800:=by rw [hfb,List.length_append];omega
  clear hO4 hsb hfb
  go_wp2_with fail
  refine HA2.out.mono ?_
  rintro e w5 ⟨v5,rfl,hO5,hf5⟩
  obtain⟨p5,z5,rfl⟩:=hO5.shape'
  have hfw5:=hf.trans (hfc4.trans hf5)
  have HP:=hid (Put_any _ fb w5 hO5.see (by omega) (HT.out _ hfw5))
  rw [<- HF2.out]at HP
  clear HA2 hO5
  go_wp2_with fail
  refine HP.out.mono ?_
  rintro e w6 ⟨v6,rfl,hO6,hf6⟩
  go_wp2_with fail
  go_ret2
  exact⟨_,rfl,hO6.rebase hfw5.size,hfw5.trans hf6⟩
theorem symsL_at(l:List Tok)(k:Nat)(h:k<265):(symsL l).getD k 0=symsN l k+if k=256 then 1 else 0:=by simp [symsL,h]
theorem farsL_at(l:List Tok)(k:Nat)(h:k<12):(farsL l).getD k 0=farsN l k:=by simp [farsL,h]
theorem symsL_32(l:List Tok)(h:l.length<=1000000):∀ x∈symsL l,x<4294967296:=by
 intro x hx
 obtain⟨k,_,rfl⟩:=List.mem_map.1 hx
 have:=symsN_le l k
 show symsN l k+(if k=256 then 1 else 0)<_
 split <;> omega
theorem farsL_32(l:List Tok)(h:l.length<=1000000):∀ x∈farsL l,x<4294967296:=by
 intro x hx
 obtain⟨k,_,rfl⟩:=List.mem_map.1 hx
 have:=farsN_le l k
 omega
theorem symsL_len(l:List Tok):(symsL l).length=265:=by simp [symsL]
theorem farsL_len(l:List Tok):(farsL l).length=12:=by simp [farsL]
theorem used_32768(often:List Nat)(h:often.length<=32768):(usedL often).length<=32768:=Nat.le_trans (us_len often) h
theorem lensB_symL(often:List Nat)(h:∀ x∈often,x<4294967296)(hm:often.length<=32768)(s:Nat)(hl:s<often.length)(h0:0<often.getD s 0):¬symL (lensB often) s=0:=by
 have h1:=lensB_sym often h (used_32768 often hm) s hl h0
 rw [symL_at _ _ (by rw [lensB_len];exact hl)]
 intro e
 exact h1 (UInt8.toNat_inj.1 e)
theorem find_words(b:List UInt8)(hb:b.length<=1000000):(∀ t∈findK b,mayT t=true/\wordT (lensB (symsL (findK b))) (lensB (farsL (findK b))) t)/\¬symL (lensB (symsL (findK b))) 256=0:=by
 have hl:(findK b).length<=1000000:=Nat.le_trans (findGo_len b 0) (by omega)
 refine⟨fun t ht=>?_,?_⟩
 · have hm:=findGo_may b 0 t ht
   obtain⟨p1,p2,_⟩:=piece_bounds t hm
   refine⟨hm,?_,fun h0=>?_⟩
   · refine lensB_symL _ (symsL_32 _ hl) (by rw [symsL_len];omega) _ (by rw [symsL_len];exact p1) ?_
     rw [symsL_at _ _ p1]
     have:0<symsN (findK b) (pieceK t).sym:=by
      unfold symsN
      exact List.countP_pos_iff.2 ⟨t,ht,by simp⟩
     omega
   · refine lensB_symL _ (farsL_32 _ hl) (by rw [farsL_len];omega) _ (by rw [farsL_len];exact p2) ?_
     rw [farsL_at _ _ p2]
     unfold farsN
     exact List.countP_pos_iff.2 ⟨t,ht,by simp [h0]⟩
 · refine lensB_symL _ (symsL_32 _ hl) (by rw [symsL_len];omega) _ (by rw [symsL_len];omega) ?_
   rw [symsL_at _ _ (by omega),if_pos rfl]
   omega
theorem blk_back(p:Bool)(b q:List UInt8)(hn:b.length<=32768):blkR (blockB p b++q)=(b,(blockB p b).length,0):=by
 unfold blockB
 by_cases h:p=false/\(sqzK b).length<b.length
 · rw [if_pos h]
   have hl:(findK b).length<=1000000:=Nat.le_trans (findGo_len b 0) (by omega)
   obtain⟨hw,he⟩:=find_words b (by omega)
   have ha:=lensB_ok (symsL (findK b)) (symsL_32 _ hl) (used_32768 _ (by rw [symsL_len];omega))
   have hf:=lensB_ok (farsL (findK b)) (farsL_32 _ hl) (used_32768 _ (by rw [farsL_len];omega))
   have hg:=gives_all b 0 (Nat.zero_le _)
   refine blk_squeezed b (sqzK b) q hn (by omega) (sqz_room _ _ b ha hf hw) (unsq_back _ _ ?_)
   exact tks_back _ _ (findK b) b.length ha hf (lensB_15 _) (lensB_15 _) (by rw [lensB_len, symsL_len]) (by rw [lensB_len, farsL_len]) he (by
    show ((findGo b 0).map gives).sum ≤ _
    rw [hg]; omega) hw (isBits_all _ _ _)
 · rw [if_neg h]
   exact blk_stored b q hn
theorem blk_inj(p:Bool){b b' q q':List UInt8}(hn:b.length<=32768)(hn':b'.length<=32768)(h:blockB p b++q=blockB p b'++q'):b=b'/\q=q':=by
 have h1:=blk_back p b q hn
 rw [h,blk_back p b' q' hn']at h1
 have e:b'=b:=congrArg Prod.fst h1
 subst e
 exact⟨rfl,List.append_cancel_left h⟩
structure SmallL (l:List Rec):Prop where
 len:l.length<=60
 wt:wtS wt1 l<=4000
theorem wtS_mem{α:Type}(f:α->Nat):∀ (l:List α) (x:α),x∈l->f x<=wtS f l
 | [],x,h=>by cases h
 | y::l,x,h=>by
  simp only [wtS,List.map_cons,List.sum_cons]
  rcases List.mem_cons.1 h with rfl | h
  · omega
  · have:=wtS_mem f l x h
    unfold wtS at this
    omega
theorem SmallL.each{l:List Rec}(h:SmallL l):∀ r∈l,r.source.length+r.text.length<=3984:=fun r hr=>by
 have h1:=wtS_mem wt1 l r hr
 have h2:=h.wt
 unfold wt1 at h1 h2
 omega
theorem SmallL.ok{l:List Rec}(h:SmallL l):okLog l=true:=by
 unfold okLog
 rw [decide_eq_true (by have:=h.len;omega),decide_eq_true (by have:=h.wt;omega)]
 simp only [Bool.and_true,Bool.true_and]
 rw [List.all_eq_true]
 intro r hr
 have:=h.each r hr
 unfold longR
 rw [decide_eq_false (by omega),decide_eq_false (by omega)]
 rfl
theorem wtS_split{α:Type}(f g:α->Nat)(l:List α)(c:Nat)(h:∀ x∈l,f x=c+g x):wtS f l=l.length*c+wtS g l:=by
 induction l with
 | nil=>simp [wtS]
 | cons x l ih=>
  have i1:=ih (fun y hy=>h y (by simp [hy]))
  have i2:=h x (by simp)
  simp only [wtS,List.map_cons,List.sum_cons,List.length_cons]at *
  rw [i1,i2,Nat.add_mul];omega
theorem oneB_small(r:Rec)(h:r.source.length+r.text.length<=3984):(oneB false r).length<=r.source.length+r.text.length+20:=by
 have h1:=numB_le r.source.length (by omega)
 have h2:=numB_le r.text.length (by omega)
 unfold oneB textB
 simp only [Bool.false_eq_true,if_false,List.nil_append,List.length_append]
 omega
theorem wtS_sub{α:Type}(f:α->Nat){g l:List α}(h:g.Sublist l):wtS f g<=wtS f l:=by
 induction h with
 | slnil=>exact Nat.le_refl _
 | cons a _ ih=>simp only [wtS,List.map_cons,List.sum_cons]at *;omega
 | cons_cons a _ ih=>simp only [wtS,List.map_cons,List.sum_cons]at *;omega
theorem SmallL.bytes{l:List Rec}(h:SmallL l)(g:List Rec)(hg:g.Sublist l):(bytesB false g).length<=6000:=by
 have h1:(bytesB false g).length<=(bytesB false l).length:=by
  unfold bytesB
  rw [flat_len,flat_len]
  exact wtS_sub _ hg
 have h2:(bytesB false l).length<=wtS (fun r=>wt1 r+4) l:=by
  unfold bytesB
  rw [flat_len]
  refine wtS_mono _ _ l fun r hr=>?_
  have:=oneB_small r (h.each r hr)
  unfold wt1;omega
 have h3:=wtS_split (fun r=>wt1 r+4) wt1 l 4 (fun r _=>by omega)
 have:=h.wt
 have:=h.len
 omega
def frmL(p:Bool)(l:List Rec)(cs:List Nat)(k:Nat):List UInt8:=blockB p (bytesB false ((l.take (cs.take (k+1)).sum).drop (cs.take k).sum))
def frTo(fr:Nat->List UInt8)(k:Nat):List (List UInt8):=(List.range k).map fr
theorem frTo_succ(fr:Nat->List UInt8)(k:Nat):frTo fr (k+1)=frTo fr k++[fr k]:=by unfold frTo;rw [List.range_succ,List.map_append];rfl
theorem groups_len{α:Type}(S:Nat)(f:α->Nat)(l:List α):(groupsL S f l).length<=l.length:=by
 have h1:=groupsL_sum S f l
 have h2:∀ x∈groupsL S f l,1<=x:=by
  cases l with
  | nil=>intro x hx;cases hx
  | cons r l=>exact grpGo_pos S f l 1 (f r) (Nat.le_refl _)
 have key:∀ m:List Nat,(∀ x∈m,1<=x)->m.length<=m.sum:=by
  intro m
  induction m with
  | nil=>intro _;simp
  | cons x m ih=>
   intro h
   have i1:=ih (fun y hy=>h y (by simp [hy]))
   have i2:=h x (by simp)
   simp only [List.length_cons,List.sum_cons];omega
 have:=key _ h2
 omega
theorem SmallL.frm{l:List Rec}(h:SmallL l)(p:Bool)(cs:List Nat)(k:Nat):(bytesB false ((l.take (cs.take (k+1)).sum).drop (cs.take k).sum)).length<=6000/\(frmL p l cs k).length<=6025:=by
 have h1:=h.bytes ((l.take (cs.take (k+1)).sum).drop (cs.take k).sum) ((List.drop_sublist _ _).trans (List.take_sublist _ _))
 refine⟨h1,?_⟩
 have:=blockB_len p _ (Nat.lt_of_le_of_lt h1 (by omega))
 unfold frmL;omega
theorem frTo_len(fr:Nat->List UInt8)(b:Nat)(h:∀ k,(fr k).length<=b)(k:Nat):(frTo fr k).flatten.length<=k*b:=by
 unfold frTo
 rw [flat_len]
 refine Nat.le_trans (wtS_le _ b _ fun i _=>h i) ?_
 rw [List.length_range];exact Nat.le_refl _
def RCdAt(w:World)(b:Nat)(cv:Value)(a:List UInt8)(bv:Value):Prop:=
 (okK a=false/\cv=.agg #[.slice none 0 0,.slice none 0 0])\/(okK a=true/\∃ lv kv,cv=.agg #[lv,kv]/\Ow w b eB lv a/\Ow w b eU kv (codesK a)/\(lv.ownBlock=none\/lv.ownBlock≠bv.ownBlock))
theorem RCdAt.fr{w w':World}{b:Nat}{cv bv:Value}{a:List UInt8}(h:RCdAt w b cv a bv)(hf:Fr w w'):RCdAt w' b cv a bv:=by
 rcases h with h | ⟨h,lv,kv,h1,h2,h3,h4⟩
 · exact .inl h
 · exact .inr ⟨h,lv,kv,h1,h2.fr hf,h3.fr hf,h4⟩
theorem RCdAt.step{w w':World}{b base g:Nat}{T:TypeId}{cv bv bv':Value}{a l:List UInt8}(h:RCdAt w b cv a bv)(hW:WrR w base g T bv l)(hT:T≠5/\T≠211/\T≠3)(hst:WSt g bv bv' w w'):RCdAt w' b cv a bv':=by
 rcases h with h | ⟨h,lv,kv,h1,h2,h3,h4⟩
 · exact .inl h
 · have hbv:=hW.2.1
   refine .inr ⟨h,lv,kv,h1,h2.chg hst.1 ?_,h3.chg hst.1 ?_,?_⟩
   · rintro k hk (e | e)
     · exact h2.ne_cells hW.1 hT.1 (by rw [hk,e])
     · rcases h4 with h5 | h5
       · rw [h5]at hk;cases hk
       · exact h5 (hk.trans e.symm)
   · rintro k hk (e | e)
     · exact h3.ne_cells hW.1 hT.2.1 (by rw [hk,e])
     · rcases own_ne h3 hbv (by decide)with h5 | h5
       · rw [h5]at hk;cases hk
       · exact h5 (hk.trans e.symm)
   · cases hb:lv.ownBlock with
     | none=>exact .inl rfl
     | some k=>
      refine .inr fun e=>?_
      rcases hst.2 k e.symm with h5 | h5
      · rcases h4 with h6 | h6
        · rw [h6]at hb;cases hb
        · exact h6 (hb.trans h5.symm)
      · have:=(h2.lt k hb).2
        omega
theorem RCdAt.shape{w:World}{b:Nat}{lv kv bv:Value}{a:List UInt8}(h:RCdAt w b (.agg #[lv,kv]) a bv):∃ p n c p' n' c',lv=.slice p n c/\kv=.slice p' n' c':=by
 rcases h with⟨_,h⟩ | ⟨_,x,y,h,h1,h2,_⟩
 · simp only [Value.agg.injEq,Array.mk.injEq,List.cons.injEq,and_true]at h
   exact⟨_,_,_,_,_,_,h.1,h.2⟩
 · simp only [Value.agg.injEq,Array.mk.injEq,List.cons.injEq,and_true]at h
   obtain⟨p,c,e⟩:=h1.shape'
   obtain⟨p',c',e'⟩:=h2.shape'
   exact⟨_,_,_,_,_,_,h.1.trans e,h.2.trans e'⟩
end Go.Proofs.YtdagmoonnbnceaaGreatDoor
