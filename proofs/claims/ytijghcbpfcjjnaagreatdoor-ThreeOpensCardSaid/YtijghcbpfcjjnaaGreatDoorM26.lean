/- Parts of the proof of ThreeOpens: T3 Hd2 Md2 Tr1. -/
import Derived.Test.YtijghcbpfcjjnaaGreatDoorM21
import Derived.Test.YtijghcbpfcjjnaaGreatDoorM25
import Derived.Test.YtijghcbpfcjjnaaGreatDoorM15
import Derived.Test.YtijghcbpfcjjnaaGreatDoorM07
import Derived.Test.YtijghcbpfcjjnaaGreatDoorM24
import Derived.Test.YtijghcbpfcjjnaaGreatDoorM11
import Derived.Test.YtijghcbpfcjjnaaGreatDoorM22
import Derived.Test.YtijghcbpfcjjnaaGreatDoorM06
import Derived.Test.YtijghcbpfcjjnaaGreatDoorM31
import Derived.Test.YtijghcbpfcjjnaaGreatDoorM10
set_option linter.unusedVariables false
set_option linter.unusedSectionVars false
set_option linter.unusedSimpArgs false
set_option maxHeartbeats 8000000
namespace Go.Proofs.YtijghcbpfcjjnaaGreatDoor
open Go.RowKit Go.Fk
theorem parts_chunks(l:List UInt8)(n A k c:Nat)(hc:0<c)(hl:l.length<=n)(hA:A+k*c<=n):chunksL (((padL l n).drop A).take (k*c)) c=partsS l c A k:=by
  have hp:=padL_len l n hl
  have hlen:(((padL l n).drop A).take (k*c)).length=k*c:=by rw [List.length_take,List.length_drop,hp];omega
  have hck:ckN (k*c) c=k:=by
    unfold ckN
    rw [show k*c+c - 1=c*k+(c - 1) by rw [Nat.mul_comm];omega,Nat.mul_add_div hc,Nat.div_eq_of_lt (by omega),Nat.add_zero]
  apply List.ext_getElem
  · simp [chunksL,partsS,hlen,hck]
  · intro j h1 h2
    rw [partsS_len]at h2
    have:=Nat.mul_le_mul_right c (show j+1<=k by omega)
    rw [Nat.add_mul,Nat.one_mul]at this
    simp only [chunksL,partsS,List.getElem_map,List.getElem_range]
    exact part_eq l n A (k*c) (j*c) c hl hA this
theorem lt_of_blk{w w':World}{b:Nat}(h:w'.heap[b]?=w.heap[b]?)(hb:b<w.heap.size):b<w'.heap.size:=by
 rcases Nat.lt_or_ge b w'.heap.size with h1 | h1
 · exact h1
 · rw [Array.getElem?_eq_none h1,Array.getElem?_eq_getElem hb]at h
   cases h
def sliceLen:Value->Nat | .slice _ n _=>n | _=>0
set_option maxRecDepth 100000
theorem Lay_any (k m c : Nat) (v : Value) (l : List UInt8) (w : World) (hv : See w eB v l) (hk0 : 1 ≤ k) (hkm : k + m ≤ 255) (hc0 : 1 ≤ c) (hc : c ≤ 4096) (hl : l.length ≤ 1000000) (hz : strN k c l.length * ((k + m) * (c + 4)) ≤ 16777216) (ht : Crc w) :
    Calls Tryz.prog 23 #[N k,N m,N c,v] w fun e w'=>∃ v',e=.returned (.tuple #[v',.int .i64 0])/\Ow w' w.heap.size eB v' (layL l k m c (strN k c l.length))/\Fr w w':=by
  obtain⟨va,vc,hva,hv1,hv2,hv3⟩:=hv.shape
  subst hva
  unfold maxLen at hv2
  have HS:=hid (Size_any k m c l.length hk0 hkm hc0 hc)
  rw [(sizeV_cases k m c l.length).1 (by omega) |>.1 hz]at HS
  have HP:=hid (fun W dv hs ds (h:Sees2 W eHB eB dv hs ds) (h1:ds.length=k) (h2:∀ p∈ds,p.length=c)=>Parity_any m dv hs ds c W h (by omega) (by omega) h2 (by omega))
  have HPut:=hid (fun W pv p (h:See W eB pv p) (h2:p.length<=1000000) (h3:Crc W)=>Put_any pv p W h h2 h3)
  have HSt:=hid (sstripes_any k m c l.length hk0 hc0 (by omega) hc (by omega))
  have HD:=hid (sdata_any k m c (by omega) hc)
  have hS0:1*1<=k*c:=Nat.mul_le_mul hk0 hc0
  have hS2:k*c<=255*4096:=Nat.mul_le_mul (by omega) hc
  have hNl:strN k c l.length*(k*c)<=l.length+k*c:=by
    unfold strN
    have h1:=Nat.div_mul_le_self (l.length+k*c - 1) (k*c)
    omega
  have hwN:=wrap_mul (strN k c l.length) (k*c) (1000000+255*4096) (by omega) (by omega)
  have hfull:l.length<=strN k c l.length*(k*c):=by
    have:=fun h=>(strN_lt k c l.length (by omega) (strN k c l.length)).2 h
    omega
  go_enter Tryz.func23, Tryz.ntmps23
  go_wp2_with fail
  refine(HS.out _).mono ?_
  rintro e w1 ⟨rfl,hf1⟩
  have hinf:(Tryz.prog.info? 118).map (·.size)=some 3:=by kernel_rfl
  have hone:(#[N k,N m,N c]:Array Value).all (·.oneCell')=true:=by
    rw [List.all_toArray];rfl
  have h3:=heap_new w1 (.cells #[.int .i64 0,.int .i64 0,.int .i64 0] 118) _ rfl
  have hset:=setRow_row _ _ #[N k,N m,N c] _ _ h3
  have hf4:Fr w1 ((w1.alloc (.cells #[.int .i64 0,.int .i64 0,.int .i64 0] 118)).setRow w1.heap.size #[N k,N m,N c]):=Chg.below ((Fr.refl w1).alloc _) (setRow_chg _ _ _) (by simp) (fun q hq=>by rw [hq];exact Nat.le_refl _)
  go_upto_region 5 with(refine wpList_store_row rfl 118 (.tmp 12) (.tmp 35) rfl w1.heap.size #[N k,N m,N c] rfl rfl 118 _ h3 hinf rfl hone ?_)
  generalize (w1.alloc (.cells #[.int .i64 0,.int .i64 0,.int .i64 0] 118)).setRow w1.heap.size #[N k,N m,N c]=W at *
  have hf0:=hf1.trans hf4
  have hg:w.heap.size<=w1.heap.size:=hf1.size
  generalize w1.heap.size=g at *
  clear h3 hone hf4 hf1 HS
  generalize hN:strN k c l.length=sN at *
  have HN:=hid hN
  clear hN
  have hmk:=fun W=>made_run eB rfl rfl 22 Tryz.underlying22 .i64 .i64 (sN*(k*c)) (by omega) W
  have a0:W.cell? ⟨g,0,none⟩=some (N k):=by rw [cell_of_heap hset];rfl
  have a1:W.cell? ⟨g,1,none⟩=some (N m):=by rw [cell_of_heap hset];rfl
  have a2:W.cell? ⟨g,2,none⟩=some (N c):=by rw [cell_of_heap hset];rfl
  generalize hall:sN*(k*c)=tot at *
  generalize hd:k*c=d at *
  have HAll:=hid hall
  have HDd:=hid hd
  clear hall hd
  have ht0:¬(tot:Int)<0:=by omega
  go_region_held3 (fun w' => w'.cell? ⟨g, 0, none⟩ = some (N k) ∧ w'.cell? ⟨g, 1, none⟩ = some (N m) ∧ w'.cell? ⟨g, 2, none⟩ = some (N c))
    (first | go_keep)
    ((first
      | (go_at_call 63; refine (HSt.out _).mono ?_; rintro e w2 ⟨rfl, hf2⟩; have b0 := hf2.cell a0; have b1 := hf2.cell a1; have b2 := hf2.cell a2)
      | (go_at_call 64; refine (HD.out _).mono ?_; rintro e w3 ⟨rfl, hf3⟩; have d0 := hf3.cell b0; have d1 := hf3.cell b1; have d2 := hf3.cell b2)))
  have hfW3:Fr W w3:=((Fr.drew (Fr.refl W)).trans hf2).trans hf3
  have hmo:=made_own (base:=w.heap.size) eB rfl rfl tot (by omega) w3 (by have:=(hf0.trans hfW3).size;exact this)
  have hf34:=hfW3.alloc (.cells (madeCells #[eB.z] tot) eB.e)
  have hB4:=hf34.heap hset
  have hf04:=hf0.trans hf34
  have hg3:g<w3.heap.size:=by have:=(Array.getElem?_eq_some_iff.1 (hfW3.heap hset)).1;exact this
  have hv4:=hv.fr hf04
  have hga:w.heap.size<=w3.heap.size:=(hf0.trans hfW3).size
  have hfull2:l.length<=(List.replicate tot eB.zero).length:=by rw [List.length_replicate];exact hfull
  clear d0 d1 d2 b0 b1 b2 a0 a1 a2 hf2 hset hf0 hmk
  generalize w3.alloc (.cells (madeCells #[eB.z] tot) eB.e)=w4 at *
  generalize w3.heap.size=ga at *
  go_wp2_with (with_reducible refine wpList_copyOw rfl rfl (.tmp 44) (.tmp 45) 22 22 rfl Tryz.underlying22 _ _ _ _ rfl rfl hmo hv4 hfull2 ?_)
  intro w5 hown5 hch5
  have hpad:l++List.replicate (tot - l.length) eB.zero=padL l tot:=by unfold padL;rw [List.drop_replicate];rfl
  first | rw [hpad]at hown5 | (rw [List.drop_replicate,hpad]at hown5)
  have hB5:=hch5.heap hB4 (fun e=>by cases e;exact absurd hg3 (Nat.lt_irrefl _))
  have hf05:Fr w w5:=(Chg.below (B:=w.heap.size) hf04 hch5 hf04.size (fun q e=>by simp only [Value.ownBlock,Option.some.injEq]at e;omega))
  have hsee5:=hown5.see
  have hch5s:ga<w5.heap.size:=(hown5.lt ga rfl).2
  clear hown5 hch5 hmo hv4 hpad hf04 hB4
  have hga5:ga+1<=w5.heap.size:=by have:=hch5s;omega
  have hcz:((sN*((k+m)*(c+4)):Nat):Int)=((sN*((k+m)*(c+4)):Nat):Int):=rfl
  go_wp2_with (refine wpList_make0 eB rfl (.const (.int .i64 0)) (.tmp 47) 22 rfl Tryz.underlying22 .i64 .i64 _ (sN*((k+m)*(c+4))) rfl rfl rfl (by omega) (ga+1) hga5 ?_)
  intro w6 hown6 hg6
  have hB6:w6.heap[g]?=some (.cells #[N k,N m,N c] 118 (0,0)):=(hg6.block g (Array.getElem?_eq_some_iff.1 hB5).1 (by simp)).trans hB5
  have hf56:Fr w5 w6:=Fr.own (Fr.refl w5) hg6 (fun k e=>by cases e)
  have hf06:=hf05.trans hf56
  have hgb:ga<w5.heap.size:=hga5
  have hZ6:w6.heap[ga]?=w5.heap[ga]?:=hg6.block ga hgb (by simp)
  have hsee6:=hsee5
  clear hsee5 hB5 hf05 hg6 hf56
  have hpl:=padL_len l tot hfull
  generalize hZ:padL l tot=Z at *
  have HZ:=hid hZ
  have HPl:=hid hpl
  clear hZ hpl
  have HPc:Hid (∀ s,s<sN->chunksL ((Z.drop (s*d)).take d) c=partsS l c (s*d) k):=by
    intro s hs
    rw [<- HZ.out,<- HDd.out]
    refine parts_chunks l tot _ k c (by omega) hfull ?_
    have:=Nat.mul_le_mul_right (k*c) (show s+1<=sN by omega)
    rw [Nat.add_mul,Nat.one_mul,HDd.out,HAll.out]at this
    rw [HDd.out];exact this
  go_wp2_with fail
  go_loopw [13,14] (fun av ov wr=>∃ (s n off cap:Nat),s<=sN/\Hid (n=(sN - s)*d)/\av=.slice (some ⟨ga,off,none⟩) n cap/\wr.heap[ga]?=w5.heap[ga]?/\See w5 eB (.slice (some ⟨ga,off,none⟩) n cap) (Z.drop (s*d))/\Ow wr (ga+1) eB ov (layL l k m c s)/\wr.heap[g]?=some (.cells #[N k,N m,N c] 118 (0,0))/\Fr w wr) (fun av _ _=>sliceLen av)
  case atStart=>exact⟨0,tot,0,tot,Nat.zero_le _,by show _=_;rw [<- HAll.out,Nat.sub_zero],rfl,hZ6,by simpa using hsee6,hown6,hB6,hf06⟩
  case round=>
    clear hsee6 hown6 hB6 hf06 hZ6
    obtain⟨s,n,off,cap,hs,HN1,rfl,hZr,hall,hout,hB,hf⟩:=hrel
    by_cases hlt:s<sN
    · have hA:s*d+d<=tot:=by
        have:=Nat.mul_le_mul_right d (show s+1<=sN by omega)
        rw [Nat.add_mul,Nat.one_mul,HAll.out]at this
        exact this
      have hnd:d<=n:=by
        rw [HN1.out]
        have:=Nat.mul_le_mul_right d (show 1<=sN - s by omega)
        omega
      have HN2:Hid (n - d=(sN - (s+1))*d):=by
        show _=_
        rw [HN1.out,show sN - s=(sN - (s+1))+1 by omega,Nat.add_mul,Nat.one_mul];omega
      have HDr:Hid (Z.drop ((s+1)*d)=(Z.drop (s*d)).drop d):=by show _=_;rw [List.drop_drop,Nat.add_mul,Nat.one_mul]
      have HLay:Hid (layL l k m c (s+1)=layL l k m c s++stripeL l k m c (s*d)):=by show _=_;rw [<- HDd.out];rfl
      have HLl:Hid ((layL l k m c s).length+(k+m)*(c+4)<=16777216):=by
        show _<=_
        rw [layL_len]
        have h1:=Nat.mul_le_mul_right ((k+m)*(c+4)) (show s+1<=sN by omega)
        rw [Nat.add_mul,Nat.one_mul]at h1
        omega
      have HPcs:=hid (HPc.out s hlt)
      have hzl:(Z.drop (s*d)).length=n:=by
        rw [List.length_drop,HPl.out,HN1.out,Nat.sub_mul,HAll.out]
      generalize Z.drop (s*d)=zs at *
      generalize s*d=A at *
      generalize layL l k m c s=lay at *
      have hallr:See wr eB (.slice (some ⟨ga,off,none⟩) n cap) zs:=see_blk hall hZr
      have hto:=run_to eB 22 Tryz.underlying22 hallr d (by omega)
      obtain⟨off',cap',hfrom,hfrsee⟩:=run_from_blk eB 22 Tryz.underlying22 hall d (by omega)
      rw [hzl]at hfrom hfrsee
      obtain⟨hto1,hto2⟩:=hto
      have hn0:(0:Int)<n:=by omega
      have hinf:(Tryz.prog.info? 118).map (·.size)=some 3:=by kernel_rfl
      have HZl:=hid hzl
      clear hzl hallr
      have hgw:g<wr.heap.size:=(Array.getElem?_eq_some_iff.1 hB).1
      have hgaw:ga<wr.heap.size:=lt_of_blk hZr hgb
      generalize wr=W at *
      go_upto_region 9 with fail
      go_wp2_with (first | (refine wpList_load_row rfl 118 (.tmp 12) rfl g rfl 118 #[N k,N m,N c] (0,0) _ hB Tryz.underlying118 rfl hinf ?_))
      refine(HD.out _).mono ?_
      rintro e w2 ⟨rfl,hf2⟩
      go_wp2_with fail
      refine(chunkB_any _ d cap c hc0 _).mono ?_
      rintro e w3 ⟨rfl,hw3⟩
      have hBs:w3.heap[w2.heap.size]?=some (.cells #[.slice (some ⟨ga,off,none⟩) d cap] 22 (0,0)):=by
        rw [hw3,heap_old _ _ _ (by simp)];exact heap_new _ _ _ rfl
      have hBn:w3.heap[w2.heap.size+1]?=some (.cells #[N c] 3 (0,0)):=by
        rw [hw3];exact heap_new _ _ _ (by simp)
      have hf3:Fr w2 w3:=by rw [hw3];exact((Fr.refl w2).alloc _).alloc _
      have hs3:w2.heap.size+1<w3.heap.size:=(Array.getElem?_eq_some_iff.1 hBn).1
      have hW3:=hf2.trans hf3
      have hseeT:=hto2.fr hW3
      have htl:(zs.take d).length=d:=by rw [List.length_take,HZl.out];omega
      obtain⟨b',offb,hor,hseq⟩:=chunkB_stops w2.heap.size (w2.heap.size+1) _ (zs.take d) c hc0 (by omega) (by rw [htl];omega) w3 hBs hBn hseeT
      have hbe:b'=ga/\offb=off:=by
        rcases hor with h | ⟨cap2,h⟩
        · rw [h]at htl;simp at htl;omega
        · rw [htl]at h
          simp only [Value.slice.injEq,Option.some.injEq,Addr.mk.injEq,and_true]at h
          exact⟨h.1.1.symm,h.1.2.symm⟩
      obtain⟨rfl,rfl⟩:=hbe
      have HCo := hid (collect_any _ rfl _ _ w2.heap.size (w2.heap.size + 1) _ _ _ _ (fun ys h => h) w3 (by omega) hs3 (by
        rw [htl]
        unfold ckN
        exact Nat.le_trans (Nat.div_le_self _ _) (by omega)) hseq)
      clear hseq hor hBs hBn hw3 hto1
      go_wp2_with fail
      refine HCo.out.mono ?_
      rintro e w4 ⟨v4,rfl,hown4,hf4⟩
      have hW4:=hW3.trans hf4
      have hsee4:See w4 eB (.slice (some ⟨b',offb,none⟩) (zs.take d).length cap) (zs.take d):=by rw [htl];exact hto2.fr hW4
      have hsees4:=chunks_see (E:=eB) rfl hc0 hsee4 hown4.see
      rw [HPcs.out]at hsees4
      have HPl2:=hid (partsS_len l c A k)
      have hckl:(ckUp b' offb (zs.take d).length c (ckN (zs.take d).length c)).length=k:=by rw [hsees4.2.1];exact HPl2.out
      have HCk:=hid hckl
      clear hckl
      have hblk:∀ i (h:i<(ckUp b' offb (zs.take d).length c (ckN (zs.take d).length c)).length),∃ o n' c',(ckUp b' offb (zs.take d).length c (ckN (zs.take d).length c))[i].v=.slice (some ⟨b',o,none⟩) n' c':=fun i h=>⟨offb+i*c,min c ((zs.take d).length - i*c),min c ((zs.take d).length - i*c),by simp [ckUp,ckHd,Hd.v]⟩
      have HBlk:=hid hblk
      clear hblk
      generalize ckUp b' offb (zs.take d).length c (ckN (zs.take d).length c)=hd4 at *
      have HPar:=hid (HP.out w4 v4 _ _ hsees4 HPl2.out (partsS_all l c A k))
      have HTl:=hid htl
      clear htl HCo hsee4
      go_wp2_with fail
      refine HPar.out.mono ?_
      rintro e w9 ⟨v9,rfl,ps3,hown9,howns9,hf9⟩
      have hPal:=hid (parL_all m _ c (partsS_all l c A k))
      have hPll:=hid (parL_len m (partsS l c A k) c)
      have HLay2:Hid (layL l k m c (s+1)=lay++putsL (partsS l c A k++parL m (partsS l c A k) c)):=by show _=_;rw [HLay.out,stripeL,putsL_app]
      have HPsa:=hid (partsS_all l c A k)
      generalize partsS l c A k=prt at *
      generalize parL m prt c=par at *
      clear HPar
      have hps3:=hid howns9.1
      have hW9:=hW4.trans hf9
      have hf39:=hf4.trans hf9
      have hown49:=hown4.fr hf9
      have happ:hd4.length+ps3.length<=2147483648:=by rw [HCk.out,hps3.out,hPll.out];omega
      go_wp2_with (at_builtin;refine wpList_app eHB rfl (.tmp 65) (.tmp 66) 31 rfl Tryz.underlying31 w3.heap.size rfl hown49 _ _ rfl hown9.see happ hf39.size ?_)
      intro v7 w7 hap7
      have hT:eHB.e≠eB.e:=by decide
      have hown7:=hap7.own
      have hne7:∀ q,q<w3.heap.size->v4.ownBlock≠some q:=fun q hq e=>by have:=(hown49.lt q e).1;omega
      have hZ7:w7.heap[b']?=w5.heap[b']?:=by
        rw [hap7.chg.block b' (by have:=hW9.size;omega) (fun e=>hne7 b' (by have:=hW3.size;omega) e.symm),Below.block hW9 b' hgaw]
        exact hZr
      have hB7:=hap7.chg'.heap (hW9.heap hB) (fun e=>hne7 g (by have:=hW3.size;omega) e)
      have hout7:=own_app (hout.fr hW9) hown49 hap7 hT
      have hf7:Fr w w7:=(hap7.below hown49 (hf.trans hW9) (by have:=(hf.trans hW3).size;omega) (hf.trans hW9).size)
      have hrow7:RowsA w7 w4.heap.size eB ps3 par u14:=(howns9.rows (fun b hb=>Nat.lt_of_lt_of_le (hout.lt b hb).2 hW4.size)).beside hown49 hap7 hT
      obtain⟨v7a,v7c,hv7⟩:=hown7.shape'
      have hHl:(hd4++ps3).length=k+m:=by rw [List.length_append,HCk.out,hps3.out,hPll.out]
      rw [hHl]at hv7
      have HHl:=hid hHl
      clear hHl
      subst hv7
      have hZ4:w4.heap[b']?=w5.heap[b']?:=(Below.block hW4 b' hgaw).trans hZr
      have hsee47:∀ (wr:World),wr.heap[b']?=w5.heap[b']?->∀ i (h1:i<hd4.length) (h2:i<prt.length),See wr eB hd4[i].v prt[i]:=fun wr hb i h1 h2=>by
        obtain⟨o,n',c',he⟩:=HBlk.out i h1
        have:=hsees4.2.2 i h1 h2
        rw [he]at this ⊢
        exact see_blk this (hb.trans hZ4.symm)
      have HS47:=hid hsee47
      have hlo:lay.length+(k+m)*(c+4)<=16777216:=HLl.out
      have HT7:Crc w7:=ht.fr hf7
      have h37:w3.heap.size<=w7.heap.size:=Nat.le_trans hf39.size hap7.size
      have h47:w4.heap.size<=w7.heap.size:=Nat.le_trans hf9.size hap7.size
      have HRa:Hid (∀ p∈prt++par,p.length=c):=fun p hp=>(List.mem_append.1 hp).elim (HPsa.out p) (hPal.out p)
      have HRl:Hid ((prt++par).length=k+m):=by show _=_;rw [List.length_append,HPl2.out,hPll.out]
      clear hsee47 hsees4 hap7 hown49 hown4 hown9 howns9 hout hB hZr hall hto2 hseeT hZ4 HT7
      go_wp2_with fail
      go_loopw [14,69] (fun ov iv wr=>∃ i:Nat,i<=k+m/\iv=N i/\wr.heap[b']?=w5.heap[b']?/\Ow wr (b'+1) eB ov (lay++putsL ((prt++par).take i))/\RowsA wr w4.heap.size eB ps3 par ov/\Ow wr w3.heap.size eHB (.slice v7a (k+m) v7c) (hd4++ps3)/\wr.heap[g]?=some (.cells #[N k,N m,N c] 118 (0,0))/\Fr w wr) (fun _ iv _=>k+m - (intOf iv).toNat)
      case atStart=>exact⟨0,Nat.zero_le _,rfl,hZ7,by simpa [putsL] using hout7,hrow7,hown7,hB7,hf7⟩
      case round=>
        clear hZ7 hout7 hrow7 hown7 hB7 hf7
        obtain⟨i,hi,rfl,hZi,hout,hrows,hown,hB,hf⟩:=hrel
        by_cases him:i<k+m
        · have him':(i:Int)<(k:Int)+m:=by omega
          have him'':(i:Int)<((k+m:Nat):Int):=by omega
          have h1:i<(hd4++ps3).length:=by rw [HHl.out];exact him
          have h2:i<(prt++par).length:=by rw [HRl.out];exact him
          have hsee:See wr eB (hd4++ps3)[i].v (prt++par)[i]:=by
            by_cases hik:i<hd4.length
            · have hik2:i<prt.length:=by rw [HPl2.out,<- HCk.out];exact hik
              rw [List.getElem_append_left hik,List.getElem_append_left hik2]
              exact HS47.out wr hZi i hik hik2
            · have hik2:¬i<prt.length:=by rw [HPl2.out,<- HCk.out];exact hik
              rw [List.getElem_append_right (by omega),List.getElem_append_right (by omega)]
              have e:i - prt.length=i - hd4.length:=by rw [HPl2.out,HCk.out]
              simp only [e]
              exact(hrows.2 (i - hd4.length) _ _).1.see
          have HTk:Hid (putsL ((prt++par).take (i+1))=putsL ((prt++par).take i)++putB (prt++par)[i]):=by show _=_;rw [List.take_succ_eq_append_getElem h2,putsL_snoc]
          have HQl:Hid ((putsL ((prt++par).take i)).length=i*(c+4)):=by
            show _=_
            rw [putsL_len _ c (fun p hp=>HRa.out p (List.mem_of_mem_take hp)),List.length_take,Nat.min_eq_left (by omega)]
          have HRi:Hid ((prt++par)[i].length=c):=HRa.out _ (List.getElem_mem _)
          have hib:i*(c+4)+(c+4)<=(k+m)*(c+4):=by
            have:=Nat.mul_le_mul_right (c+4) (show i+1<=k+m by omega)
            rw [Nat.add_mul,Nat.one_mul]at this;exact this
          obtain⟨bb,oo,cc,hvv,e1⟩:=hown.see.cell1 (fun(h:Hd)=>h.v) rfl i h1
          obtain⟨ra,rc,hrv,_⟩:=hsee.shape
          rw [HRi.out]at hrv
          rw [HHl.out]at hvv
          generalize (hd4++ps3)[i]=h at *
          obtain⟨ha,hn,hcc⟩:=h
          simp only [Hd.v,Value.slice.injEq]at hrv
          obtain⟨rfl,rfl,rfl⟩:=hrv
          simp only [Hd.v]at e1 hsee
          cases hvv
          have i1:(0:Int)<=i:=by omega
          have HC:=hid (HPut.out wr _ _ hsee (by rw [HRi.out];omega) (ht.fr hf))
          generalize (prt++par)[i]=pj at *
          go_wp2_with fail
          refine HC.out.mono ?_
          rintro e w10 ⟨v10,rfl,own10,hf10⟩
          have hout10:=hout.fr hf10
          have hxo:(lay++putsL ((prt++par).take i)).length+(putB pj).length<=2147483648:=by
            rw [List.length_append,putB_len,HRi.out,HQl.out];omega
          have hsz10:b'+1<=w10.heap.size:=by
            have h1:=hf10.size
            have h2:b'<wr.heap.size:=lt_of_blk hZi hgb
            omega
          go_wp2_with (at_builtin;refine wpList_app eB rfl (.tmp 73) (.tmp 75) 22 rfl Tryz.underlying22 (b'+1) rfl hout10 _ _ rfl own10.see hxo hsz10 ?_)
          intro ov6 w11 hap
          have hne:∀ q,q<b'+1->u14.ownBlock≠some q:=fun q hq e=>by have:=(hout10.lt q e).1;omega
          have hZ11:w11.heap[b']?=w5.heap[b']?:=by
            rw [hap.chg.block b' (by omega) (fun e=>hne b' (by omega) e.symm),Below.block hf10 b' (lt_of_blk hZi hgb)]
            exact hZi
          have hB11:=hap.chg'.heap (hf10.heap hB) (fun e=>hne g (by omega) e)
          have hrow11:=(hrows.fr hf10).app hap
          have hown11:=own_app2 (hown.fr hf10) hout10 hap hT
          have hf11:Fr w w11:=hap.below hout10 (hf.trans hf10) (by omega) (hf.trans hf10).size
          go_wp2_with fail
          go_roundw
          case rel=>exact⟨i+1,by omega,by go_num,hZ11,by rw [HTk.out];first | exact hap.own | (rw [<- List.append_assoc];exact hap.own),hrow11,hown11,hB11,hf11⟩
          case measure=>simp [intOf];omega
        · obtain rfl:i=k+m:=by omega
          have hnj:¬(((k+m:Nat):Int)<((k+m:Nat):Int)):=by omega
          rw [List.take_of_length_le (by rw [HRl.out];exact Nat.le_refl _),<- HLay2.out]at hout
          clear hown hrows
          go_wp2_with (first | (refine wpList_load_row rfl 118 (.tmp 12) rfl g rfl 118 #[N k,N m,N c] (0,0) _ hB Tryz.underlying118 rfl hinf ?_))
          refine(HD.out _).mono ?_
          rintro e w12 ⟨rfl,hf12⟩
          go_wp2_with fail
          go_roundw
          case rel=>exact⟨s+1,n - d,off',cap',by omega,HN2.out,rfl,(Below.block hf12 b' (lt_of_blk hZi hgb)).trans hZi,by rw [HDr.out];exact hfrsee,hout.fr hf12,hf12.heap hB,hf.trans hf12⟩
          case measure=>simp only [sliceLen];omega
    · obtain rfl:s=sN:=by omega
      obtain rfl:n=0:=by rw [HN1.out,Nat.sub_self,Nat.zero_mul]
      go_wp2_with fail
      obtain⟨oa,oc,hov⟩:=hout.shape'
      subst hov
      exact bodyPost_ret (v:=.tuple #[.slice oa (layL l k m c s).length oc,.int .i64 0]) (by simp [results,Tryz.results23,go_sem, *]) rfl ⟨_,rfl,by rw [HN.out];exact hout.rebase (by omega),hf⟩
set_option maxRecDepth 512
def archL(sz:Nat)(p:Bool)(bu d q c:Nat)(b:List UInt8):List UInt8:=
 putB (headL sz p bu d q c b.length)++layL b d q c (strN d c b.length)++putB (headL sz p bu d q c b.length)
set_option maxRecDepth 100000
theorem Archive_any(g sz bu d q c n:Nat)(p:Bool){xv:Value}(v:Value)(l:List UInt8)(w:World)(hg:w.heap[g]?=some (hdB sz p bu d q c n xv))(hs:See w eB v l)(ht:Crc w)(h1:sz<=32768)(h2:bu<256)(h3:d<256)(h4:q<256)(h5:c<=4096)(h6:n<=1000000)(hl:l.length<=20000000) :
  Calls Tryz.prog 24 #[.pointer (some ⟨g,0,none⟩),v] w fun e w'=>∃ v,e=.returned v/\Ow w' w.heap.size eB v (putB (headL sz p bu d q c n)++l++putB (headL sz p bu d q c n))/\Fr w w':=by
 have HB:=hid (fun W (h:Fr w W)=>HBytes_any g sz bu d q c n p W (h.heap hg) (ht.fr h) h1 h2 h3 h4 h5 h6)
 have hlh:=putB_len (headL sz p bu d q c n)
 rw [headL_len]at hlh
 have Hl:=hid hlh
 have HA:=hid (fun W va vc (ha:See W eB va (putB (headL sz p bu d q c n))) (hb:See W eB v l) (hc:See W eB vc (putB (headL sz p bu d q c n)))=>all3_big va v vc _ l _ W ha hb hc (by omega))
 clear hlh
 obtain⟨a0,cap,hv,hcap1,hcap2,hnone⟩:=hs.shape
 have HS:=hid (fun W (h:Fr w W)=>hs.fr h)
 subst hv
 clear hs hnone ht hg
 generalize putB (headL sz p bu d q c n)=H at *
 go_enter Tryz.func24, Tryz.ntmps24
 go_wp2_with fail
 refine(HB.out _ (Fr.refl w)).mono ?_
 rintro e w1 ⟨v1,rfl,hA1,hf1⟩
 obtain⟨p1,z1,hq1⟩:=hA1.shape'
 subst hq1
 go_wp2_with fail
 refine(HB.out _ hf1).mono ?_
 rintro e w2 ⟨v2,rfl,hA2,hf2⟩
 have hf02:=hf1.trans hf2
 have HH:=hid (HA.out w2 _ v2 (hA1.fr hf2).see (HS.out w2 hf02) hA2.see)
 obtain⟨p2,z2,hq2⟩:=hA2.shape'
 subst hq2
 clear hA1 hA2 hf1 hf2
 go_wp2_with fail
 refine HH.out.mono ?_
 rintro e w3 ⟨v3,rfl,hA3,hf3⟩
 have HR:=hid (hA3.rebase hf02.size)
 clear hA3
 go_wp2_with fail
 go_ret
 exact⟨_,rfl,HR.out,hf02.trans hf3⟩
set_option maxRecDepth 512
theorem lay_small(d q c n:Nat)(h1:q<=4*d)(h2:4<=c)(h3:d<=8)(h4:c<=100)(hn:n<=1000000):strN d c n*((d+q)*(c+4))<=16777216:=by
 have h5:strN d c n*(d*c)<=n+d*c - 1:=Nat.div_mul_le_self _ _
 have h6:(d+q)*(c+4)<=(5*d)*(2*c):=Nat.mul_le_mul (by omega) (by omega)
 have h7:(5*d)*(2*c)=10*(d*c):=by rw [Nat.mul_mul_mul_comm]
 have h8:d*c<=8*100:=Nat.mul_le_mul h3 h4
 have h9:strN d c n*((d+q)*(c+4))<=strN d c n*(10*(d*c)):=Nat.mul_le_mul_left _ (by omega)
 have h10:strN d c n*(10*(d*c))=10*(strN d c n*(d*c)):=by rw [Nat.mul_left_comm]
 omega
def hX(h:List UInt8):Nat:=(h.getD 5 0).toNat
def hBu(h:List UInt8):Nat:=(h.getD 6 0).toNat
def hD(h:List UInt8):Nat:=(h.getD 7 0).toNat
def hQ(h:List UInt8):Nat:=(h.getD 8 0).toNat
def hC(h:List UInt8):Nat:=leN ((h.drop 9).take 2)
def hSz(h:List UInt8):Nat:=leN ((h.drop 11).take 2)
def hN(h:List UInt8):Nat:=leN ((h.drop 13).take 4)
def hP(h:List UInt8):Bool:=decide (hX h=1)
def optH(h:List UInt8):Opt:=⟨(hSz h:Int),hP h,(hBu h:Int),(hD h:Int),(hQ h:Int),(hC h:Int)⟩
theorem optH_ok(h:List UInt8)(ho:opt3 (optH h)=true):16<=hSz h/\hSz h<=32768/\1<=hBu h/\hBu h<=64/\1<=hD h/\hD h+hQ h<=255/\1<=hC h/\hC h<=4096:=by
 have h3:=(opt3_iff _).1 ho
 obtain⟨k1,k2,k3,k4,k5,k6,k7,k8,k9,k10⟩:=h3
 simp only [optH]at k1 k2 k3 k4 k5 k6 k7 k8 k9 k10
 refine⟨?_,?_,?_,?_,?_,?_,?_,?_⟩ <;> omega
def innerB(b:List UInt8):List UInt8:=(b.drop 21).take (b.length - 42)
def readB(b:List UInt8):Nat × List UInt8 × List Nat:=readS (hD (headOf b)) (hQ (headOf b)) (hC (headOf b)) (hN (headOf b)) (innerB b)
def bodyR(b:List UInt8):Nat × List UInt8 × Nat:=
 if b.length<42 then(1,[],0)else if hasB b=false then(5,[],0)else if 1<hX (headOf b)then(2,[],0)else if opt3 (optH (headOf b))=false then(9,[],0)
 else if(readB b).1=0 then(0,(readB b).2.1,(readB b).2.2.length+(if b.take 21=b.drop (b.length - 21)then 0 else 1))else((readB b).1,[],0)
theorem bodyR_short(b:List UInt8)(h:b.length<42):bodyR b=(1,[],0):=by unfold bodyR;rw [if_pos h]
theorem bodyR_sum(b:List UInt8)(h:¬b.length<42)(h2:hasB b=false):bodyR b=(5,[],0):=by unfold bodyR;rw [if_neg h,if_pos h2]
theorem bodyR_form(b:List UInt8)(h:¬b.length<42)(h2:hasB b=true)(h3:1<hX (headOf b)):bodyR b=(2,[],0):=by unfold bodyR;rw [if_neg h,if_neg (by rw [h2];simp),if_pos h3]
theorem bodyR_opts(b:List UInt8)(h:¬b.length<42)(h2:hasB b=true)(h3:¬1<hX (headOf b))(h4:opt3 (optH (headOf b))=false):bodyR b=(9,[],0):=by unfold bodyR;rw [if_neg h,if_neg (by rw [h2];simp),if_neg h3,if_pos h4]
theorem bodyR_read(b:List UInt8)(h:¬b.length<42)(h2:hasB b=true)(h3:¬1<hX (headOf b))(h4:opt3 (optH (headOf b))=true)(h5:(readB b).1≠0):bodyR b=((readB b).1,[],0):=by unfold bodyR;rw [if_neg h,if_neg (by rw [h2];simp),if_neg h3,if_neg (by rw [h4];simp),if_neg h5]
theorem bodyR_ok(b:List UInt8)(h:¬b.length<42)(h2:hasB b=true)(h3:¬1<hX (headOf b))(h4:opt3 (optH (headOf b))=true)(h5:(readB b).1=0):bodyR b=(0,(readB b).2.1,(readB b).2.2.length+(if b.take 21=b.drop (b.length - 21)then 0 else 1)):=by unfold bodyR;rw [if_neg h,if_neg (by rw [h2];simp),if_neg h3,if_neg (by rw [h4];simp),if_pos h5]
theorem headOf_len(b:List UInt8)(h:¬b.length<42):(headOf b).length=21:=by
 unfold headOf
 split
 · rw [List.length_take];omega
 · rw [List.length_drop];omega
theorem innerB_len(b:List UInt8):(innerB b).length=b.length - 42:=by
 unfold innerB
 rw [List.length_take,List.length_drop]
 omega
theorem stripe_flat(k m c:Nat)(l:List UInt8)(a:Nat)(h:a+(k+m)*(c+4)<=l.length)(h0:(stripeR k m c l a).1=0):(stripeR k m c l a).2.flatten.length=k*c:=by
 unfold stripeR at h0 ⊢
 simp only at h0 ⊢
 by_cases h1:(goodsL (goodS l c a (k+m))).length<k
 · rw [if_pos h1]at h0;cases h0
 · rw [if_neg h1]at h0 ⊢
   by_cases h2:sameS (nowL k m c ((goodsL (goodS l c a (k+m))).take k) (atL ((goodsL (goodS l c a (k+m))).take k) (partS l c a (k+m)))) (partS l c a (k+m)) (goodS l c a (k+m))=true
   · rw [if_pos h2]
     have hl:(atL ((goodsL (goodS l c a (k+m))).take k) (partS l c a (k+m))).length=k:=by rw [atL_len,List.length_take];omega
     have hc:∀ p∈atL ((goodsL (goodS l c a (k+m))).take k) (partS l c a (k+m)),p.length=c:=atL_all (goodS l c a (k+m)) (partS l c a (k+m)) c _ (fun r hr=>List.mem_of_mem_take hr) (part_len l c a (k+m) h) (by rw [goodS_len,partS_len])
     have hn:=nowL_all k m c ((goodsL (goodS l c a (k+m))).take k) _ hl hc
     rw [flat_all c _ (fun p hp=>hn p (List.mem_of_mem_take hp)),List.length_take,nowL_len,Nat.min_eq_left (by omega)]
   · rw [if_neg h2]at h0;cases h0
theorem readGo_len(k m c:Nat)(l:List UInt8):∀ (f s:Nat) (out:List UInt8) (bad:List Nat),(s+f)*((k+m)*(c+4))<=l.length->(readGo k m c l f s out bad).1=0->(readGo k m c l f s out bad).2.1.length=out.length+f*(k*c)
 | 0,_,out,bad=>fun _ _=>by simp [readGo]
 | f+1,s,out,bad=>fun hL h=>by
  have h9:s*((k+m)*(c+4))+(k+m)*(c+4)<=l.length:=by
   have:=Nat.mul_le_mul_right ((k+m)*(c+4)) (show s+1<=s+(f+1) by omega)
   rw [Nat.add_mul s 1,Nat.one_mul]at this
   omega
  unfold readGo at h ⊢
  by_cases h1:(stripeR k m c l (s*((k+m)*(c+4)))).1=0
  · simp only [h1,if_true]at h ⊢
    rw [readGo_len k m c l f (s+1) _ _ (by rw [show s+1+f=s+(f+1) by omega];exact hL) h,List.length_append,stripe_flat k m c l _ h9 h1,Nat.add_mul]
    omega
  · simp only [h1,if_false]at h
theorem readGo_step(k m c:Nat)(l:List UInt8)(f s:Nat)(out:List UInt8)(bad:List Nat)(h:(stripeR k m c l (s*((k+m)*(c+4)))).1=0) :
  readGo k m c l (f+1) s out bad=readGo k m c l f (s+1) (out++(stripeR k m c l (s*((k+m)*(c+4)))).2.flatten) (bad++badS l c (s*((k+m)*(c+4))) (k+m) (s*(k+m))):=by
 rw [readGo];simp only [h,if_true]
theorem readGo_stop(k m c:Nat)(l:List UInt8)(f s:Nat)(out:List UInt8)(bad:List Nat)(h:(stripeR k m c l (s*((k+m)*(c+4)))).1≠0) :
  readGo k m c l (f+1) s out bad=((stripeR k m c l (s*((k+m)*(c+4)))).1,[],[]):=by
 rw [readGo];simp only [h,if_false]
theorem readS_big(k m c n:Nat)(l:List UInt8)(h:8388608<n):readS k m c n l=(13,[],[]):=by unfold readS;rw [if_pos h]
theorem readS_limit(k m c n:Nat)(l:List UInt8)(h:¬8388608<n)(h2:16777216<strN k c n*((k+m)*(c+4))):readS k m c n l=(6,[],[]):=by unfold readS;rw [if_neg h,if_pos h2]
theorem readS_short(k m c n:Nat)(l:List UInt8)(h:¬8388608<n)(h2:¬16777216<strN k c n*((k+m)*(c+4)))(h3:l.length<strN k c n*((k+m)*(c+4))):readS k m c n l=(1,[],[]):=by unfold readS;rw [if_neg h,if_neg h2,if_pos h3]
theorem readS_long(k m c n:Nat)(l:List UInt8)(h:¬8388608<n)(h2:¬16777216<strN k c n*((k+m)*(c+4)))(h3:strN k c n*((k+m)*(c+4))<l.length):readS k m c n l=(2,[],[]):=by unfold readS;rw [if_neg h,if_neg h2,if_neg (by omega),if_pos h3]
theorem readS_eq(k m c n:Nat)(l:List UInt8)(h:¬8388608<n)(h2:¬16777216<strN k c n*((k+m)*(c+4)))(h3:l.length=strN k c n*((k+m)*(c+4))) :
  readS k m c n l = (let r := readGo k m c l (strN k c n) 0 [] []
   if r.1 = 0 then (if (r.2.1.drop n).all (· == 0) then (0, r.2.1.take n, r.2.2) else (2, [], [])) else (r.1, [], [])) := by unfold readS; rw [if_neg h, if_neg h2, if_neg (by omega), if_neg (by omega)]
theorem CurF.box{w w':World}{T T2:TypeId}{B base n er g:Nat}{l:List UInt8}{cs:Array Value}{f:Nat × Nat}(h:CurF w T B base l n er)(hg:w.heap[g]?=some (.cells cs T2 f))(hT:T2≠(eB:Elt Tryz.prog UInt8).e)(hgB:B≠g)(hc:Chg (fun k=>k=g) w w'):CurF w' T B base l n er:=by
 obtain⟨⟨v,h1,h2⟩,h3⟩:=h
 exact⟨⟨v,hc.heap h1 hgB,h2.chg hc (fun k hk e=>h2.ne_cells hg hT (by rw [hk,e]))⟩,h3⟩
def optE(o:Opt):Int:=if opt3 o then 0 else 9
theorem CurF.at{w:World}{T:TypeId}{B base n er n':Nat}{l:List UInt8}(h:CurF w T B base l n er)(e:n=n'):CurF w T B base l n' er:=e ▸ h
set_option maxRecDepth 100000
theorem head_read (v : Value) (h : List UInt8) (w : World) (hs : See w eB v h) (hl : h.length = 21) :
    Calls Tryz.prog 28 #[v] w fun e w'=>Fr w w'/\((1<hX h/\e=.returned (.tuple #[.pointer none,.int .i64 2]))\/(hX h<=1/\∃ g,e=.returned (.tuple #[.pointer (some ⟨g,0,none⟩),.int .i64 (optE (optH h))])/\w.heap.size<=g/\w'.heap[g]?=some (hdB (hSz h) (hP h) (hBu h) (hD h) (hQ h) (hC h) (hN h) (.int .u8 (hX h:Int))))):=by
  obtain⟨a0,cap,hv,hc1,hc2,_⟩:=hs.shape
  subst hv
  obtain⟨fa,fc,hfr,hfs⟩:=run_from eB 22 Tryz.underlying22 hs 5 (by omega)
  rw [hl,show 21 - 5=16 from rfl]at hfr hfs
  rw [hl]
  have hfr5:∀ W,(Instr.slice 22 (.slice a0 21 cap) (some (.int .i64 5)) none none).run Tryz.prog W=.ok (.slice fa 16 fc) W:=hfr
  clear hfr
  have hl5:(h.drop 5).length=16:=by rw [List.length_drop,hl]
  have HNew:=hid (New_any _ (h.drop 5) w hfs (by omega))
  have g0:(h.drop 5).getD 0 0=h.getD 5 0:=by rw [getD_at _ _ _ (by omega),getD_at _ _ _ (by omega)];simp
  have g1:(h.drop 5).getD 1 0=h.getD 6 0:=by rw [getD_at _ _ _ (by omega),getD_at _ _ _ (by omega)];simp
  have g2:(h.drop 5).getD 2 0=h.getD 7 0:=by rw [getD_at _ _ _ (by omega),getD_at _ _ _ (by omega)];simp
  have g3:(h.drop 5).getD 3 0=h.getD 8 0:=by rw [getD_at _ _ _ (by omega),getD_at _ _ _ (by omega)];simp
  have q1:((h.drop 5).drop 4).take 2=(h.drop 9).take 2:=by rw [List.drop_drop]
  have q2:((h.drop 5).drop 6).take 2=(h.drop 11).take 2:=by rw [List.drop_drop]
  have q3:((h.drop 5).drop 8).take 4=(h.drop 13).take 4:=by rw [List.drop_drop]
  have HB0:=hid (fun B W (hc:CurF W 183 B w.heap.size (h.drop 5) 0 0) (hb:w.heap.size<=W.heap.size)=>Byte_yes B w.heap.size 0 (h.drop 5) W hc (by omega) (by omega) hb)
  have HB1:=hid (fun B W (hc:CurF W 183 B w.heap.size (h.drop 5) 1 0) (hb:w.heap.size<=W.heap.size)=>Byte_yes B w.heap.size 1 (h.drop 5) W hc (by omega) (by omega) hb)
  have HB2:=hid (fun B W (hc:CurF W 183 B w.heap.size (h.drop 5) 2 0) (hb:w.heap.size<=W.heap.size)=>Byte_yes B w.heap.size 2 (h.drop 5) W hc (by omega) (by omega) hb)
  have HB3:=hid (fun B W (hc:CurF W 183 B w.heap.size (h.drop 5) 3 0) (hb:w.heap.size<=W.heap.size)=>Byte_yes B w.heap.size 3 (h.drop 5) W hc (by omega) (by omega) hb)
  have HF4:=hid (fun B W (hc:CurF W 183 B w.heap.size (h.drop 5) 4 0) (hb:w.heap.size<=W.heap.size)=>CFixed_yes B w.heap.size 4 2 (h.drop 5) W hc (by omega) (by omega) (by omega) (by omega) hb)
  have HF6:=hid (fun B W (hc:CurF W 183 B w.heap.size (h.drop 5) 6 0) (hb:w.heap.size<=W.heap.size)=>CFixed_yes B w.heap.size 6 2 (h.drop 5) W hc (by omega) (by omega) (by omega) (by omega) hb)
  have HF8:=hid (fun B W (hc:CurF W 183 B w.heap.size (h.drop 5) 8 0) (hb:w.heap.size<=W.heap.size)=>CFixed_yes B w.heap.size 8 4 (h.drop 5) W hc (by omega) (by omega) (by omega) (by omega) hb)
  rw [g0]at HB0
  rw [g1]at HB1
  rw [g2]at HB2
  rw [g3]at HB3
  rw [q1]at HF4
  rw [q2]at HF6
  rw [q3]at HF8
  have HO:=hid (fun W=>show Calls Tryz.prog 21 #[.int .i64 3,optV (optH h)] W fun e w'=>e=.returned (.int .i64 (optE (optH h)))/\Fr W w' from OCheck3_any (optH h) W)
  have HOe:Hid (optV (optH h)=.agg #[N (leN ((h.drop 11).take 2)),.bool (decide ((h.getD 5 0).toNat=1)),N (h.getD 6 0).toNat,N (h.getD 7 0).toNat,N (h.getD 8 0).toNat,N (leN ((h.drop 9).take 2))]):=rfl
  have HHd:Hid (∀ xv,hdB (hSz h) (hP h) (hBu h) (hD h) (hQ h) (hC h) (hN h) xv=hdB (leN ((h.drop 11).take 2)) (decide ((h.getD 5 0).toNat=1)) (h.getD 6 0).toNat (h.getD 7 0).toNat (h.getD 8 0).toNat (leN ((h.drop 9).take 2)) (leN ((h.drop 13).take 4)) xv):=fun _=>rfl
  have HXe:Hid (hX h=(h.getD 5 0).toNat):=rfl
  rw [HOe.out]at HO
  have b1:=UInt8.toNat_lt (h.getD 5 0)
  have b2:=UInt8.toNat_lt (h.getD 6 0)
  have b3:=UInt8.toNat_lt (h.getD 7 0)
  have b4:=UInt8.toNat_lt (h.getD 8 0)
  have c1:leN ((h.drop 9).take 2)<256 ^ 2:=by have:=leN_lt ((h.drop 9).take 2);rw [List.length_take,List.length_drop,hl]at this;exact this
  have c2:leN ((h.drop 11).take 2)<256 ^ 2:=by have:=leN_lt ((h.drop 11).take 2);rw [List.length_take,List.length_drop,hl]at this;exact this
  have c3:leN ((h.drop 13).take 4)<256 ^ 4:=by have:=leN_lt ((h.drop 13).take 4);rw [List.length_take,List.length_drop,hl]at this;exact this
  rw [show(256:Nat) ^ 2=65536 from by decide]at c1 c2
  rw [show(256:Nat) ^ 4=4294967296 from by decide]at c3
  clear g0 g1 g2 g3 q1 q2 q3 hs hfs hl5 hl HOe
  generalize optE (optH h)=OE at *
  generalize leN ((h.drop 9).take 2)=fC at *
  generalize leN ((h.drop 11).take 2)=fS at *
  generalize leN ((h.drop 13).take 4)=fN at *
  generalize (h.getD 5 0).toNat=x at *
  generalize (h.getD 6 0).toNat=xb at *
  generalize (h.getD 7 0).toNat=xd at *
  generalize (h.getD 8 0).toNat=xq at *
  generalize h.drop 5=l5 at *
  have w1:IntKind.i64.wrap (xb:Int)=(xb:Int):=wrap_i64 _ (by omega)
  have w2:IntKind.i64.wrap (xd:Int)=(xd:Int):=wrap_i64 _ (by omega)
  have w3:IntKind.i64.wrap (xq:Int)=(xq:Int):=wrap_i64 _ (by omega)
  have w4:IntKind.i64.wrap (fC:Int)=(fC:Int):=wrap_i64 _ (by omega)
  have w5:IntKind.i64.wrap (fS:Int)=(fS:Int):=wrap_i64 _ (by omega)
  have w6:IntKind.i64.wrap (fN:Int)=(fN:Int):=wrap_i64 _ (by omega)
  have hpb:((x:Int) == 1)=decide (x=1):=by
    rw [show((x:Int) == 1)=decide ((x:Int)=1)from rfl]
    exact decide_eq_decide.2 ⟨fun h=>by omega,fun h=>by omega⟩
  generalize decide (x=1)=p at *
  go_enter Tryz.func28, Tryz.ntmps28
  go_wp2_with fail
  refine(HNew.out).mono ?_
  rintro e W1 ⟨B,rfl,hC1,hf1,hBs⟩
  have HBB:=hid (HB0.out B W1 hC1 hf1.size)
  go_wp2_with fail
  refine(HBB.out).mono ?_
  rintro e W2 ⟨rfl,hC2,hch2⟩
  have hf2:Fr w W2:=Chg.below hf1 hch2 hf1.size (fun i e=>by have e:i=B:=e;omega)
  have hBW:B<W2.heap.size:=by obtain⟨⟨v,h1,_⟩,_⟩:=hC2;exact(Array.getElem?_eq_some_iff.1 h1).1
  go_wp2_with fail
  have hfA:Fr W2 (W2.alloc (.cells #[.int .i64 0,.bool p,.int .i64 0,.int .i64 0,.int .i64 0,.int .i64 0,.int .i64 0,.int .u8 (x:Int)] 55)):=(Fr.refl W2).alloc _
  have hG3:=heap_new W2 (.cells #[.int .i64 0,.bool p,.int .i64 0,.int .i64 0,.int .i64 0,.int .i64 0,.int .i64 0,.int .u8 (x:Int)] 55) W2.heap.size rfl
  generalize W2.alloc (.cells #[.int .i64 0,.bool p,.int .i64 0,.int .i64 0,.int .i64 0,.int .i64 0,.int .i64 0,.int .u8 (x:Int)] 55)=W3 at *
  have hgs:w.heap.size<=W2.heap.size:=hf2.size
  generalize W2.heap.size=g at *
  have hf3:=hf2.trans hfA
  have hC3:=hC2.fr hfA
  have HB4:=hid (HB1.out B W3 hC3 hf3.size)
  clear HBB HNew hC1 hC2 hf1 hf2 hch2 hfA HB0 HB1
  refine(HB4.out).mono ?_
  rintro e W4 ⟨rfl,hC4,hch4⟩
  have hf4:Fr w W4:=Chg.below hf3 hch4 hf3.size (fun i e=>by have e:i=B:=e;omega)
  have hG4:=hch4.heap hG3 (by omega)
  have HB5:=hid (HB2.out B W4 hC4 hf4.size)
  clear HB4 HB2 hC3 hf3 hch4 hG3
  go_wp2_with fail
  refine(HB5.out).mono ?_
  rintro e W5 ⟨rfl,hC5,hch5⟩
  have hf5:Fr w W5:=Chg.below hf4 hch5 hf4.size (fun i e=>by have e:i=B:=e;omega)
  have hG5:=hch5.heap hG4 (by omega)
  have HB6:=hid (HB3.out B W5 hC5 hf5.size)
  clear HB5 HB3 hC4 hf4 hch5 hG4
  go_wp2_with fail
  refine(HB6.out).mono ?_
  rintro e W6 ⟨rfl,hC6,hch6⟩
  have hf6:Fr w W6:=Chg.below hf5 hch6 hf5.size (fun i e=>by have e:i=B:=e;omega)
  have hG6:=hch6.heap hG5 (by omega)
  clear HB6 hC5 hf5 hch6 hG5
  have d2:W6.cell? ⟨g,2,none⟩=some (.int .i64 0):=by rw [cell_of_heap hG6];rfl
  have d3:W6.cell? ⟨g,3,none⟩=some (.int .i64 0):=by rw [cell_of_heap hG6];rfl
  have d4:W6.cell? ⟨g,4,none⟩=some (.int .i64 0):=by rw [cell_of_heap hG6];rfl
  have z2:=frozen_of_heap hG6 2
  have z3:=frozen_of_heap hG6 3
  have z4:=frozen_of_heap hG6 4
  go_wp2_with fail
  have hG7:=heap_setCell_own (heap_setCell_own (heap_setCell_own hG6 2 (.int .i64 (xb:Int))) 3 (.int .i64 (xd:Int))) 4 (.int .i64 (xq:Int))
  have hG7':(((W6.setCell ⟨g,2,none⟩ (.int .i64 (xb:Int))).setCell ⟨g,3,none⟩ (.int .i64 (xd:Int))).setCell ⟨g,4,none⟩ (.int .i64 (xq:Int))).heap[g]?=some (.cells #[.int .i64 0,.bool p,N xb,N xd,N xq,.int .i64 0,.int .i64 0,.int .u8 (x:Int)] 55 (0,0)):=by simpa using hG7
  have hch7:Chg (fun k=>k=g) W6 (((W6.setCell ⟨g,2,none⟩ (.int .i64 (xb:Int))).setCell ⟨g,3,none⟩ (.int .i64 (xd:Int))).setCell ⟨g,4,none⟩ (.int .i64 (xq:Int))):=
    ((setCell_chg W6 ⟨g,2,none⟩ _).trans (setCell_chg _ ⟨g,3,none⟩ _) (fun _ _ e=>e)).trans (setCell_chg _ ⟨g,4,none⟩ _) (fun _ _ e=>e)
  have hBg:B≠g:=by omega
  have hC7:=hC6.box hG6 (by decide) hBg hch7
  have hf7:Fr w (((W6.setCell ⟨g,2,none⟩ (.int .i64 (xb:Int))).setCell ⟨g,3,none⟩ (.int .i64 (xd:Int))).setCell ⟨g,4,none⟩ (.int .i64 (xq:Int))):=Chg.below hf6 hch7 hf6.size (fun i e=>by have e:i=g:=e;omega)
  clear hG7 hch7 hC6 hf6 hG6 d2 d3 d4 z2 z3 z4
  generalize ((W6.setCell ⟨g,2,none⟩ (.int .i64 (xb:Int))).setCell ⟨g,3,none⟩ (.int .i64 (xd:Int))).setCell ⟨g,4,none⟩ (.int .i64 (xq:Int))=W7 at *
  have HB8:=hid (HF4.out B W7 hC7 hf7.size)
  refine(HB8.out).mono ?_
  rintro e W8 ⟨rfl,hC8,hch8⟩
  have hf8:Fr w W8:=Chg.below hf7 hch8 hf7.size (fun i e=>by have e:i=B:=e;omega)
  have hG8:=hch8.heap hG7' (fun e=>hBg e.symm)
  have HB9:=hid (HF6.out B W8 hC8 hf8.size)
  clear HB8 HF4 hC7 hf7 hch8 hG7'
  go_wp2_with fail
  refine(HB9.out).mono ?_
  rintro e W9 ⟨rfl,hC9,hch9⟩
  have hf9:Fr w W9:=Chg.below hf8 hch9 hf8.size (fun i e=>by have e:i=B:=e;omega)
  have hG9:=hch9.heap hG8 (fun e=>hBg e.symm)
  clear HB9 HF6 hC8 hf8 hch9 hG8
  have d5:W9.cell? ⟨g,5,none⟩=some (.int .i64 0):=by rw [cell_of_heap hG9];rfl
  have d0:W9.cell? ⟨g,0,none⟩=some (.int .i64 0):=by rw [cell_of_heap hG9];rfl
  have z5:=frozen_of_heap hG9 5
  have z0:=frozen_of_heap hG9 0
  go_wp2_with fail
  have hGa:=heap_setCell_own (heap_setCell_own hG9 5 (.int .i64 (fC:Int))) 0 (.int .i64 (fS:Int))
  have hGa':((W9.setCell ⟨g,5,none⟩ (.int .i64 (fC:Int))).setCell ⟨g,0,none⟩ (.int .i64 (fS:Int))).heap[g]?=some (.cells #[N fS,.bool p,N xb,N xd,N xq,N fC,.int .i64 0,.int .u8 (x:Int)] 55 (0,0)):=by simpa using hGa
  have hcha:Chg (fun k=>k=g) W9 ((W9.setCell ⟨g,5,none⟩ (.int .i64 (fC:Int))).setCell ⟨g,0,none⟩ (.int .i64 (fS:Int))):=
    (setCell_chg W9 ⟨g,5,none⟩ _).trans (setCell_chg _ ⟨g,0,none⟩ _) (fun _ _ e=>e)
  have hCa:=hC9.box hG9 (by decide) hBg hcha
  have hfa:Fr w ((W9.setCell ⟨g,5,none⟩ (.int .i64 (fC:Int))).setCell ⟨g,0,none⟩ (.int .i64 (fS:Int))):=Chg.below hf9 hcha hf9.size (fun i e=>by have e:i=g:=e;omega)
  clear hGa hcha hC9 hf9 hG9 d0 d5 z0 z5
  generalize (W9.setCell ⟨g,5,none⟩ (.int .i64 (fC:Int))).setCell ⟨g,0,none⟩ (.int .i64 (fS:Int))=Wa at *
  have HBb:=hid (HF8.out B Wa hCa hfa.size)
  refine(HBb.out).mono ?_
  rintro e Wb ⟨rfl,hCb,hchb⟩
  have hfb:Fr w Wb:=Chg.below hfa hchb hfa.size (fun i e=>by have e:i=B:=e;omega)
  have hGb:=hchb.heap hGa' (fun e=>hBg e.symm)
  clear HBb HF8 hCa hfa hchb hGa' hCb
  have e6:Wb.cell? ⟨g,6,none⟩=some (.int .i64 0):=by rw [cell_of_heap hGb];rfl
  have z6:=frozen_of_heap hGb 6
  have hGc:=heap_setCell_own hGb 6 (.int .i64 (fN:Int))
  have hGc':(Wb.setCell ⟨g,6,none⟩ (.int .i64 (fN:Int))).heap[g]?=some (.cells #[N fS,.bool p,N xb,N xd,N xq,N fC,N fN,.int .u8 (x:Int)] 55 (0,0)):=by simpa using hGc
  have hfc:Fr w (Wb.setCell ⟨g,6,none⟩ (.int .i64 (fN:Int))):=Chg.below hfb (setCell_chg Wb ⟨g,6,none⟩ _) hfb.size (fun i e=>by have e:i=g:=e;omega)
  clear hGc
  have u0:(Wb.setCell ⟨g,6,none⟩ (.int .i64 (fN:Int))).cell? ⟨g,0,none⟩=some (N fS):=by rw [cell_of_heap hGc'];rfl
  have u1:(Wb.setCell ⟨g,6,none⟩ (.int .i64 (fN:Int))).cell? ⟨g,1,none⟩=some (.bool p):=by rw [cell_of_heap hGc'];rfl
  have u2:(Wb.setCell ⟨g,6,none⟩ (.int .i64 (fN:Int))).cell? ⟨g,2,none⟩=some (N xb):=by rw [cell_of_heap hGc'];rfl
  have u3:(Wb.setCell ⟨g,6,none⟩ (.int .i64 (fN:Int))).cell? ⟨g,3,none⟩=some (N xd):=by rw [cell_of_heap hGc'];rfl
  have u4:(Wb.setCell ⟨g,6,none⟩ (.int .i64 (fN:Int))).cell? ⟨g,4,none⟩=some (N xq):=by rw [cell_of_heap hGc'];rfl
  have u5:(Wb.setCell ⟨g,6,none⟩ (.int .i64 (fN:Int))).cell? ⟨g,5,none⟩=some (N fC):=by rw [cell_of_heap hGc'];rfl
  have u7:(Wb.setCell ⟨g,6,none⟩ (.int .i64 (fN:Int))).cell? ⟨g,7,none⟩=some (.int .u8 (x:Int)):=by rw [cell_of_heap hGc'];rfl
  by_cases hx:1<x
  · have i1:(1:Int)<x:=by omega
    have HXX:=hid (show 1<hX h by rw [HXe.out];exact hx)
    clear hx HO
    go_wp2_with fail
    go_ret2
    exact⟨hfc,.inl ⟨HXX.out,rfl⟩⟩
  · have i1:¬(1:Int)<x:=by omega
    have HXX:=hid (show hX h<=1 by rw [HXe.out];omega)
    have HGc:=hid hGc'
    clear hx hGc'
    go_wp2_with fail
    refine(HO.out _).mono ?_
    rintro e Wd ⟨rfl,hfd⟩
    have hGd:=hfd.heap HGc.out
    have hfdd:=hfc.trans hfd
    go_wp2_with fail
    go_ret2
    refine⟨hfdd,.inr ⟨HXX.out,g,rfl,hgs,?_⟩⟩
    rw [HHd.out,HXe.out]
    exact hGd
set_option maxRecDepth 512
end Go.Proofs.YtijghcbpfcjjnaaGreatDoor
