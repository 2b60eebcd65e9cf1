/- Parts of the proof of ArchOne: T3 L5 Y7 Ok1 L7 Hd2 Hd3. -/
import Derived.Test.YtdagmoonnbnceaaGreatDoorM20
import Derived.Test.YtdagmoonnbnceaaGreatDoorM21
import Derived.Test.YtdagmoonnbnceaaGreatDoorM05
import Derived.Test.YtdagmoonnbnceaaGreatDoorM06
import Derived.Test.YtdagmoonnbnceaaGreatDoorM16
import Derived.Test.YtdagmoonnbnceaaGreatDoorM13
import Derived.Test.YtdagmoonnbnceaaGreatDoorM07
import Derived.Test.YtdagmoonnbnceaaGreatDoorM40
set_option linter.unusedVariables false
set_option linter.unusedSectionVars false
set_option linter.unusedSimpArgs false
set_option maxHeartbeats 8000000
set_option maxRecDepth 100000
namespace Go.Proofs.YtdagmoonnbnceaaGreatDoor
open Go.RowKit Go.Fk
theorem parts_chunks(l:List UInt8)(n A k c:Nat)(hc:0<c)(hl:l.length<=n)(hA:A+k*c<=n):chunksL (((padL l n).drop A).take (k*c)) c=partsS l c A k:=by
  have hp:=padL_len l n hl
  have hlen:(((padL l n).drop A).take (k*c)).length=k*c:=by rw [List.length_take,List.length_drop,hp];omega
  have hck:ckN (k*c) c=k:=by
    unfold ckN
    rw [show k*c+c - 1=c*k+(c - 1) by rw [Nat.mul_comm];omega,Nat.mul_add_div hc,Nat.div_eq_of_lt (by omega),Nat.add_zero]
  apply List.ext_getElem
  · simp [chunksL,partsS,hlen,hck]
  · intro j h1 h2
    rw [partsS_len]at h2
    have:=Nat.mul_le_mul_right c (show j+1<=k by omega)
    rw [Nat.add_mul,Nat.one_mul]at this
    simp only [chunksL,partsS,List.getElem_map,List.getElem_range]
    exact part_eq l n A (k*c) (j*c) c hl hA this
theorem lt_of_blk{w w':World}{b:Nat}(h:w'.heap[b]? = w.heap[b]?)(hb:b<w.heap.size):b<w'.heap.size:=by
 rcases Nat.lt_or_ge b w'.heap.size with h1 | h1
 · exact h1
 · rw [Array.getElem?_eq_none h1,Array.getElem?_eq_getElem hb]at h
   cases h
def sliceLen:Value->Nat | .slice _ n _=>n | _=>0
theorem Lay_any (k m c : Nat) (v : Value) (l : List UInt8) (w : World) (hv : See w eB v l) (hk0 : 1 ≤ k) (hkm : k + m ≤ 255) (hc0 : 1 ≤ c) (hc : c ≤ 4096) (hl : l.length ≤ 1000000) (hz : strN k c l.length * ((k + m) * (c + 4)) ≤ 16777216) (ht : Crc w) :
    Calls Tryz.prog 34 #[N k,N m,N c,v] w fun e w'=>∃ v',e=.returned (.tuple #[v',.int .i64 0])/\Ow w' w.heap.size eB v' (layL l k m c (strN k c l.length))/\Fr w w':=by
  obtain⟨va,vc,rfl,hv1,hv2,hv3⟩:=hv.shape
  unfold maxLen at hv2
  have HS:=hid (Size_any k m c l.length hk0 hkm hc0 hc)
  rw [(sizeV_cases k m c l.length).1 (by omega) |>.1 hz]at HS
  have HP:=hid (fun W dv hs ds (h:Sees2 W eHB eB dv hs ds) (h1:ds.length=k) (h2:∀ p∈ds,p.length=c)=>Parity_any m dv hs ds c W h (by omega) (by omega) h2 (by omega))
  have HPut:=hid (fun W pv p (h:See W eB pv p) (h2:p.length<=1000000) (h3:Crc W)=>Put_any pv p W h h2 h3)
  have HSt:=hid (sstripes_any k m c l.length hk0 hc0 (by omega) hc (by omega))
  have HD:=hid (sdata_any k m c (by omega) hc)
  have hS0:1*1<=k*c:=Nat.mul_le_mul hk0 hc0
  have hS2:k*c<=255*4096:=Nat.mul_le_mul (by omega) hc
  have hNl:strN k c l.length*(k*c)<=l.length+k*c:=by
    unfold strN
    have h1:=Nat.div_mul_le_self (l.length+k*c - 1) (k*c)
    omega
  have hwN:=wrap_mul (strN k c l.length) (k*c) (1000000+255*4096) (by omega) (by omega)
  have hfull:l.length<=strN k c l.length*(k*c):=by
    have:=fun h=>(strN_lt k c l.length (by omega) (strN k c l.length)).2 h
    omega
  go_enter Tryz.func34, Tryz.ntmps34
  go_wp2_with fail
  refine(HS.out _).mono ?_
  rintro e w1 ⟨rfl,hf1⟩
  have hinf:(Tryz.prog.info? 101).map (·.size)=some 3:=by kernel_rfl
  have hone:(#[N k,N m,N c]:Array Value).all (·.oneCell')=true:=by
    rw [List.all_toArray];rfl
  have h3:=heap_new w1 (.cells #[.int .i64 0,.int .i64 0,.int .i64 0] 101) _ rfl
  have hset:=setRow_row _ _ #[N k,N m,N c] _ _ h3
  have hf4:Fr w1 ((w1.alloc (.cells #[.int .i64 0,.int .i64 0,.int .i64 0] 101)).setRow w1.heap.size #[N k,N m,N c]):=Chg.below ((Fr.refl w1).alloc _) (setRow_chg _ _ _) (by simp) (fun q hq=>by rw [hq];exact Nat.le_refl _)
  go_upto_region 5 with(refine wpList_store_row rfl 101 (.tmp 12) (.tmp 35) rfl w1.heap.size #[N k,N m,N c] rfl rfl 101 _ h3 hinf rfl hone ?_)
  generalize (w1.alloc (.cells #[.int .i64 0,.int .i64 0,.int .i64 0] 101)).setRow w1.heap.size #[N k,N m,N c]=W at *
  have hf0:=hf1.trans hf4
  have hg:w.heap.size<=w1.heap.size:=hf1.size
  generalize w1.heap.size=g at *
  clear h3 hone hf4 hf1 HS
  generalize hN:strN k c l.length=sN at *
  have HN:=hid hN
  clear hN
  have hmk:=fun W=>made_run eB rfl rfl 27 Tryz.underlying27 .i64 .i64 (sN*(k*c)) (by omega) W
  have a0:=cellx hset 0 rfl
  have a1:=cellx hset 1 rfl
  have a2:=cellx hset 2 rfl
  generalize hall:sN*(k*c)=tot at *
  generalize hd:k*c=d at *
  have HAll:=hid hall
  have HDd:=hid hd
  clear hall hd
  have ht0:¬(tot:Int)<0:=by omega
  go_region_held3 (fun w' => w'.cell? ⟨g, 0, none⟩ = some (N k) ∧ w'.cell? ⟨g, 1, none⟩ = some (N m) ∧ w'.cell? ⟨g, 2, none⟩ = some (N c))
    (first | go_keep)
    ((first
      | (go_at_call 58; refine (HSt.out _).mono ?_; rintro e w2 ⟨rfl, hf2⟩; have b0 := hf2.cell a0; have b1 := hf2.cell a1; have b2 := hf2.cell a2)
      | (go_at_call 59; refine (HD.out _).mono ?_; rintro e w3 ⟨rfl, hf3⟩; have d0 := hf3.cell b0; have d1 := hf3.cell b1; have d2 := hf3.cell b2)))
  have hfW3:Fr W w3:=((Fr.drew (Fr.refl W)).trans hf2).trans hf3
  have hmo:=made_own (base:=w.heap.size) eB rfl rfl tot (by omega) w3 (by have:=(hf0.trans hfW3).size;exact this)
  have hf34:=hfW3.alloc (.cells (madeCells #[eB.z] tot) eB.e)
  have hB4:=hf34.heap hset
  have hf04:=hf0.trans hf34
  have hg3:g<w3.heap.size:=by have:=(Array.getElem?_eq_some_iff.1 (hfW3.heap hset)).1;exact this
  have hv4:=hv.fr hf04
  have hga:w.heap.size<=w3.heap.size:=(hf0.trans hfW3).size
  have hfull2:l.length<=(List.replicate tot eB.zero).length:=by rw [List.length_replicate];exact hfull
  clear d0 d1 d2 b0 b1 b2 a0 a1 a2 hf2 hset hf0 hmk
  generalize w3.alloc (.cells (madeCells #[eB.z] tot) eB.e)=w4 at *
  generalize w3.heap.size=ga at *
  go_wp2_with (with_reducible refine wpList_copyOw rfl rfl (.tmp 44) (.tmp 45) 27 27 rfl Tryz.underlying27 _ _ _ _ rfl rfl hmo hv4 hfull2 ?_)
  intro w5 hown5 hch5
  have hpad:l++List.replicate (tot - l.length) eB.zero=padL l tot:=by unfold padL;rw [List.drop_replicate];rfl
  first | rw [hpad]at hown5 | (rw [List.drop_replicate,hpad]at hown5)
  have hB5:=hch5.heap hB4 (fun e=>by cases e;exact absurd hg3 (Nat.lt_irrefl _))
  have hf05:Fr w w5:=(Chg.below (B:=w.heap.size) hf04 hch5 hf04.size (fun q e=>by simp only [Value.ownBlock,Option.some.injEq]at e;omega))
  have hsee5:=hown5.see
  have hch5s:ga<w5.heap.size:=(hown5.lt ga rfl).2
  clear hown5 hch5 hmo hv4 hpad hf04 hB4
  have hga5:ga+1<=w5.heap.size:=by have:=hch5s;omega
  have hcz:((sN*((k+m)*(c+4)):Nat):Int)=((sN*((k+m)*(c+4)):Nat):Int):=rfl
  go_wp2_with (refine wpList_make0 eB rfl (.const (.int .i64 0)) (.tmp 47) 27 rfl Tryz.underlying27 .i64 .i64 _ (sN*((k+m)*(c+4))) rfl rfl rfl (by omega) (ga+1) hga5 ?_)
  intro w6 hown6 hg6
  have hB6:w6.heap[g]? = some (.cells #[N k,N m,N c] 101 (0,0)):=(hg6.block g (Array.getElem?_eq_some_iff.1 hB5).1 (by simp)).trans hB5
  have hf56:Fr w5 w6:=Fr.own (Fr.refl w5) hg6 (fun k e=>by cases e)
  have hf06:=hf05.trans hf56
  have hgb:ga<w5.heap.size:=hga5
  have hZ6:w6.heap[ga]? = w5.heap[ga]?:=hg6.block ga hgb (by simp)
  have hsee6:=hsee5
  clear hsee5 hB5 hf05 hg6 hf56
  have hpl:=padL_len l tot hfull
  generalize hZ:padL l tot=Z at *
  have HZ:=hid hZ
  have HPl:=hid hpl
  clear hZ hpl
  have HPc:Hid (∀ s,s<sN->chunksL ((Z.drop (s*d)).take d) c=partsS l c (s*d) k):=by
    intro s hs
    rw [<- HZ.out,<- HDd.out]
    refine parts_chunks l tot _ k c (by omega) hfull ?_
    have:=Nat.mul_le_mul_right (k*c) (show s+1<=sN by omega)
    rw [Nat.add_mul,Nat.one_mul,HDd.out,HAll.out]at this
    rw [HDd.out];exact this
  go_wp2_with fail
  go_loopw [13,14] (fun av ov wr=>∃ (s n off cap:Nat),s<=sN/\Hid (n=(sN - s)*d)/\av=.slice (some ⟨ga,off,none⟩) n cap/\wr.heap[ga]? = w5.heap[ga]? /\ See w5 eB (.slice (some ⟨ga,off,none⟩) n cap) (Z.drop (s*d))/\Ow wr (ga+1) eB ov (layL l k m c s)/\wr.heap[g]? = some (.cells #[N k,N m,N c] 101 (0,0))/\Fr w wr) (fun av _ _=>sliceLen av)
  case atStart=>exact⟨0,tot,0,tot,Nat.zero_le _,by show _=_;rw [<- HAll.out,Nat.sub_zero],rfl,hZ6,by simpa using hsee6,hown6,hB6,hf06⟩
  case round=>
    clear hsee6 hown6 hB6 hf06 hZ6
    obtain⟨s,n,off,cap,hs,HN1,rfl,hZr,hall,hout,hB,hf⟩:=hrel
    by_cases hlt:s<sN
    · have hA:s*d+d<=tot:=by
        have:=Nat.mul_le_mul_right d (show s+1<=sN by omega)
        rw [Nat.add_mul,Nat.one_mul,HAll.out]at this
        exact this
      have hnd:d<=n:=by
        rw [HN1.out]
        have:=Nat.mul_le_mul_right d (show 1<=sN - s by omega)
        omega
      have HN2:Hid (n - d=(sN - (s+1))*d):=by
        show _=_
        rw [HN1.out,show sN - s=(sN - (s+1))+1 by omega,Nat.add_mul,Nat.one_mul];omega
      have HDr:Hid (Z.drop ((s+1)*d)=(Z.drop (s*d)).drop d):=by show _=_;rw [List.drop_drop,Nat.add_mul,Nat.one_mul]
      have HLay:Hid (layL l k m c (s+1)=layL l k m c s++stripeL l k m c (s*d)):=by show _=_;rw [<- HDd.out];rfl
      have HLl:Hid ((layL l k m c s).length+(k+m)*(c+4)<=16777216):=by
        show _<=_
        rw [layL_len]
        have h1:=Nat.mul_le_mul_right ((k+m)*(c+4)) (show s+1<=sN by omega)
        rw [Nat.add_mul,Nat.one_mul]at h1
        omega
      have HPcs:=hid (HPc.out s hlt)
      have hzl:(Z.drop (s*d)).length=n:=by
        rw [List.length_drop,HPl.out,HN1.out,Nat.sub_mul,HAll.out]
      generalize Z.drop (s*d)=zs at *
      generalize s*d=A at *
      generalize layL l k m c s=lay at *
      have hallr:See wr eB (.slice (some ⟨ga,off,none⟩) n cap) zs:=see_blk hall hZr
      have hto:=run_to eB 27 Tryz.underlying27 hallr d (by omega)
      obtain⟨off',cap',hfrom,hfrsee⟩:=run_from_blk eB 27 Tryz.underlying27 hall d (by omega)
      rw [hzl]at hfrom hfrsee
      obtain⟨hto1,hto2⟩:=hto
      have hn0:(0:Int)<n:=by omega
      have hinf:(Tryz.prog.info? 101).map (·.size)=some 3:=by kernel_rfl
      have HZl:=hid hzl
      clear hzl hallr
      have hgw:g<wr.heap.size:=(Array.getElem?_eq_some_iff.1 hB).1
      have hgaw:ga<wr.heap.size:=lt_of_blk hZr hgb
      generalize wr=W at *
      go_upto_region 9 with fail
      go_wp2_with (first | (refine wpList_load_row rfl 101 (.tmp 12) rfl g rfl 101 #[N k,N m,N c] (0,0) _ hB Tryz.underlying101 rfl hinf ?_))
      refine(HD.out _).mono ?_
      rintro e w2 ⟨rfl,hf2⟩
      go_wp2_with fail
      refine(chunkB_any _ d cap c hc0 _).mono ?_
      rintro e w3 ⟨rfl,hw3⟩
      have hBs:w3.heap[w2.heap.size]? = some (.cells #[.slice (some ⟨ga,off,none⟩) d cap] 27 (0,0)):=by
        rw [hw3,heap_old _ _ _ (by simp)];exact heap_new _ _ _ rfl
      have hBn:w3.heap[w2.heap.size+1]? = some (.cells #[N c] 3 (0,0)):=by
        rw [hw3];exact heap_new _ _ _ (by simp)
      have hf3:Fr w2 w3:=by rw [hw3];exact((Fr.refl w2).alloc _).alloc _
      have hs3:w2.heap.size+1<w3.heap.size:=(Array.getElem?_eq_some_iff.1 hBn).1
      have hW3:=hf2.trans hf3
      have hseeT:=hto2.fr hW3
      have htl:(zs.take d).length=d:=by rw [List.length_take,HZl.out];omega
      obtain⟨b',offb,hor,hseq⟩:=chunkB_stops w2.heap.size (w2.heap.size+1) _ (zs.take d) c hc0 (by omega) (by rw [htl];omega) w3 hBs hBn hseeT
      have hbe:b'=ga/\offb=off:=by
        rcases hor with h | ⟨cap2,h⟩
        · rw [h]at htl;simp at htl;omega
        · rw [htl]at h
          simp only [Value.slice.injEq,Option.some.injEq,Addr.mk.injEq,and_true]at h
          exact⟨h.1.1.symm,h.1.2.symm⟩
      obtain⟨rfl,rfl⟩:=hbe
      have HCo := hid (collect_any _ rfl _ _ w2.heap.size (w2.heap.size + 1) _ _ _ _ (fun ys h => h) w3 (by omega) hs3 (by
        rw [htl]
        unfold ckN
        exact Nat.le_trans (Nat.div_le_self _ _) (by omega)) hseq)
      clear hseq hor hBs hBn hw3 hto1
      go_wp2_with fail
      refine HCo.out.mono ?_
      rintro e w4 ⟨v4,rfl,hown4,hf4⟩
      have hW4:=hW3.trans hf4
      have hsee4:See w4 eB (.slice (some ⟨b',offb,none⟩) (zs.take d).length cap) (zs.take d):=by rw [htl];exact hto2.fr hW4
      have hsees4:=chunks_see (E:=eB) rfl hc0 hsee4 hown4.see
      rw [HPcs.out]at hsees4
      have HPl2:=hid (partsS_len l c A k)
      have hckl:(ckUp b' offb (zs.take d).length c (ckN (zs.take d).length c)).length=k:=by rw [hsees4.2.1];exact HPl2.out
      have HCk:=hid hckl
      clear hckl
      have hblk:∀ i (h:i<(ckUp b' offb (zs.take d).length c (ckN (zs.take d).length c)).length),∃ o n' c',(ckUp b' offb (zs.take d).length c (ckN (zs.take d).length c))[i].v=.slice (some ⟨b',o,none⟩) n' c':=fun i h=>⟨offb+i*c,min c ((zs.take d).length - i*c),min c ((zs.take d).length - i*c),by simp [ckUp,ckHd,Hd.v]⟩
      have HBlk:=hid hblk
      clear hblk
      generalize ckUp b' offb (zs.take d).length c (ckN (zs.take d).length c)=hd4 at *
      have HPar:=hid (HP.out w4 v4 _ _ hsees4 HPl2.out (partsS_all l c A k))
      have HTl:=hid htl
      clear htl HCo hsee4
      go_wp2_with fail
      refine HPar.out.mono ?_
      rintro e w9 ⟨v9,rfl,ps3,hown9,howns9,hf9⟩
      have hPal:=hid (parL_all m _ c (partsS_all l c A k))
      have hPll:=hid (parL_len m (partsS l c A k) c)
      have HLay2:Hid (layL l k m c (s+1)=lay++putsL (partsS l c A k++parL m (partsS l c A k) c)):=by show _=_;rw [HLay.out,stripeL,putsL_app]
      have HPsa:=hid (partsS_all l c A k)
      generalize partsS l c A k=prt at *
      generalize parL m prt c=par at *
      clear HPar
      have hps3:=hid howns9.1
      have hW9:=hW4.trans hf9
      have hf39:=hf4.trans hf9
      have hown49:=hown4.fr hf9
      have happ:hd4.length+ps3.length<=2147483648:=by rw [HCk.out,hps3.out,hPll.out];omega
      go_wp2_with (at_builtin;refine wpList_app eHB rfl (.tmp 65) (.tmp 66) 80 rfl Tryz.underlying80 w3.heap.size rfl hown49 _ _ rfl hown9.see happ hf39.size ?_)
      intro v7 w7 hap7
      have hT:eHB.e≠eB.e:=by decide
      have hown7:=hap7.own
      have hne7:∀ q,q<w3.heap.size->v4.ownBlock≠some q:=fun q hq e=>by have:=(hown49.lt q e).1;omega
      have hZ7:w7.heap[b']? = w5.heap[b']?:=by
        rw [hap7.chg.block b' (by have:=hW9.size;omega) (fun e=>hne7 b' (by have:=hW3.size;omega) e.symm),Below.block hW9 b' hgaw]
        exact hZr
      have hB7:=hap7.chg'.heap (hW9.heap hB) (fun e=>hne7 g (by have:=hW3.size;omega) e)
      have hout7:=own_app (hout.fr hW9) hown49 hap7 hT
      have hf7:Fr w w7:=(hap7.below hown49 (hf.trans hW9) (by have:=(hf.trans hW3).size;omega) (hf.trans hW9).size)
      have hrow7:RowsA w7 w4.heap.size eB ps3 par u14:=(howns9.rows (fun b hb=>Nat.lt_of_lt_of_le (hout.lt b hb).2 hW4.size)).beside hown49 hap7 hT
      obtain⟨v7a,v7c,hv7⟩:=hown7.shape'
      have hHl:(hd4++ps3).length=k+m:=by rw [List.length_append,HCk.out,hps3.out,hPll.out]
      rw [hHl]at hv7
      have HHl:=hid hHl
      clear hHl
      subst hv7
      have hZ4:w4.heap[b']? = w5.heap[b']?:=(Below.block hW4 b' hgaw).trans hZr
      have hsee47:∀ (wr:World),wr.heap[b']? = w5.heap[b']? -> ∀ i (h1:i<hd4.length) (h2:i<prt.length),See wr eB hd4[i].v prt[i]:=fun wr hb i h1 h2=>by
        obtain⟨o,n',c',he⟩:=HBlk.out i h1
        have:=hsees4.2.2 i h1 h2
        rw [he]at this ⊢
        exact see_blk this (hb.trans hZ4.symm)
      have HS47:=hid hsee47
      have hlo:lay.length+(k+m)*(c+4)<=16777216:=HLl.out
      have HT7:Crc w7:=ht.fr hf7
      have h37:w3.heap.size<=w7.heap.size:=Nat.le_trans hf39.size hap7.size
      have h47:w4.heap.size<=w7.heap.size:=Nat.le_trans hf9.size hap7.size
      have HRa:Hid (∀ p∈prt++par,p.length=c):=fun p hp=>(List.mem_append.1 hp).elim (HPsa.out p) (hPal.out p)
      have HRl:Hid ((prt++par).length=k+m):=by show _=_;rw [List.length_append,HPl2.out,hPll.out]
      clear hsee47 hsees4 hap7 hown49 hown4 hown9 howns9 hout hB hZr hall hto2 hseeT hZ4 HT7
      go_wp2_with fail
      go_loopw [14,69] (fun ov iv wr=>∃ i:Nat,i<=k+m/\iv=N i/\wr.heap[b']? = w5.heap[b']? /\ Ow wr (b'+1) eB ov (lay++putsL ((prt++par).take i))/\RowsA wr w4.heap.size eB ps3 par ov/\Ow wr w3.heap.size eHB (.slice v7a (k+m) v7c) (hd4++ps3)/\wr.heap[g]? = some (.cells #[N k,N m,N c] 101 (0,0))/\Fr w wr) (fun _ iv _=>k+m - (intOf iv).toNat)
      case atStart=>exact⟨0,Nat.zero_le _,rfl,hZ7,by simpa [putsL] using hout7,hrow7,hown7,hB7,hf7⟩
      case round=>
        clear hZ7 hout7 hrow7 hown7 hB7 hf7
        obtain⟨i,hi,rfl,hZi,hout,hrows,hown,hB,hf⟩:=hrel
        by_cases him:i<k+m
        · have him':(i:Int)<(k:Int)+m:=by omega
          have him'':(i:Int)<((k+m:Nat):Int):=by omega
          have h1:i<(hd4++ps3).length:=by rw [HHl.out];exact him
          have h2:i<(prt++par).length:=by rw [HRl.out];exact him
          have hsee:See wr eB (hd4++ps3)[i].v (prt++par)[i]:=by
            by_cases hik:i<hd4.length
            · have hik2:i<prt.length:=by rw [HPl2.out,<- HCk.out];exact hik
              rw [List.getElem_append_left hik,List.getElem_append_left hik2]
              exact HS47.out wr hZi i hik hik2
            · have hik2:¬i<prt.length:=by rw [HPl2.out,<- HCk.out];exact hik
              rw [List.getElem_append_right (by omega),List.getElem_append_right (by omega)]
              have e:i - prt.length=i - hd4.length:=by rw [HPl2.out,HCk.out]
              simp only [e]
              exact(hrows.2 (i - hd4.length) _ _).1.see
          have HTk:Hid (putsL ((prt++par).take (i+1))=putsL ((prt++par).take i)++putB (prt++par)[i]):=by show _=_;rw [List.take_succ_eq_append_getElem h2,putsL_snoc]
          have HQl:Hid ((putsL ((prt++par).take i)).length=i*(c+4)):=by
            show _=_
            rw [putsL_len _ c (fun p hp=>HRa.out p (List.mem_of_mem_take hp)),List.length_take,Nat.min_eq_left (by omega)]
          have HRi:Hid ((prt++par)[i].length=c):=HRa.out _ (List.getElem_mem _)
          have hib:i*(c+4)+(c+4)<=(k+m)*(c+4):=by
            have:=Nat.mul_le_mul_right (c+4) (show i+1<=k+m by omega)
            rw [Nat.add_mul,Nat.one_mul]at this;exact this
          obtain⟨bb,oo,cc,hvv,e1⟩:=hown.see.cell1 (fun(h:Hd)=>h.v) rfl i h1
          obtain⟨ra,rc,hrv,_⟩:=hsee.shape
          rw [HRi.out]at hrv
          rw [HHl.out]at hvv
          generalize (hd4++ps3)[i]=h at *
          obtain⟨ha,hn,hcc⟩:=h
          simp only [Hd.v,Value.slice.injEq]at hrv
          obtain⟨rfl,rfl,rfl⟩:=hrv
          simp only [Hd.v]at e1 hsee
          cases hvv
          have i1:(0:Int)<=i:=by omega
          have HC:=hid (HPut.out wr _ _ hsee (by rw [HRi.out];omega) (ht.fr hf))
          generalize (prt++par)[i]=pj at *
          go_wp2_with fail
          refine HC.out.mono ?_
          rintro e w10 ⟨v10,rfl,own10,hf10⟩
          have hout10:=hout.fr hf10
          have hxo:(lay++putsL ((prt++par).take i)).length+(putB pj).length<=2147483648:=by
            rw [List.length_append,putB_len,HRi.out,HQl.out];omega
          have hsz10:b'+1<=w10.heap.size:=by
            have h1:=hf10.size
            have h2:b'<wr.heap.size:=lt_of_blk hZi hgb
            omega
          go_wp2_with (at_builtin;refine wpList_app eB rfl (.tmp 73) (.tmp 75) 27 rfl Tryz.underlying27 (b'+1) rfl hout10 _ _ rfl own10.see hxo hsz10 ?_)
          intro ov6 w11 hap
          have hne:∀ q,q<b'+1->u14.ownBlock≠some q:=fun q hq e=>by have:=(hout10.lt q e).1;omega
          have hZ11:w11.heap[b']? = w5.heap[b']?:=by
            rw [hap.chg.block b' (by omega) (fun e=>hne b' (by omega) e.symm),Below.block hf10 b' (lt_of_blk hZi hgb)]
            exact hZi
          have hB11:=hap.chg'.heap (hf10.heap hB) (fun e=>hne g (by omega) e)
          have hrow11:=(hrows.fr hf10).app hap
          have hown11:=own_app2 (hown.fr hf10) hout10 hap hT
          have hf11:Fr w w11:=hap.below hout10 (hf.trans hf10) (by omega) (hf.trans hf10).size
          go_wp2_with fail
          go_roundw
          case rel=>exact⟨i+1,by omega,by go_num,hZ11,by rw [HTk.out];first | exact hap.own | (rw [<- List.append_assoc];exact hap.own),hrow11,hown11,hB11,hf11⟩
          case measure=>simp [intOf];omega
        · obtain rfl:i=k+m:=by omega
          have hnj:¬(((k+m:Nat):Int)<((k+m:Nat):Int)):=by omega
          rw [List.take_of_length_le (by rw [HRl.out];exact Nat.le_refl _),<- HLay2.out]at hout
          clear hown hrows
          go_wp2_with (first | (refine wpList_load_row rfl 101 (.tmp 12) rfl g rfl 101 #[N k,N m,N c] (0,0) _ hB Tryz.underlying101 rfl hinf ?_))
          refine(HD.out _).mono ?_
          rintro e w12 ⟨rfl,hf12⟩
          go_wp2_with fail
          go_roundw
          case rel=>exact⟨s+1,n - d,off',cap',by omega,HN2.out,rfl,(Below.block hf12 b' (lt_of_blk hZi hgb)).trans hZi,by rw [HDr.out];exact hfrsee,hout.fr hf12,hf12.heap hB,hf.trans hf12⟩
          case measure=>simp only [sliceLen];omega
    · obtain rfl:s=sN:=by omega
      obtain rfl:n=0:=by rw [HN1.out,Nat.sub_self,Nat.zero_mul]
      go_wp2_with fail
      obtain⟨oa,oc,rfl⟩:=hout.shape'
      exact bodyPost_ret (v:=.tuple #[.slice oa (layL l k m c s).length oc,.int .i64 0]) (by simp [results,Tryz.results34,go_sem, *]) rfl ⟨_,rfl,by rw [HN.out];exact hout.rebase (by omega),hf⟩
def eHI:Elt Tryz.prog Hd:=⟨306,1,24,⟨none,0,0⟩,.slice none 0 0,fun h=>[h.v],by kernel_rfl,by decide,by decide,by simp [Value.cells],fun _=>rfl,by intro x u hu;simp at hu;subst hu;rfl⟩
def lenN(often:List Nat)(s:Nat):Nat:=
 if(usedL often).length=0 then 0
 else if(usedL often).length=1 then(if s=(usedL often).getD 0 0 then 1 else 0)
 else(symsI ((rowI (leavesL often (usedL often)) 14).take (2*(usedL often).length - 2))).count s
def cntB(L:Nat)(f:Nat->Nat):List UInt8:=(List.range L).map fun s=>UInt8.ofNat (f s)
def lensB(often:List Nat):List UInt8:=cntB often.length (lenN often)
theorem cntB_len(L:Nat)(f:Nat->Nat):(cntB L f).length=L:=by simp [cntB]
theorem cntB_zero(L:Nat):cntB L (fun _=>0)=List.replicate L (0:UInt8):=by
 apply List.ext_getElem
 · simp [cntB]
 · intro i h1 h2;simp [cntB]
theorem cntB_set(L:Nat)(f:Nat->Nat)(s c:Nat):(cntB L f).set s (UInt8.ofNat c)=cntB L (fun j=>if j=s then c else f j):=by
 apply List.ext_getElem?
 intro j
 by_cases hj:j<L
 · by_cases e:s=j
   · subst e;rw [List.getElem?_set_self (by rw [cntB_len];exact hj)];simp [cntB,hj]
   · rw [List.getElem?_set_ne e];simp [cntB,hj,Ne.symm e]
 · rw [List.getElem?_eq_none (by simp [cntB_len];omega),List.getElem?_eq_none (by rw [cntB_len];omega)]
theorem cntB_congr(L:Nat)(f f':Nat->Nat)(h:∀ s,f s=f' s):cntB L f=cntB L f':=by rw [show f=f' from funext h]
theorem u8_inc(c:Nat):IntKind.u8.wrap (((UInt8.ofNat c).toNat:Int)+1)=((UInt8.ofNat (c+1)).toNat:Int):=by
  rw [wrap_u8,UInt8.toNat_ofNat',UInt8.toNat_ofNat'];omega
theorem Lens_any (v : Value) (often : List Nat) (w : World) (hs : See w eV v often) (hn : often.length ≤ 300) (h32 : ∀ x ∈ often, x < 4294967296) :
    Calls Tryz.prog 157 #[v,N 15] w fun e w'=>∃ v,e=.returned (.tuple #[v,.int .i64 0])/\Ow w' w.heap.size eB v (lensB often)/\Fr w w':=by
  obtain⟨a,cap,rfl,hcap1,hcap2,hnone⟩:=hs.shape
  unfold maxLen at hcap2
  have HUs:=hid (used_any _ often w hs (by omega))
  have hul:(usedL often).length<=often.length:=by
    unfold usedL
    rw [(usedK_perm _ _ (symsU_up often)).length_eq];exact symsU_len often
  have hum:∀ s∈usedL often,s<often.length:=fun s h=>symsU_lt often s ((usedK_perm _ _ (symsU_up often)).mem_iff.1 h)
  have HB:Hid (lensB often=cntB often.length (lenN often)):=rfl
  have HLN : Hid (∀ s, lenN often s = if (usedL often).length = 0 then 0
    else if (usedL often).length = 1 then (if s = (usedL often).getD 0 0 then 1 else 0)
    else (symsI ((rowI (leavesL often (usedL often)) 14).take (2 * (usedL often).length - 2))).count s) := fun _ => rfl
  generalize lensB often=RB at *
  generalize lenN often=ln at *
  have HUM:=hid hum
  have hUL:=hid hul
  clear hul
  clear hum
  generalize usedL often=us at *
  have hL1:¬(300:Int)<often.length:=by omega
  have hL2:¬(32768:Int)<us.length:=by have:=hUL.out;omega
  have hmk:=made_run eB rfl rfl 27 Tryz.underlying27 .i64 .i64 often.length (by omega)
  go_enter Tryz.func157, Tryz.ntmps157
  go_wp2_with fail
  refine HUs.out.mono ?_
  rintro e w1 ⟨sv,rfl,hSy,hf1⟩
  obtain⟨sa,sc,rfl⟩:=hSy.shape'
  have HO1:=hid (made_own (base:=w.heap.size) eB rfl rfl often.length (by omega) w1 hf1.size)
  have HF2:Hid (Fr w1 (w1.alloc (.cells (madeCells #[eB.z] often.length) eB.e))):=(Fr.refl w1).alloc _
  have HB0:Hid ((w1.alloc (.cells (madeCells #[eB.z] often.length) eB.e)).heap[w1.heap.size]? = some (.cells (madeCells #[eB.z] often.length) 5 (0,0))):=heap_new _ _ _ rfl
  generalize hT0:madeCells #[eB.z] often.length=T0 at *
  clear hT0
  rw [show(eB:Elt Tryz.prog UInt8).e=5 from rfl]at HO1 HF2 HB0
  rw [show(eB:Elt Tryz.prog UInt8).e=5 from rfl]at hmk
  have hU:=hUL.out
  rcases Nat.lt_trichotomy us.length 1 with h0 | h1 | h2
  · obtain rfl:us=[]:=List.eq_nil_of_length_eq_zero (by omega)
    have HR:Hid (RB=List.replicate often.length (0:UInt8)):=by
      show _=_;rw [HB.out,<- cntB_zero];exact cntB_congr _ _ _ fun s=>by rw [HLN.out];rfl
    clear HB HLN
    go_wp2_with fail
    go_ret2
    exact⟨_,rfl,by rw [HR.out];exact HO1.out,hf1.trans HF2.out⟩
  · obtain⟨u0,rfl⟩:∃ u0,us=[u0]:=List.length_eq_one_iff.1 h1
    have hu0:=HUM.out u0 (by simp)
    have HR:Hid (RB=(List.replicate often.length (0:UInt8)).set u0 1):=by
      show _=_
      rw [HB.out,<- cntB_zero]
      have:=cntB_set often.length (fun _=>0) u0 1
      rw [show(1:UInt8)=UInt8.ofNat 1 from rfl,this]
      exact cntB_congr _ _ _ fun s=>by rw [HLN.out];rfl
    obtain⟨b,off,cp,hv2,c0⟩:=jAt (hSy.see.fr HF2.out) 0 (by simp)
    have hO1:=HO1.out
    obtain⟨d1,d2⟩:=hO1.cellAt (fun c=>Fk.u8 c) rfl u0 (by simpa using hu0)
    have hS1:=hO1.set (fun c=>Fk.u8 c) rfl u0 (by simpa using hu0) 1 (.int .u8 1) rfl
    have hF3:=set_below (i:=u0) (u:=.int .u8 1) (hf1.trans HF2.out) hf1.size ((hf1.trans HF2.out).size)
    rw [World.setCell_alloc_at (w:=w1) _ _ _ _ _ rfl]at hS1 hF3
    have HS:=hid hS1
    have HF3:=hid hF3
    clear hS1 hF3
    have hFF:=hf1.trans HF2.out
    cases hv2
    simp only [List.getElem_cons_zero,Nat.add_zero]at c0
    simp only [List.length_cons,List.length_nil,Nat.zero_add]at *
    have i1:(0:Int)<=u0:=by omega
    have i2:(u0:Int)<often.length:=by omega
    clear HB HLN hO1 HO1 HB0 HF2
    go_wp2_with fail
    go_ret2
    exact⟨_,rfl,by rw [HR.out];exact HS.out,HF3.out⟩
  · have hlv:=leavesL_len often us
    have hll:=leavesL_leaf often us
    have HEn:=hid (rowI_enough (leavesL often us) 14 (by rw [hlv];have:=hUL.out;omega))
    have HLn2:Hid (∀ s,ln s=dR (leavesL often us) 15 (2*us.length - 2) s):=fun s=>by
      rw [HLN.out,if_neg (by omega),if_neg (by omega),dR_all (leavesL often us) hll 14 _ s (by have:=HEn.out;rw [hlv]at this;exact this)]
    have HRm:=hid (leaves_room (leavesL often us) hll)
    have HLe:=hid (fun W (h1:See W eV (.slice a often.length cap) often) (h2:See W eJ (.slice sa us.length sc) us)=>leaves_any _ _ often us W h1 h2 (by omega) HUM.out h32)
    have HRl:=hid (fun r=>rowI_len (leavesL often us) r)
    have HSyms:Hid (∀ j (h:j<us.length),(leavesL often us)[j]?.map (·.syms)=some [us[j]]):=fun j h=>by rw [leavesL_at often us j h];rfl
    clear HLN
    have h2a:((us.length:Int) == 1)=false:=by simp;omega
    have h2b:¬(us.length:Int)<2:=by omega
    have h2c:¬us.length=1:=by omega
    have hL3:(leavesL often us).length<=300:=by omega
    have HLV:=hid hlv
    have HLL:=hid hll
    clear hlv hll
    generalize leavesL often us=lv at *
    have hseA:=hs.fr (hf1.trans HF2.out)
    have hseB:=hSy.see.fr HF2.out
    go_wp2_with fail
    refine(HLe.out _ hseA hseB).mono ?_
    rintro e w3 ⟨lv0,rfl,hLf,hf3⟩
    obtain⟨la,lc,rfl⟩:=hLf.shape'
    have HO3:=hid (HO1.out.fr hf3)
    have HS3:=hid ((hSy.fr HF2.out).fr hf3)
    have HF3:=hid ((hf1.trans HF2.out).trans hf3)
    clear hseA hseB HO1 hSy HLe HF2 hs HUs hmk
    go_wp2_with fail
    have HO4:=hid (own_lit (base:=w.heap.size) eHI w3 #[Value.slice la lv.length lc] [⟨la,lv.length,lc⟩] 1 rfl (by simp [maxLen]) HF3.out.size rfl)
    have hA4:Fr w3 (w3.alloc (.cells #[Value.slice la lv.length lc] 306)):=(Fr.refl w3).alloc _
    rw [show(eHI:Elt Tryz.prog Hd).e=306 from rfl]at HO4
    have HO5:=hid (HO3.out.fr hA4)
    have HS5:=hid (HS3.out.fr hA4)
    have HF5:=hid (HF3.out.trans hA4)
    have HL5:=hid ((hLf.rebase (hf1.trans ((Fr.refl w1).alloc (.cells T0 5))).size).fr hA4)
    clear HO3 HS3 HF3 hLf
    generalize w3.alloc (.cells #[Value.slice la lv.length lc] 306)=w4 at *
    clear hA4
    go_loopw [9] (fun rv wr=>∃ (hs:List Hd),1<=hs.length/\hs.length<=15/\Ow wr w.heap.size eHI rv hs/\Hid (∀ t (h:t<hs.length),Ow wr w.heap.size eIt hs[t].v (rowI lv t))/\Hid (Ow wr w.heap.size eIt (.slice la lv.length lc) lv)/\Hid (Ow wr w.heap.size eB (.slice (some ⟨w1.heap.size,0,none⟩) often.length often.length) (List.replicate often.length (0:UInt8)))/\Hid (Ow wr w.heap.size eJ (.slice sa us.length sc) us)/\Fr w wr) (fun rv _=>16 - sliceLen rv)
    case atStart => exact ⟨[⟨la, lv.length, lc⟩], by simp, by simp, HO4.out, fun t h => by
      obtain rfl : t = 0 := by simpa using h
      exact HL5.out, HL5.out, HO5.out, HS5.out, HF5.out⟩
    case round=>
      clear HO4 HO5 HS5 HF5 HL5
      obtain⟨hs,hh1,hh2,hRv,HRow,HLf,HOu,HSy,hfw⟩:=hrel
      obtain⟨ra,rc,hrv⟩:=hRv.shape'
      by_cases hlt:hs.length<15
      · have hlt':(hs.length:Int)<15:=by omega
        obtain⟨b,off,cp,hv2,c0⟩:=hRv.see.cell1 (fun h:Hd=>h.v) rfl (hs.length - 1) (by omega)
        rw [hrv]at hv2
        cases hv2
        have hwk:IntKind.i64.wrap ((hs.length:Int) - 1)=((hs.length - 1:Nat):Int):=by rw [IntWalk.i64_in _ (by omega)];omega
        have hRk:=HRow.out (hs.length - 1) (by omega)
        have HNx:=hid (next_any (.slice la lv.length lc) _ lv (rowI lv (hs.length - 1)) wr HLf.out.see hRk.see (by omega) (by have:=HRl.out (hs.length - 1);omega))
        have HRe:Hid (mergeI lv (pairsI (rowI lv (hs.length - 1)))=rowI lv hs.length):=by
          show _=_
          obtain⟨q,hq⟩:∃ q,hs.length=q+1:=⟨hs.length - 1,by omega⟩
          rw [hq];rfl
        rw [HRe.out]at HNx
        generalize hs[hs.length - 1]=hk at *
        have i1:(0:Int)<=((hs.length - 1:Nat):Int):=by omega
        have i2:((hs.length - 1:Nat):Int)<hs.length:=by omega
        have hll1:hs.length - 1<hs.length:=by omega
        have HHL:Hid (hs.length+1<=15):=hlt
        clear hRk
        subst hrv
        generalize hs.length - 1=k1 at *
        go_wp2_with fail
        refine HNx.out.mono ?_
        rintro e w5 ⟨nv,rfl,hN5,hf5⟩
        obtain⟨na,nc,rfl⟩:=hN5.shape'
        have hfw5:=hfw.trans hf5
        have hRv5:=hRv.fr hf5
        have HRow5:=hid (fun t (h:t<hs.length)=>(HRow.out t h).fr hf5)
        have HLf5:=hid (HLf.out.fr hf5)
        have HOu5:=hid (HOu.out.fr hf5)
        have HSy5:=hid (HSy.out.fr hf5)
        have HN5:=hid (hN5.rebase hfw.size)
        clear hRv HRow HLf HOu HSy hN5 hfw HNx HRe c0
        go_wp2_with (at_builtin;refine wpList_app1 eHI rfl (.tmp 57) (.tmp 66) 308 rfl Tryz.underlying308 w.heap.size rfl hRv5 [⟨na,(rowI lv hs.length).length,nc⟩] _ _ _ rfl rfl rfl (by simp;omega) hfw5.size ?_)
        intro v' w6 hap
        have hR6:=hap.own
        obtain⟨va,vc,hv'⟩:=hR6.shape'
        have HRow6:Hid (∀ t (h:t<(hs++[(⟨na,(rowI lv hs.length).length,nc⟩:Hd)]).length),Ow w6 w.heap.size eIt (hs++[(⟨na,(rowI lv hs.length).length,nc⟩:Hd)])[t].v (rowI lv t)):=fun t h=>by
          by_cases ht:t<hs.length
          · rw [List.getElem_append_left ht]
            exact own_app (HRow5.out t ht) hRv5 hap (by decide)
          · obtain rfl:t=hs.length:=by simp at h;omega
            rw [List.getElem_append_right (Nat.le_refl _)]
            simp only [Nat.sub_self,List.getElem_cons_zero]
            exact own_app HN5.out hRv5 hap (by decide)
        have HLf6:=hid (own_app HLf5.out hRv5 hap (by decide))
        have HOu6:=hid (own_app HOu5.out hRv5 hap (by decide))
        have HSy6:=hid (own_app HSy5.out hRv5 hap (by decide))
        subst hv'
        go_wp2_with fail
        go_roundw
        case rel=>exact⟨_,by simp,by simpa using HHL.out,hR6,HRow6,HLf6,HOu6,HSy6,hap.below hRv5 hfw5 (Nat.le_refl _) hfw5.size⟩
        case measure=>simp [sliceLen];omega
      · have h15:hs.length=15:=by omega
        have hlt':¬(hs.length:Int)<15:=by omega
        subst hrv
        generalize wr=wm at *
        have hg:w.heap.size<=w1.heap.size:=hf1.size
        -- what stays while bytes count
        have HStR:Hid (∀ W,Chg (fun k=>k=w1.heap.size) wm W->∀ t (h:t<hs.length),See W eIt hs[t].v (rowI lv t)):=fun W hc t h=>
          ((HRow.out t h).chg hc fun k hk e => by
            rw [e] at hk
            rcases own_ne (HRow.out t h) HOu.out (by decide) with h1 | h1
            · rw [h1] at hk; cases hk
            · exact h1 hk).see
        have HStS:Hid (∀ W,Chg (fun k=>k=w1.heap.size) wm W->See W eJ (.slice sa us.length sc) us):=fun W hc=>
          (HSy.out.chg hc fun k hk e => by
            rw [e] at hk
            rcases own_ne HSy.out HOu.out (by decide) with h1 | h1
            · rw [h1] at hk; cases hk
            · exact h1 hk).see
        have HStV:Hid (∀ W,Chg (fun k=>k=w1.heap.size) wm W->See W eHI (.slice ra hs.length rc) hs):=fun W hc=>
          (hRv.chg hc fun k hk e => by
            rw [e] at hk
            rcases own_ne hRv HOu.out (by decide) with h1 | h1
            · rw [h1] at hk; cases hk
            · exact h1 hk).see
        have hO0:=HOu.out
        rw [<- cntB_zero]at hO0
        have hTk:2*us.length - 2<=(rowI lv 14).length:=by have:=HEn.out;rw [HLV.out]at this;exact this
        have HTk:=hid hTk
        have HRoom:=hid (fun q t h=>leaves_room lv HLL.out q t h)
        have hw2u:IntKind.i64.wrap (2*(us.length:Int))=((2*us.length:Nat):Int):=by rw [IntWalk.i64_in _ (by have:=hUL.out;omega)];omega
        have hw2m:IntKind.i64.wrap (((2*us.length:Nat):Int) - 2)=((2*us.length - 2:Nat):Int):=by rw [IntWalk.i64_in _ (by have:=hUL.out;omega)];omega
        have hul':us.length<=often.length:=hUL.out
        clear hTk HRow HLf HOu HSy HRm
        generalize 2*us.length - 2=t0 at *
        generalize 2*us.length=t1 at *
        go_wp2_with fail
        go_loopw [10,11] (fun tv rv wr=>∃ (q t:Nat) (cF:Nat->Nat),q<=15/\rv=.int .i64 ((q:Int) - 1)/\tv=N t/\t<=1200/\Hid (0<q->t<=(rowI lv (q - 1)).length)/\Ow wr w.heap.size eB (.slice (some ⟨w1.heap.size,0,none⟩) often.length often.length) (cntB often.length cF)/\Hid (∀ s,ln s=cF s+dR lv q t s)/\Chg (fun k=>k=w1.heap.size) wm wr) (fun _ rv _=>(intOf rv+1).toNat)
        case atStart=>exact⟨15,t0,fun _=>0,Nat.le_refl _,by first | rfl | (rw [h15];rfl),by first | rfl | go_num,by have h1:=HTk.out;have h2:=HRl.out 14;omega,fun _=>HTk.out,hO0,fun s=>by rw [Nat.zero_add];exact HLn2.out s,Chg.refl _ _⟩
        case round=>
          clear hO0
          obtain⟨q,t,cF,hq,rfl,rfl,ht,HT,hO,HF,hc⟩:=hrel
          rcases Nat.eq_zero_or_pos q with rfl | hp
          · have hnl:¬(0:Int)<=((0:Nat):Int) - 1:=by omega
            have HE:Hid (RB=cntB often.length cF):=by
              show _=_;rw [HB.out];exact cntB_congr _ _ _ fun s=>by rw [HF.out s];simp [dR]
            clear HT HF
            go_wp2_with fail
            go_ret2
            exact⟨_,rfl,by rw [HE.out];exact hO,Chg.below hfw hc hfw.size (fun i hi=>by rw [hi];exact hg)⟩
          · obtain⟨r,rfl⟩:∃ r,q=r+1:=⟨q - 1,by omega⟩
            have htr:=HT.out hp
            simp only [Nat.add_sub_cancel]at htr
            have er:((r+1:Nat):Int) - 1=(r:Int):=by omega
            rw [er]
            have hr0:(0:Int)<=(r:Int):=by omega
            have hr15:r<hs.length:=by omega
            have hr15':(r:Int)<hs.length:=by omega
            have hwr:IntKind.i64.wrap ((r:Int) - 1)=(r:Int) - 1:=IntWalk.i64_in _ (by omega)
            obtain⟨b,off,cp,hv2,c0⟩:=(HStV.out _ hc).cell1 (fun h:Hd=>h.v) rfl r hr15
            cases hv2
            have hSr:=HStR.out _ hc r hr15
            obtain⟨xa,xc,hxv,hx1,hx2,_⟩:=hSr.shape
            rw [hxv]at c0 hSr
            obtain⟨hrun,hSt⟩:=run_to eIt 306 Tryz.underlying306 hSr t htr
            have HRun:=hid hrun
            have hRm:=HRoom.out r t htr
            have HTb:Hid (t<=600):=by show _<=_;have:=HRl.out r;omega
            have HDr:Hid (∀ s,ln s=cF s+((symsI (lv.take (leavesN ((rowI lv r).take t)))).count s+dR lv r (2*(t - leavesN ((rowI lv r).take t))) s)):=fun s=>HF.out s
            have HSr2:Hid (∀ W,Chg (fun k=>k=w1.heap.size) wm W->See W eIt (.slice xa t xc) ((rowI lv r).take t)):=fun W h=>by
              have:=HStR.out W h r hr15
              rw [hxv]at this
              exact(run_to eIt 306 Tryz.underlying306 this t htr).2
            clear hxv hSr hSt HT HF er
            have hlr:((rowI lv r).take t).length=t:=by rw [List.length_take];omega
            generalize hrow:(rowI lv r).take t=rw0 at *
            have hlr2:=hlr
            have HLR:=hid hlr2
            have hxc:t<=xc:=by omega
            clear hlr hlr2 htr hrow
            go_wp2_with fail
            generalize wr=wq at *
            go_loopw [12,86] (fun nv jv wr=>∃ (j:Nat) (cG:Nat->Nat),j<=t/\jv=N j/\nv=N (leavesN (rw0.take j))/\Ow wr w.heap.size eB (.slice (some ⟨w1.heap.size,0,none⟩) often.length often.length) (cntB often.length cG)/\Hid (∀ s,cG s=cF s+(symsI (lv.take (leavesN (rw0.take j)))).count s)/\Chg (fun k=>k=w1.heap.size) wm wr) (fun _ jv _=>t - (intOf jv).toNat)
            case atStart=>exact⟨0,cF,Nat.zero_le _,rfl,rfl,hO,fun s=>by simp [leavesN,symsI],hc⟩
            case round=>
              clear hO hc
              obtain⟨j,cG,hj,rfl,rfl,hO,HG,hc⟩:=hrel
              by_cases hjt:j<t
              · have hjt':(j:Int)<t:=by omega
                have hjl:j<rw0.length:=by rw [HLR.out];exact hjt
                obtain⟨b2,off2,cp2,hv3,c1,c2⟩:=itAt (HSr2.out _ hc) j hjl
                rw [HLR.out]at hv3
                cases hv3
                have HN1:=hid (leavesN_snoc rw0 j hjl)
                have HMo:=hid (leavesN_mono rw0 (j+1) t (by omega))
                rw [show rw0.take t=rw0 by rw [<- HLR.out,List.take_length]]at HMo
                generalize rw0[j]=x at *
                have i1:(0:Int)<=j:=by omega
                have hA:Fr wr (wr.alloc (.cells #[.int .u64 (x.w.toNat:Int),.bool x.leaf] 311)):=(Fr.refl wr).alloc _
                have hB:(wr.alloc (.cells #[.int .u64 (x.w.toNat:Int),.bool x.leaf] 311)).heap[wr.heap.size]? = some (.cells #[.int .u64 (x.w.toNat:Int),.bool x.leaf] 311 (0,0)):=heap_new _ _ _ rfl
                have c3:(wr.alloc (.cells #[.int .u64 (x.w.toNat:Int),.bool x.leaf] 311)).cell? ⟨wr.heap.size,1,none⟩=some (.bool x.leaf):=by rw [cell_of_heap hB];rfl
                clear hB
                have hO2:=hO.fr hA
                have hc2:=hc.trans (hA.chg (fun k=>k=w1.heap.size)) (fun _ _ h=>h)
                clear hO hc hA
                go_upto_region 23 with fail
                generalize wr.alloc (.cells #[.int .u64 (x.w.toNat:Int),.bool x.leaf] 311)=wx at *
                by_cases hlf:x.leaf=true
                · rw [if_pos hlf]at HN1
                  have hnl:leavesN (rw0.take j)<us.length:=by have h1:=HMo.out;have h2:=hRm.2.1;have h3:=HN1.out;have h4:=HLV.out;omega
                  obtain⟨b4,off4,cp4,hv4,c4⟩:=jAt (HStS.out _ hc2) (leavesN (rw0.take j)) hnl
                  cases hv4
                  have hsyb:=HUM.out _ (List.getElem_mem hnl)
                  have HSm:Hid (∀ s,(symsI (lv.take (leavesN (rw0.take j)+1))).count s=(symsI (lv.take (leavesN (rw0.take j)))).count s+if us[leavesN (rw0.take j)]=s then 1 else 0):=fun s=>by
                    have h1:=HSyms.out _ hnl
                    have hlt2:leavesN (rw0.take j)<lv.length:=by rw [HLV.out];exact hnl
                    rw [List.getElem?_eq_getElem hlt2]at h1
                    rw [symsI_snoc lv _ hlt2 _ (Option.some.inj h1),List.count_append,List.count_singleton]
                    simp
                  have HN2:Hid (leavesN (rw0.take (j+1))=leavesN (rw0.take j)+1):=HN1.out
                  generalize us[leavesN (rw0.take j)]=sy at *
                  generalize leavesN (rw0.take j)=nn at *
                  have hcl:=cntB_len often.length cG
                  obtain⟨d1,d2⟩:=hO2.cellAt (fun c=>Fk.u8 c) rfl sy (by rw [hcl];exact hsyb)
                  have hcat:(cntB often.length cG)[sy]'(by rw [hcl];exact hsyb)=UInt8.ofNat (cG sy):=by simp [cntB]
                  rw [hcat]at d1
                  replace d1:wx.cell? ⟨w1.heap.size,sy,none⟩=some (.int .u8 ((UInt8.ofNat (cG sy)).toNat:Int)):=d1
                  have hinc:=u8_inc (cG sy)
                  have HSt:=hid (hO2.set (fun c=>Fk.u8 c) rfl sy (by rw [hcl];exact hsyb) (UInt8.ofNat (cG sy+1)) (.int .u8 ((UInt8.ofNat (cG sy+1)).toNat:Int)) rfl)
                  rw [cntB_set]at HSt
                  have HG2:Hid (∀ s,(if s=sy then cG sy+1 else cG s)=cF s+(symsI (lv.take (nn+1))).count s):=fun s=>by
                    rw [HSm.out s]
                    by_cases e:s=sy
                    · subst e;rw [if_pos rfl,if_pos rfl,HG.out s];omega
                    · rw [if_neg e,if_neg (Ne.symm e),HG.out s];omega
                  have hcx:=UInt8.toNat_lt (UInt8.ofNat (cG sy))
                  clear HG HSm hcat hcl
                  have i2:(0:Int)<=nn:=by omega
                  have i3:(nn:Int)<us.length:=by omega
                  have i4:(0:Int)<=sy:=by omega
                  have i5:(sy:Int)<often.length:=by omega
                  have hnw:IntKind.i64.wrap ((nn:Int)+1)=((nn+1:Nat):Int):=by rw [IntWalk.i64_in _ (by have:=hUL.out;omega)];omega
                  rw [hlf]at c3
                  generalize (UInt8.ofNat (cG sy)).toNat=cv0 at *
                  generalize (UInt8.ofNat (cG sy+1)).toNat=cv1 at *
                  go_wp2_with fail
                  go_roundw
                  case rel=>exact⟨j+1,(fun s=>if s=sy then cG sy+1 else cG s),by omega,by go_num,by rw [HN2.out];first | rfl | go_num,HSt.out,by rw [HN2.out];exact HG2.out,hc2.trans (setCell_chg wx _ _) (fun _ _ h=>h)⟩
                  case measure=>simp [intOf];omega
                · have hlf2:x.leaf=false:=by simpa using hlf
                  rw [if_neg hlf,Nat.add_zero]at HN1
                  rw [hlf2]at c3
                  go_wp2_with fail
                  go_roundw
                  case rel=>exact⟨j+1,cG,by omega,by go_num,by rw [HN1.out];exact rfl,hO2,by rw [HN1.out];exact HG.out,hc2⟩
                  case measure=>simp [intOf];omega
              · obtain rfl:j=t:=by omega
                have hnl:¬((j:Int)<j):=by omega
                have hrt:rw0.take j=rw0:=by rw [<- HLR.out,List.take_length]
                rw [hrt]at HG ⊢
                have h1:=hRm.1
                have h2:=hRm.2.2
                generalize leavesN rw0=nn at *
                have hw3:IntKind.i64.wrap ((j:Int) - nn)=((j - nn:Nat):Int):=by rw [IntWalk.i64_in _ (by omega)];omega
                have hw4:IntKind.i64.wrap (2*((j - nn:Nat):Int))=((2*(j - nn):Nat):Int):=by rw [IntWalk.i64_in _ (by omega)];omega
                have HF2:Hid (∀ s,ln s=cG s+dR lv r (2*(j - nn)) s):=fun s=>by rw [HDr.out s,HG.out s];omega
                have H2:=hid h2
                have hb3:2*(j - nn)<=1200:=by
                  rcases Nat.eq_zero_or_pos r with e | e
                  · have:=HRl.out 0;subst e;have h4:=HLR.out;have h5:=HTb.out;omega
                  · have:=h2 e;have h6:=HRl.out (r - 1);omega
                clear HG HDr hRm h2
                generalize 2*(j - nn)=t2 at *
                generalize j - nn=t3 at *
                go_wp2_with fail
                go_roundw
                case rel=>exact⟨r,t2,cG,by omega,by first | rfl | go_num,by first | rfl | go_num,hb3,H2.out,hO,HF2,hc⟩
                case measure=>simp [intOf]
theorem downI_le(lv:List It)(s:Nat):∀ r t,downI lv r t s<=(r+1)*(symsI lv).count s:=by
 have ht:∀ k,(symsI (lv.take k)).count s<=(symsI lv).count s:=fun k=>by
  conv=>rhs;rw [<- List.take_append_drop k lv,symsI_app,List.count_append]
  omega
 intro r
 induction r with
 | zero=>intro t;have:=ht (leavesN ((rowI lv 0).take t));rw [downI];omega
 | succ r ih=>
  intro t
  rw [downI]
  have h1:=ht (leavesN ((rowI lv (r+1)).take t))
  have h2:=ih (2*(t - leavesN ((rowI lv (r+1)).take t)))
  rw [Nat.add_mul (r+1) 1];omega
theorem symsI_leaves(often:List Nat):∀ l:List Nat,symsI (leavesL often l)=l:=by
 intro l
 induction l with
 | nil=>rfl
 | cons x l ih=>
  show symsI (_::leavesL often l)=_
  rw [symsI_cons,ih];rfl
theorem symsU_rise(often:List Nat):(symsU often).Pairwise (·<·):=by
 unfold symsU
 exact List.pairwise_lt_range.filter _
theorem lenN_le(often:List Nat)(s:Nat):lenN often s<=15:=by
 unfold lenN
 split
 · omega
 · split
   · split <;> omega
   · have hc:(usedL often).count s<=1:=by
       have hp:=usedK_perm (fun s=>often.getD s 0) (symsU often) (symsU_rise often)
       unfold usedL
       rw [hp.count_eq]
       exact List.nodup_iff_count.1 ((symsU_rise often).imp fun {a b} h e=>by omega) s
     generalize 2*(usedL often).length - 2=t
     have hl:=leavesL_leaf often (usedL often)
     have e:(rowI (leavesL often (usedL often)) 14).take t=(rowI (leavesL often (usedL often)) 14).take (min t (rowI (leavesL often (usedL often)) 14).length):=by
      rcases Nat.le_total t (rowI (leavesL often (usedL often)) 14).length with h | h
      · rw [Nat.min_eq_left h]
      · rw [Nat.min_eq_right h,List.take_of_length_le h,List.take_length]
     rw [e,down_eq _ hl s 14 _ (Nat.min_le_right _ _)]
     have:=downI_le (leavesL often (usedL often)) s 14 (min t (rowI (leavesL often (usedL often)) 14).length)
     rw [symsI_leaves]at this
     omega
theorem lensB_len(often:List Nat):(lensB often).length=often.length:=cntB_len _ _
theorem lensB_15(often:List Nat):∀ c∈lensB often,c.toNat<=15:=by
 intro c hc
 unfold lensB cntB at hc
 obtain⟨s,_,rfl⟩:=List.mem_map.1 hc
 have:=lenN_le often s
 rw [UInt8.toNat_ofNat'];omega
theorem us_nodup(often:List Nat):(usedL often).Nodup:=by
 have hp:=usedK_perm (fun s=>often.getD s 0) (symsU often) (symsU_rise often)
 exact hp.nodup_iff.2 ((symsU_rise often).imp fun h=>by omega)
theorem us_mem(often:List Nat)(s:Nat):s∈usedL often↔s<often.length/\0<often.getD s 0:=by
 have hp:=usedK_perm (fun s=>often.getD s 0) (symsU often) (symsU_rise often)
 unfold usedL
 rw [hp.mem_iff]
 unfold symsU
 rw [List.mem_filter,List.mem_range,decide_eq_true_eq]
theorem leaves_take(often l:List Nat)(k:Nat):(leavesL often l).take k=leavesL often (l.take k):=by
 unfold leavesL;rw [List.map_take]
theorem count_take{l:List Nat}(h:l.Nodup)(i k:Nat)(hi:i<l.length):(l.take k).count l[i]=if i<k then 1 else 0:=by
 have h1:=List.nodup_iff_count.1 h l[i]
 have h2:∀ x,(l.take k).count x+(l.drop k).count x=l.count x:=fun x=>by rw [<- List.count_append,List.take_append_drop]
 have h2:=h2 l[i]
 by_cases hk:i<k
 · rw [if_pos hk]
   have:0<(l.take k).count l[i]:=List.count_pos_iff.2 (List.mem_take_iff_getElem.2 ⟨i,by omega,rfl⟩)
   omega
 · rw [if_neg hk]
   have:0<(l.drop k).count l[i]:=List.count_pos_iff.2 (List.mem_of_getElem? (i:=i - k) (by rw [List.getElem?_drop,show k+(i - k)=i by omega,List.getElem?_eq_getElem hi]))
   omega
theorem down_dI(often us:List Nat)(hnd:us.Nodup)(i:Nat)(hi:i<us.length):∀ r t,downI (leavesL often us) r t us[i]=dI (leavesL often us) i r t:=by
 intro r
 induction r with
 | zero=>intro t;rw [downI,dI,leaves_take,symsI_leaves,count_take hnd];rfl
 | succ r ih=>intro t;rw [downI,dI,leaves_take,symsI_leaves,count_take hnd,ih];rfl
theorem getD_32(often:List Nat)(h:∀ x∈often,x<4294967296)(s:Nat):often.getD s 0<4294967296:=by
 rw [List.getD_eq_getElem?_getD]
 cases e:often[s]? with
 | none=>simp
 | some x=>exact h x (List.mem_of_getElem? e)
theorem lv_w(n:Nat)(h:n<4294967296):(UInt64.ofNat n).toNat=n:=by
 rw [UInt64.toNat_ofNat'];omega
theorem lv_sorted(often:List Nat)(h:∀ x∈often,x<4294967296):SortW (leavesL often (usedL often)):=by
 unfold SortW leavesL
 rw [List.pairwise_map]
 refine List.Pairwise.imp ?_ (usedK_srt (fun s=>often.getD s 0) (symsU often) (symsU_rise often))
 intro a b hab
 show(UInt64.ofNat (often.getD a 0)).toNat<=(UInt64.ofNat (often.getD b 0)).toNat
 rw [lv_w _ (getD_32 often h a),lv_w _ (getD_32 often h b)]
 unfold ltK at hab
 rcases hab with h1 | h1
 · exact Nat.le_of_lt h1
 · exact Nat.le_of_eq h1.1
theorem lv_low(often:List Nat)(h:∀ x∈often,x<4294967296):∀ x∈leavesL often (usedL often),x.w.toNat<=4294967296:=by
 intro x hx
 obtain⟨s,_,rfl⟩:=List.mem_map.1 hx
 show(UInt64.ofNat (often.getD s 0)).toNat<=_
 rw [lv_w _ (getD_32 often h s)]
 exact Nat.le_of_lt (getD_32 often h s)
theorem lv_len(often l:List Nat):(leavesL often l).length=l.length:=by simp [leavesL]
theorem lenN_at(often:List Nat)(h2:2<=(usedL often).length)(hm:(usedL often).length<=32768)(i:Nat)(hi:i<(usedL often).length) :
  lenN often (usedL often)[i]=dI (leavesL often (usedL often)) i 14 (2*(usedL often).length - 2):=by
 have hr:=rowI_enough (leavesL often (usedL often)) 14 (by rw [lv_len];exact hm)
 rw [lv_len]at hr
 unfold lenN
 rw [if_neg (by omega),if_neg (by omega),down_eq _ (leavesL_leaf often _) _ 14 _ hr]
 exact down_dI often _ (us_nodup often) i hi 14 _
theorem lenN_off(often:List Nat)(s:Nat)(hs:¬s∈usedL often):lenN often s=0:=by
 unfold lenN
 split
 · rfl
 · split
   · rename_i h0 h1
     rw [if_neg]
     intro e
     apply hs
     rw [e,List.getD_eq_getElem?_getD,List.getElem?_eq_getElem (by omega)]
     exact List.getElem_mem _
   · have hl:=leavesL_leaf often (usedL often)
     generalize 2*(usedL often).length - 2=t
     have e:(rowI (leavesL often (usedL often)) 14).take t=(rowI (leavesL often (usedL often)) 14).take (min t (rowI (leavesL often (usedL often)) 14).length):=by
      rcases Nat.le_total t (rowI (leavesL often (usedL often)) 14).length with h | h
      · rw [Nat.min_eq_left h]
      · rw [Nat.min_eq_right h,List.take_of_length_le h,List.take_length]
     rw [e,down_eq _ hl s 14 _ (Nat.min_le_right _ _)]
     have:=downI_le (leavesL often (usedL often)) s 14 (min t (rowI (leavesL often (usedL often)) 14).length)
     rw [symsI_leaves,List.count_eq_zero.2 hs]at this
     omega
theorem kraft_D(often:List Nat)(h:∀ x∈often,x<4294967296)(h2:2<=(usedL often).length)(hm:(usedL often).length<=32768) :
  ((List.range (usedL often).length).map fun i=>2 ^ (15 - dI (leavesL often (usedL often)) i 14 (2*(usedL often).length - 2))).sum=2 ^ 15:=by
 have hr:=rowI_enough (leavesL often (usedL often)) 14 (by rw [lv_len];exact hm)
 have hmo:=mono_I (leavesL often (usedL often)) 4294967296 14 (leavesL_leaf often _) (lv_sorted often h) (lv_low often h) (by decide)
 have:=kraft_I (leavesL often (usedL often)) (leavesL_leaf often _) 14 hmo (by rw [lv_len];omega) hr
 rw [lv_len]at this
 exact this
theorem sum_mem_le(l:List Nat)(x:Nat)(h:x∈l):x<=l.sum:=by
 induction l with
 | nil=>cases h
 | cons y l ih=>
  rw [List.sum_cons]
  rcases List.mem_cons.1 h with rfl | h
  · omega
  · have:=ih h;omega
theorem sum_two_le(f:Nat->Nat)(n i:Nat)(hn:2<=n)(hi:i<n)(h:∀ j,1<=f j):f i+1<=((List.range n).map f).sum:=by
 induction n with
 | zero=>omega
 | succ n ih=>
  rw [List.range_succ,List.map_append,List.sum_append]
  simp only [List.map_cons,List.map_nil,List.sum_cons,List.sum_nil,Nat.add_zero]
  by_cases e:i=n
  · subst e
    have h1:f 0<=((List.range i).map f).sum:=sum_mem_le _ _ (List.mem_map.2 ⟨0,List.mem_range.2 (by omega),rfl⟩)
    have:=h 0
    omega
  · have h1:f i<=((List.range n).map f).sum:=sum_mem_le _ _ (List.mem_map.2 ⟨i,List.mem_range.2 (by omega),rfl⟩)
    have:=h n
    omega
theorem dI_pos(often:List Nat)(h:∀ x∈often,x<4294967296)(h2:2<=(usedL often).length)(hm:(usedL often).length<=32768)(i:Nat)(hi:i<(usedL often).length) :
  1<=dI (leavesL often (usedL often)) i 14 (2*(usedL often).length - 2):=by
 have h1:=kraft_D often h h2 hm
 have h3:=sum_two_le (fun i=>2 ^ (15 - dI (leavesL often (usedL often)) i 14 (2*(usedL often).length - 2))) _ i h2 hi (fun j=>Nat.two_pow_pos _)
 rw [h1]at h3
 rcases Nat.eq_zero_or_pos (dI (leavesL often (usedL often)) i 14 (2*(usedL often).length - 2))with e | e
 · rw [e]at h3;omega
 · exact e
theorem lenN_pos(often:List Nat)(h:∀ x∈often,x<4294967296)(hm:(usedL often).length<=32768)(s:Nat)(hs:s∈usedL often):1<=lenN often s:=by
 obtain⟨i,hi,rfl⟩:=List.getElem_of_mem hs
 by_cases h2:2<=(usedL often).length
 · rw [lenN_at often h2 hm i hi];exact dI_pos often h h2 hm i hi
 · have h1:(usedL often).length=1:=by omega
   unfold lenN
   rw [if_neg (by omega),if_pos h1,if_pos]
   · exact Nat.le_refl _
   · have e:i=0:=by omega
     subst e
     rw [List.getD_eq_getElem?_getD,List.getElem?_eq_getElem hi];rfl
theorem sum_filter(p:Nat->Bool)(g:Nat->Nat)(l:List Nat)(h:∀ s∈l,p s=false->g s=0):(l.map g).sum=((l.filter p).map g).sum:=by
 induction l with
 | nil=>rfl
 | cons x l ih=>
  rw [List.map_cons,List.sum_cons,ih fun s hs=>h s (by simp [hs]),List.filter_cons]
  cases e:p x with
  | true=>rw [if_pos rfl,List.map_cons,List.sum_cons]
  | false=>rw [if_neg (by simp),h x (by simp) e,Nat.zero_add]
theorem sum_used(often:List Nat)(g:Nat->Nat)(h:∀ s,¬s∈usedL often->g s=0):((List.range often.length).map g).sum=((usedL often).map g).sum:=by
 have hp:=usedK_perm (fun s=>often.getD s 0) (symsU often) (symsU_rise often)
 rw [sum_filter (fun s => decide (0 < often.getD s 0)) g (List.range often.length) fun s hs hd => h s fun hu => by
  have := (us_mem often s).1 hu
  rw [decide_eq_false_iff_not] at hd
  exact hd this.2]
 exact((hp.map g).sum_nat).symm
theorem len_u8(often:List Nat)(s:Nat):(UInt8.ofNat (lenN often s)).toNat=lenN often s:=by
 have:=lenN_le often s
 rw [UInt8.toNat_ofNat'];omega
theorem len_zero(often:List Nat)(s:Nat):UInt8.ofNat (lenN often s)=0↔lenN often s=0:=by
 have h:=len_u8 often s
 constructor
 · intro e
   rw [e]at h
   exact h.symm
 · intro e;rw [e];rfl
theorem kraft_lens(often:List Nat):kraftK (lensB often)=((List.range often.length).map fun s=>if lenN often s=0 then 0 else 2 ^ (15 - lenN often s)).sum:=by
 unfold kraftK lensB cntB
 rw [List.map_map]
 congr 1
 apply List.map_congr_left
 intro s _
 show(if UInt8.ofNat (lenN often s)=0 then 0 else 2 ^ (15 - (UInt8.ofNat (lenN often s)).toNat))=_
 rw [len_u8]
 by_cases e:lenN often s=0
 · rw [if_pos e,if_pos ((len_zero often s).2 e)]
 · rw [if_neg e,if_neg fun h=>e ((len_zero often s).1 h)]
theorem countP_sum(p:Nat->Bool)(l:List Nat):l.countP p=(l.map fun s=>if p s=true then 1 else 0).sum:=by
 induction l with
 | nil=>rfl
 | cons x l ih=>rw [List.countP_cons,List.map_cons,List.sum_cons,ih,Nat.add_comm]
theorem lensB_ok(often:List Nat)(h:∀ x∈often,x<4294967296)(hm:(usedL often).length<=32768):okK (lensB often)=true:=by
 unfold okK
 rw [Bool.or_eq_true,Bool.or_eq_true,Bool.and_eq_true,decide_eq_true_eq,decide_eq_true_eq,decide_eq_true_eq,decide_eq_true_eq]
 by_cases h2:2<=(usedL often).length
 · refine .inl (.inr ?_)
   rw [kraft_lens,sum_used often _ fun s hs=>by rw [if_pos (lenN_off often s hs)]]
   have h1:=kraft_D often h h2 hm
   refine Eq.trans (congrArg List.sum ?_) h1
   apply List.ext_getElem
   · simp
   · intro i hi1 hi2
     have hi:i<(usedL often).length:=by simpa using hi1
     rw [List.getElem_map,List.getElem_map,List.getElem_range,lenN_at often h2 hm i hi,if_neg]
     have:=dI_pos often h h2 hm i hi
     omega
 · by_cases h1:(usedL often).length=1
   · refine .inr ?_
     obtain⟨u,hu⟩:=List.length_eq_one_iff.1 h1
     have hl:∀ s,lenN often s=if s=u then 1 else 0:=fun s=>by
      unfold lenN
      rw [if_neg (by omega),if_pos h1,hu]
      rfl
     have hmem:u∈usedL often:=by rw [hu];simp
     have hs:=sum_used often (fun s=>if s=u then 1 else 0) fun s hs=>by
      rw [if_neg];intro e;exact hs (by rw [e];exact hmem)
     rw [hu]at hs
     have hs1:((List.range often.length).map fun s=>if s=u then 1 else 0).sum=1:=by rw [hs];simp
     constructor
     · unfold wordsK lensB cntB
       rw [List.countP_map,countP_sum]
       refine Eq.trans (congrArg List.sum (List.map_congr_left fun s _=>?_)) hs1
       show(if(UInt8.ofNat (lenN often s) != 0)=true then 1 else 0)=_
       rw [hl s]
       by_cases e:s=u
       · rw [if_pos e];rfl
       · rw [if_neg e];rfl
     · unfold cntK lensB cntB
       rw [List.countP_map,countP_sum]
       refine Eq.trans (congrArg List.sum (List.map_congr_left fun s _=>?_)) hs1
       show(if((UInt8.ofNat (lenN often s)).toNat == 1)=true then 1 else 0)=_
       rw [hl s]
       by_cases e:s=u
       · rw [if_pos e];rfl
       · rw [if_neg e];rfl
   · refine .inl (.inl ?_)
     have h0:usedL often=[]:=List.length_eq_zero_iff.1 (by omega)
     unfold wordsK lensB cntB
     rw [List.countP_eq_zero]
     intro c hc
     obtain⟨s,_,rfl⟩:=List.mem_map.1 hc
     rw [lenN_off often s (by rw [h0];simp)]
     decide
theorem lensB_sym(often:List Nat)(h:∀ x∈often,x<4294967296)(hm:(usedL often).length<=32768)(s:Nat)(hl:s<often.length)(h0:0<often.getD s 0):(lensB often)[s]'(by rw [lensB_len];exact hl)≠0:=by
 have hp:=lenN_pos often h hm s ((us_mem often s).2 ⟨hl,h0⟩)
 unfold lensB cntB
 rw [List.getElem_map,List.getElem_range]
 intro e
 have:=(len_zero often s).1 e
 omega
theorem us_len(often:List Nat):(usedL often).length<=often.length:=by
 have hp:=usedK_perm (fun s=>often.getD s 0) (symsU often) (symsU_rise often)
 unfold usedL
 rw [hp.length_eq]
 unfold symsU
 have:=List.length_filter_le (fun s=>decide (0<often.getD s 0)) (List.range often.length)
 simpa using this
def ValO(w:World)(base:Nat)(ms:List ItM):Prop:=∀ m∈ms,Ow w base eJ m.hd.v m.it.syms
theorem ValO.fr{w w':World}{base:Nat}{ms:List ItM}(h:ValO w base ms)(hf:Fr w w'):ValO w' base ms:=fun m hm=>(h m hm).fr hf
theorem ValO.rebase{w:World}{base b:Nat}{ms:List ItM}(h:ValO w base ms)(hb:b<=base):ValO w b ms:=fun m hm=>(h m hm).rebase hb
def usedTo(often:List Nat)(k:Nat):List Nat:=(symsTo often k).foldl (putK fun s=>often.getD s 0) []
def archL(sz:Nat)(p:Bool)(bu d q c:Nat)(b:List UInt8):List UInt8:=
 putB (headL sz p bu d q c b.length)++layL b d q c (strN d c b.length)++putB (headL sz p bu d q c b.length)
theorem Archive_any(g sz bu d q c n:Nat)(p:Bool){xv:Value}(v:Value)(l:List UInt8)(w:World)(hg:w.heap[g]? = some (hdB sz p bu d q c n xv))(hs:See w eB v l)(ht:Crc w)(h1:sz<=32768)(h2:bu<256)(h3:d<256)(h4:q<256)(h5:c<=4096)(h6:n<=1000000)(hl:l.length<=20000000) :
  Calls Tryz.prog 35 #[.pointer (some ⟨g,0,none⟩),v] w fun e w'=>∃ v,e=.returned v/\Ow w' w.heap.size eB v (putB (headL sz p bu d q c n)++l++putB (headL sz p bu d q c n))/\Fr w w':=by
 have HB:=hid (fun W (h:Fr w W)=>HBytes_any g sz bu d q c n p W (h.heap hg) (ht.fr h) h1 h2 h3 h4 h5 h6)
 have hlh:=putB_len (headL sz p bu d q c n)
 rw [headL_len]at hlh
 have Hl:=hid hlh
 have HA:=hid (fun W va vc (ha:See W eB va (putB (headL sz p bu d q c n))) (hb:See W eB v l) (hc:See W eB vc (putB (headL sz p bu d q c n)))=>all3_big va v vc _ l _ W ha hb hc (by omega))
 clear hlh
 obtain⟨a0,cap,hv,hcap1,hcap2,hnone⟩:=hs.shape
 have HS:=hid (fun W (h:Fr w W)=>hs.fr h)
 subst hv
 clear hs hnone ht hg
 generalize putB (headL sz p bu d q c n)=H at *
 go_enter Tryz.func35, Tryz.ntmps35
 go_wp2_with fail
 refine(HB.out _ (Fr.refl w)).mono ?_
 rintro e w1 ⟨v1,rfl,hA1,hf1⟩
 obtain⟨p1,z1,rfl⟩:=hA1.shape'
 go_wp2_with fail
 refine(HB.out _ hf1).mono ?_
 rintro e w2 ⟨v2,rfl,hA2,hf2⟩
 have hf02:=hf1.trans hf2
 have HH:=hid (HA.out w2 _ v2 (hA1.fr hf2).see (HS.out w2 hf02) hA2.see)
 obtain⟨p2,z2,rfl⟩:=hA2.shape'
 clear hA1 hA2 hf1 hf2
 go_wp2_with fail
 refine HH.out.mono ?_
 rintro e w3 ⟨v3,rfl,hA3,hf3⟩
 have HR:=hid (hA3.rebase hf02.size)
 clear hA3
 go_wp2_with fail
 go_ret
 exact⟨_,rfl,HR.out,hf02.trans hf3⟩
theorem lay_small(d q c n:Nat)(h1:q<=4*d)(h2:4<=c)(h3:d<=8)(h4:c<=100)(hn:n<=1000000):strN d c n*((d+q)*(c+4))<=16777216:=by
 have h5:strN d c n*(d*c)<=n+d*c - 1:=Nat.div_mul_le_self _ _
 have h6:(d+q)*(c+4)<=(5*d)*(2*c):=Nat.mul_le_mul (by omega) (by omega)
 have h7:(5*d)*(2*c)=10*(d*c):=by rw [Nat.mul_mul_mul_comm]
 have h8:d*c<=8*100:=Nat.mul_le_mul h3 h4
 have h9:strN d c n*((d+q)*(c+4))<=strN d c n*(10*(d*c)):=Nat.mul_le_mul_left _ (by omega)
 have h10:strN d c n*(10*(d*c))=10*(strN d c n*(d*c)):=by rw [Nat.mul_left_comm]
 omega
end Go.Proofs.YtdagmoonnbnceaaGreatDoor
