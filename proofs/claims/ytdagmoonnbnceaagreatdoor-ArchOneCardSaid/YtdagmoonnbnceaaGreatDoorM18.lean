/- Parts of the proof of ArchOne: G3. -/
import Derived.Test.YtdagmoonnbnceaaGreatDoorM12
import Derived.Test.YtdagmoonnbnceaaGreatDoorM06
import Derived.Test.YtdagmoonnbnceaaGreatDoorM04
import Derived.Laws.Tables
set_option linter.unusedVariables false
set_option linter.unusedSectionVars false
set_option linter.unusedSimpArgs false
set_option maxHeartbeats 8000000
set_option maxRecDepth 100000
namespace Go.Proofs.YtdagmoonnbnceaaGreatDoor
open Go.RowKit Go.Fk
def rowC(c:Nat):Array Value:=((List.range 256).map fun i=>B8 (mulN c i)).toArray
theorem setRow_chg(w:World)(g:Nat)(cs:Array Value):Chg (fun k=>k=g) w (w.setRow g cs):=
 ⟨rfl,rfl,rfl,by simp [World.setRow],fun k _ hn=>setRow_other w g k cs hn⟩
theorem Row_any (c : Nat) (hc : c < 256) (w : World) :
    Calls Tryz.prog 173 #[B8 c] w fun e w'=>e=.returned (.agg (rowC c))/\Fr w w':=by
  have hz0:∃ cs:Array Value,Tryz.zeroCells275=cs/\cs.size=256/\cs[0]? = some (B8 (mulN c 0)):=⟨_,rfl,by kernel_rfl,by rw [mul_zero];kernel_rfl⟩
  obtain⟨zs,hzs,hsz,hz1⟩:=hz0
  go_enter Tryz.func173, Tryz.ntmps173
  go_wp2_with fail
  have hb0:(((w.alloc (.cells zs 275)).alloc (.cells zs 275)).heap[w.heap.size]?)=some (.cells zs 275 (0,0)):=by
    rw [heap_old _ _ _ (by simp),heap_new _ _ _ rfl]
  have hb1:(((w.alloc (.cells zs 275)).alloc (.cells zs 275)).heap[w.heap.size+1]?)=some (.cells zs 275 (0,0)):=heap_new _ _ _ (by simp)
  have hf0:Fr w ((w.alloc (.cells zs 275)).alloc (.cells zs 275)):=((Fr.refl w).alloc _).alloc _
  generalize (w.alloc (.cells zs 275)).alloc (.cells zs 275)=w0 at *
  generalize hg:w.heap.size=g at *
  clear hzs
  go_loopw [4] (fun iv wr=>∃ (i:Nat) (cs:Array Value),1<=i/\i<=256/\iv=N i/\wr.heap[g]? = some (.cells zs 275 (0,0))/\wr.heap[g+1]? = some (.cells cs 275 (0,0))/\cs.size=256/\Hid (∀ j,j<i->cs[j]? = some (B8 (mulN c j)))/\Below g w wr) (fun iv _=>256 - (intOf iv).toNat)
  case atStart => exact ⟨1, zs, Nat.le_refl _, by omega, rfl, hb0, hb1, hsz, by intro j hj; obtain rfl : j = 0 := by omega
                                                                                exact hz1, by rw [← hg]; exact hf0⟩
  case round=>
    clear hb0 hb1 hf0 hz1
    obtain⟨i,cs,hi1,hi2,rfl,h0,h1,hcs,HC,hf⟩:=hrel
    by_cases hi:i<256
    · have hi':(i:Int)<256:=by omega
      have e1:wr.cell? ⟨g+1,i / 2,none⟩=some (B8 (mulN c (i / 2))):=by rw [cell_of_heap h1];exact HC.out _ (by omega)
      have e2:wr.frozen? ⟨g+1,i,none⟩=false:=frozen_of_heap h1 i
      have e3:∃ u,wr.cell? ⟨g+1,i,none⟩=some u:=by rw [cell_of_heap h1];exact⟨cs[i]'(by omega),by simp [hi,hcs]⟩
      obtain⟨u0,e3⟩:=e3
      have hm:=mul_lt c (i / 2) hc
      have HM:=hid (mul_half c i hc hi)
      have i3:(i:Int) / 2<256:=by omega
      have i4:(0:Int)<=(i:Int) / 2:=by omega
      have i5:((i:Int) / 2).toNat=i / 2:=by omega
      have i6:(0:Int)<=i:=by omega
      have HT:=hid (twice_any (mulN c (i / 2)) hm)
      have hmt:=tw_lt _ hm
      go_wp2_with fail
      refine(HT.out _).mono ?_
      rintro e w1 ⟨rfl,rfl⟩
      generalize twN (mulN c (i / 2))=t at *
      by_cases hodd:i % 2=1
      · have o1:(i:Int) % 2=1:=by omega
        have hx:=xor_u8 t c hmt hc
        have HE:Hid (mulN c i=t ^^^ c):=by show _=_;rw [HM.out,if_pos hodd]
        clear HM hodd
        go_wp2_with fail
        go_roundw
        case rel=>
          refine⟨i+1,(cs.setIfInBounds i (B8 t)).setIfInBounds i (B8 (t ^^^ c)),by omega,by omega,by go_num,?_,?_,by simp [hcs],?_,?_⟩
          · rw [Below.heap_setCell _ _ _ _ (by simp),Below.heap_setCell _ _ _ _ (by simp)];exact h0
          · exact heap_setCell_own (heap_setCell_own h1 i _) i _
          · intro j hj
            by_cases e:j=i
            · subst e;rw [HE.out];simp [hcs,hi]
            · rw [Array.getElem?_setIfInBounds_ne (Ne.symm e),Array.getElem?_setIfInBounds_ne (Ne.symm e)];exact HC.out j (by omega)
          · have hgs:=Nat.le_trans (Nat.le_of_eq hg.symm) (Below.size hf)
            exact set_below (set_below hf (Nat.le_succ g) hgs) (Nat.le_succ g) (by simpa [World.setCell] using hgs)
        case measure=>simp [intOf];omega
      · have o1:(i:Int) % 2=0:=by omega
        have HE:Hid (mulN c i=t):=by show _=_;rw [HM.out,if_neg hodd,Nat.xor_zero]
        clear HM hodd
        go_wp2_with fail
        go_roundw
        case rel=>
          refine⟨i+1,cs.setIfInBounds i (B8 t),by omega,by omega,by go_num,?_,?_,by simp [hcs],?_,?_⟩
          · rw [Below.heap_setCell _ _ _ _ (by simp)];exact h0
          · exact heap_setCell_own h1 i _
          · intro j hj
            by_cases e:j=i
            · subst e;rw [HE.out];simp [hcs,hi]
            · rw [Array.getElem?_setIfInBounds_ne (Ne.symm e)];exact HC.out j (by omega)
          · have hgs:=Nat.le_trans (Nat.le_of_eq hg.symm) (Below.size hf)
            exact set_below hf (Nat.le_succ g) hgs
        case measure=>simp [intOf];omega
    · obtain rfl:i=256:=by omega
      have hcr:cs=rowC c:=by
        apply Array.ext_getElem?
        intro j
        by_cases hj:j<256
        · rw [HC.out j hj];unfold rowC;simp [hj]
        · rw [Array.getElem?_eq_none (by omega),Array.getElem?_eq_none (by unfold rowC;simp;omega)]
      subst hcr
      have hone:(rowC c).all (·.oneCell')=true:=by
        unfold rowC;rw [List.all_toArray,List.all_eq_true];intro u hu;obtain⟨_,_,rfl⟩:=List.mem_map.1 hu;rfl
      have hinf:(Tryz.prog.info? 275).map (·.size)=some 256:=by kernel_rfl
      have hsr:(rowC c).size=256:=by simp [rowC]
      have hinf2:(Tryz.prog.info? 275).map (·.size)=some (rowC c).size:=by rw [hsr];exact hinf
      have HF:=hid hf
      clear hf
      go_wp2_with (first | (refine wpList_load_row rfl 275 (.tmp 3) rfl (g+1) rfl 275 (rowC c) (0,0) _ h1 Tryz.underlying275 rfl hinf2 ?_) | (refine wpList_store_row rfl 275 (.tmp 2) (.tmp 25) rfl g (rowC c) rfl rfl 275 zs h0 hinf2 (by rw [hsr,hsz]) hone ?_))
      exact bodyPost_ret (v := .agg (rowC c)) (results_cell_row Tryz.results173 _ _ g 275 (rowC c) (0, 0) _ rfl (setRow_heap _ g zs (rowC c) _ _ h0) Tryz.underlying275 rfl hinf2) rfl ⟨rfl, by
        have h9 := setRow_chg wr g (rowC c)
        rw [← hg] at HF h9 ⊢
        exact Chg.below HF.out h9 (Below.size HF.out) (fun k hk => Nat.le_of_eq hk.symm)⟩
theorem rowC_at(c j:Nat)(h:j<256):(rowC c)[j]? = some (B8 (mulN c j)):=by unfold rowC;simp [h]
theorem Add_any(va vb:Value)(l1 b:List UInt8)(c:Nat)(hc:c<256)(w:World)(ha:See w eB va l1)(hb:See w eB vb b)(hl:l1.length=b.length)(hn:l1.length<=1000000) :
  Calls Tryz.prog 134 #[va,B8 c,vb] w fun e w'=>∃ v,e=.returned (.tuple #[v,.int .i64 0])/\Ow w' w.heap.size eB v (addP l1 c b)/\Fr w w':=by
 obtain⟨aa,ca,hva,_⟩:=ha.shape
 obtain⟨ab,cb,hvb,_⟩:=hb.shape
 have HRow:=hid (Row_any c hc)
 have hLen:=addP_len l1 b c hl
 have HAt:=hid (addP_at l1 b c)
 generalize hR:addP l1 c b=R at *
 have HL:=hid hLen
 clear hR hLen
 subst hva hvb
 rw [<- hl]
 have hmk:=made_run eB rfl rfl 27 Tryz.underlying27 .i64 .i64 b.length (by omega)
 go_enter Tryz.func134, Tryz.ntmps134
 go_upto_region 3 with fail
 go_wp2_with fail
 refine(HRow.out _).mono ?_
 rintro e w1 ⟨rfl,hf1⟩
 have hsr:(rowC c).size=256:=by simp [rowC]
 have hone:(rowC c).all (·.oneCell')=true:=by
  unfold rowC;rw [List.all_toArray,List.all_eq_true];intro u hu;obtain⟨_,_,rfl⟩:=List.mem_map.1 hu;rfl
 have hinf2:(Tryz.prog.info? 275).map (·.size)=some (rowC c).size:=by rw [hsr];kernel_rfl
 have hb1:(w1.alloc (.cells Tryz.zeroCells275 275)).heap[w1.heap.size]? = some (.cells Tryz.zeroCells275 275 (0,0)):=heap_new _ _ _ rfl
 have hzs:(Tryz.zeroCells275).size=(rowC c).size:=by rw [hsr];kernel_rfl
 have hrw:=setRow_heap _ w1.heap.size Tryz.zeroCells275 (rowC c) _ _ hb1
 have hf2:Fr w ((w1.alloc (.cells Tryz.zeroCells275 275)).setRow w1.heap.size (rowC c)):=
  Chg.below (hf1.alloc _) (setRow_chg _ _ _) (by simp;have:=hf1.size;omega) (fun k hk=>by rw [hk];exact hf1.size)
 have hmo:=made_own (base:=((w1.alloc (.cells Tryz.zeroCells275 275)).setRow w1.heap.size (rowC c)).heap.size) eB rfl rfl b.length (by omega) ((w1.alloc (.cells Tryz.zeroCells275 275)).setRow w1.heap.size (rowC c)) (Nat.le_refl _)
 generalize hw2:(w1.alloc (.cells Tryz.zeroCells275 275)).setRow w1.heap.size (rowC c)=w2 at *
 have hrs:w1.heap.size<w2.heap.size:=(Array.getElem?_eq_some_iff.1 hrw).1
 go_wp2_with (refine wpList_store_row rfl 275 (.tmp 8) (.tmp 18) rfl w1.heap.size (rowC c) rfl rfl 275 Tryz.zeroCells275 hb1 hinf2 hzs hone ?_;rw [hw2])
 have hrow3:(w2.alloc (.cells (madeCells #[eB.z] b.length) eB.e)).heap[w1.heap.size]? = some (.cells (rowC c) 275 (0,0)):=by rw [heap_old _ _ _ hrs];exact hrw
 have hgw:=hf2.size
 have hf3:Fr w (w2.alloc (.cells (madeCells #[eB.z] b.length) eB.e)):=hf2.alloc _
 generalize w2.alloc (.cells (madeCells #[eB.z] b.length) eB.e)=w3 at *
 generalize hg:w2.heap.size=g at *
 generalize w1.heap.size=r at *
 clear hrw hf2 hw2 hmk hb1 HRow hzs
 go_loopw [24] (fun iv wr=>∃ i:Nat,i<=b.length/\iv=N i/\Ow wr g eB (.slice (some ⟨g,0,none⟩) b.length b.length) (R.take i++List.replicate (b.length - i) 0)/\wr.heap[r]? = some (.cells (rowC c) 275 (0,0))/\Fr w wr) (fun iv _=>b.length - (intOf iv).toNat)
 case atStart=>exact⟨0,Nat.zero_le _,rfl,hmo,hrow3,hf3⟩
 case round=>
  clear hmo hrow3 hf3
  obtain⟨i,hi,rfl,hown,hrow,hf⟩:=hrel
  have hRl:R.length=b.length:=by have:=HL.out;omega
  by_cases hlt:i<b.length
  · obtain⟨b1,o1,c1,hv1,e1⟩:=(ha.fr hf).cell1 (fun c=>Fk.u8 c) rfl i (by omega)
    obtain⟨b2,o2,c2,hv2,e2⟩:=(hb.fr hf).cell1 (fun c=>Fk.u8 c) rfl i hlt
    have HX:=hid (HAt.out i (by omega) hlt (by omega))
    generalize l1[i]'(by omega)=x at *
    generalize b[i]=y at *
    rw [hl]at hv1
    cases hv1
    cases hv2
    have e3:wr.cell? ⟨r,y.toNat,none⟩=some (B8 (mulN c y.toNat)):=by rw [cell_of_heap hrow];exact rowC_at c _ y.toNat_lt
    have hyb:=y.toNat_lt
    have hmlt:=mul_lt c y.toNat hc
    have hx:=xor_u8 x.toNat (mulN c y.toNat) x.toNat_lt hmlt
    have hxl:x.toNat ^^^ mulN c y.toNat<2 ^ 8:=Nat.xor_lt_two_pow x.toNat_lt hmlt
    generalize mulN c y.toNat=m at *
    have hll:=fill_len R (0:UInt8) b.length i hRl hi
    obtain⟨k0,k1⟩:=hown.cellAt Fk.u8 rfl i (by rw [hll];exact hlt)
    have hset:=hown.set Fk.u8 rfl i (by rw [hll];exact hlt) (UInt8.ofNat (x.toNat ^^^ m)) (B8 (x.toNat ^^^ m)) (byte_val _ hxl).symm
    rw [fill_set R 0 b.length i hRl hlt _ HX.out]at hset
    have hi':(i:Int)<b.length:=by omega
    have hi0:(0:Int)<=i:=by omega
    have hy1:(y.toNat:Int)<256:=by omega
    have hy0:(0:Int)<=y.toNat:=by omega
    go_wp2_with fail
    go_roundw
    case rel=>exact⟨i+1,by omega,by go_num,hset,by rw [Below.heap_setCell _ _ _ _ (by simp;omega)];exact hrow,set_below hf hgw (Below.size hf)⟩
    case measure=>simp [intOf];omega
  · obtain rfl:i=b.length:=by omega
    have hnl:¬((b.length:Int)<b.length):=by omega
    rw [Nat.sub_self,List.replicate_zero,List.append_nil,List.take_of_length_le (by omega)]at hown
    go_wp2_with fail
    exact bodyPost_ret (v:=.tuple #[.slice (some ⟨g,0,none⟩) b.length b.length,.int .i64 0]) (by simp [results,Tryz.results134,go_sem, *]) rfl ⟨_,rfl,hown.rebase hgw,hf⟩
end Go.Proofs.YtdagmoonnbnceaaGreatDoor
