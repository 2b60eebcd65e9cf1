/- Parts of the proof of ArchOne: Uc Ud. -/
import Derived.Test.YtdagmoonnbnceaaGreatDoorM17
import Derived.Test.YtdagmoonnbnceaaGreatDoorM29
import Derived.Test.YtdagmoonnbnceaaGreatDoorM44
set_option linter.unusedVariables false
set_option linter.unusedSectionVars false
set_option linter.unusedSimpArgs false
set_option maxHeartbeats 8000000
set_option maxRecDepth 100000
namespace Go.Proofs.YtdagmoonnbnceaaGreatDoor
open Go.RowKit Go.Fk
theorem oblock_any (F B base sz rec blk i : Nat) (p : Bool) (v : Value) (x : List UInt8) (w0 w : World) (hs : See w0 eB v x) (hf0 : Fr w0 w) (hB0 : w0.heap.size ≤ B) (hF0 : w0.heap.size ≤ F) (hG : w.heap[F]? = some (orB B v sz p rec blk)) (hc : CurF w 156 B base x (o1At x i).at_ (o1At x i).er) (he : (o1At x i).er = 0) (hFB : F ≠ B) (hl : x.length ≤ 1000000) (hb : base ≤ w.heap.size)
    (HBk:Hid (∀ W u,Fr w0 W->See W eB u (x.drop (o1At x i).at_)->Calls Tryz.prog 140 #[u] W fun e w'=>∃ r,e=.returned (.tuple #[r,N (blkR (x.drop (o1At x i).at_)).2.1,.int .i64 ((blkR (x.drop (o1At x i).at_)).2.2:Int)])/\Ow w' W.heap.size eB r (blkR (x.drop (o1At x i).at_)).1/\Fr W w'))
    (hbl:(blkR (x.drop (o1At x i).at_)).1.length<=1000000) :
    Calls Tryz.prog 100 #[.pointer (some ⟨F,0,none⟩)] w fun e w'=>∃ u,e=.returned (.tuple #[u,.int .i64 ((o1L x i).2:Int)])/\Ow w' w.heap.size eR u (o1L x i).1/\w'.heap[F]? = some (orB B v sz p rec blk)/\((o1L x i).2=0->CurF w' 156 B base x (o1At x (i+1)).at_ (o1At x (i+1)).er)/\Chg (fun k=>k=B) w w':=by
  have HS:=hid hs
  have hle:=hc.le
  obtain⟨a0,cap,rfl,hcap1,hcap2,_⟩:=hs.shape
  unfold maxLen at hcap2
  obtain⟨f1,f2,hfr,hfs⟩:=run_from eB 27 Tryz.underlying27 hs (o1At x i).at_ hle
  have HAt:=hid (fun W (h:Fr w W)=>At_cur B base _ _ x W (hc.fr h))
  have HTk:Hid (∀ W,CurF W 156 B base x (o1At x i).at_ (o1At x i).er->base<=W.heap.size->Calls Tryz.prog 139 #[.pointer (some ⟨B,0,none⟩),N (blkR (x.drop (o1At x i).at_)).2.1] W fun e w'=>∃ u,e=.returned u/\Ow w' W.heap.size eB u ((o1At x i).take x (blkR (x.drop (o1At x i).at_)).2.1).1/\CurF w' 156 B base x (o1At x (i+1)).at_ (o1At x (i+1)).er/\Chg (fun b=>b=B) W w'):=fun W h h2=>Take_cur B base _ (o1At x i) x W h hl h2
  have HRd:=hid (fun u W (h:See W eB u (blkR (x.drop (o1At x i).at_)).1)=>QReadT_any u _ W h hbl)
  have HLe:Hid (o1L x i=if(blkR (x.drop (o1At x i).at_)).2.2=0 then(if(recsL true (blkR (x.drop (o1At x i).at_)).1).2=0 then(if(recsL true (blkR (x.drop (o1At x i).at_)).1).1=[]then([],2)else recsL true (blkR (x.drop (o1At x i).at_)).1)else([],(recsL true (blkR (x.drop (o1At x i).at_)).1).2))else([],(blkR (x.drop (o1At x i).at_)).2.2)):=rfl
  have c0:=cellx hG 0 rfl
  have c1:=cellx hG 1 rfl
  have HC:=hid hc
  have HBk1:=hid (HBk.out w.drew (.slice f1 (x.length - (o1At x i).at_) f2) (hf0.trans (Fr.refl w).drew) ((hfs.fr hf0).drew))
  clear hs hc hbl HBk hfs
  generalize o1L x i=L at *
  generalize blkR (x.drop (o1At x i).at_)=K at *
  obtain⟨kl,kn,ke⟩:=K
  simp only at HTk HRd HLe HBk1
  generalize recsL true kl=Q at *
  obtain⟨ql,qe⟩:=Q
  generalize (o1At x (i+1))=s2 at *
  generalize o1At x i=s1 at *
  obtain⟨at1,er1⟩:=s1
  simp only at he hle HAt HTk HC hfr HBk1
  subst he
  generalize x.length - at1=m1 at *
  go_enter Tryz.func100, Tryz.ntmps100
  go_wp2_with fail
  go_region_held3 (fun W => W.cell? ⟨F, 0, none⟩ = some (.pointer (some ⟨B, 0, none⟩)) ∧ W.cell? ⟨F, 1, none⟩ = some (.slice a0 x.length cap))
    (first | go_keep)
    ((first
      | (go_at_call 141; refine (HAt.out _ (Fr.refl w).drew).mono ?_; rintro e w3 ⟨rfl, rfl⟩)
      | (go_at_call 140; refine HBk1.out.mono ?_; rintro e w2 ⟨u2, rfl, hO2, hf2⟩; obtain ⟨p2, z2, hq2⟩ := hO2.shape'; subst hq2; have d0 := hf2.cell c0; have d1 := hf2.cell c1)))
  have hf2':Fr w w2:=(Fr.refl w).drew.trans hf2
  have hG2:=hf2'.heap hG
  have hC2:=HC.out.fr hf2'
  have hz2:base<=w2.heap.size:=Nat.le_trans hb hf2'.size
  have hs2:w.heap.size<=w2.heap.size:=hf2'.size
  clear HAt HBk1 hf2 c0 c1 d0 d1 hfr
  by_cases h1:ke=0
  · have HL1:=hid (HLe.out.trans (if_pos h1))
    subst h1
    have HT2:=hid (HTk.out w2 hC2 hz2)
    have e0:=cellx hG2 0 rfl
    have hbx:=hC2.cbox
    clear HTk HLe hC2 hz2
    go_wp2_with fail
    refine(HT2.out).mono ?_
    rintro e w3 ⟨u3,rfl,_,hC3,hc3⟩
    have hG3:=hc3.heap hG2 hFB
    have hO3 := hO2.chg hc3 (fun i hi e => by
      obtain ⟨cs, h5⟩ := hbx
      exact hO2.ne_cells h5 (by decide) (by rw [hi, show i = B from e]))
    have hch3:Chg (fun k=>k=B) w w3:=(hf2'.chg (fun k=>k=B)).trans hc3 (fun _ _ h=>h)
    have HR3:=hid (HRd.out _ w3 hO3.see)
    clear HT2 hG2 hO2 hO3 hc3 hbx e0 hf2' HRd
    go_wp2_with fail
    refine(HR3.out).mono ?_
    rintro e w4 ⟨u4,rfl,hO4,hf4⟩
    obtain⟨p4,z4,rfl⟩:=hO4.shape'
    have hG4:=hf4.heap hG3
    have hC4:=hC3.fr hf4
    have hch4:=hch3.trans (hf4.chg (fun k=>k=B)) (fun _ _ h=>h)
    have hw3:w.heap.size<=w3.heap.size:=hch3.size
    clear HR3 hG3 hC3 hch3 hf4
    by_cases h2:qe=0
    · have HL2:=hid (HL1.out.trans (if_pos h2))
      subst h2
      by_cases h3:ql=[]
      · have HL3:=hid (HL2.out.trans (if_pos h3))
        subst h3
        clear HL1 HL2 hO4
        go_wp2_with fail
        go_ret2
        rw [HL3.out]
        exact⟨_,rfl,Ow.nil,hG4,(fun h=>by cases h),hch4⟩
      · have HL3:=hid (HL2.out.trans (if_neg h3))
        have j1:¬((ql.length:Nat):Int)=0:=by
          have:=List.length_pos_iff.2 h3
          omega
        have j2:(((ql.length:Nat):Int) == 0)=false:=by simpa using j1
        clear HL1 HL2 h3
        go_wp2_with fail
        go_ret2
        rw [HL3.out]
        exact⟨_,rfl,hO4.rebase hw3,hG4,fun _=>hC4,hch4⟩
    · have HL2:=hid (HL1.out.trans (if_neg h2))
      have j1:¬((qe:Nat):Int)=0:=by omega
      have j2:(((qe:Nat):Int) != 0)=true:=by simpa using j1
      have HN:=hid h2
      clear HL1 h2 hO4
      go_wp2_with fail
      go_ret2
      rw [HL2.out]
      exact⟨_,rfl,Ow.nil,hG4,fun h=>absurd h HN.out,hch4⟩
  · have HL1:=hid (HLe.out.trans (if_neg h1))
    have j1:¬((ke:Nat):Int)=0:=by omega
    have HN:=hid h1
    clear HLe h1 HTk HRd
    go_wp2_with fail
    go_ret2
    rw [HL1.out]
    exact⟨_,rfl,Ow.nil,hG2,fun h=>absurd h HN.out,hf2'.chg _⟩
theorem o1Go_step(x:List UInt8)(k i:Nat)(out:List Rec)(h:(o1L x i).2=0):o1Go x (k+1) i out=o1Go x k (i+1) (out++(o1L x i).1):=by rw [o1Go,if_pos h]
theorem o1Go_bad(x:List UInt8)(k i:Nat)(out:List Rec)(h:¬(o1L x i).2=0):o1Go x (k+1) i out=([],(o1L x i).2):=by rw [o1Go,if_neg h]
def o1Out(x:List UInt8):Nat->List Rec
 | 0=>[]
 | k+1=>o1Out x k++(o1L x k).1
theorem blkR_at(y:List UInt8):(blkR y).2.1<=y.length:=by
 unfold blkR
 split
 · split
   · exact bkT_le y
   · exact Nat.zero_le _
 · exact Nat.zero_le _
theorem o1At_ok(x:List UInt8)(i:Nat)(h:(o1At x i).er=0)(hle:(o1At x i).at_<=x.length):(o1At x (i+1)).er=0:=by
 have h1:=blkR_at (x.drop (o1At x i).at_)
 rw [List.length_drop]at h1
 show((o1At x i).take x _).2.er=0
 unfold Cs.take
 rw [if_pos h,if_neg (by omega)]
theorem olog_any (F B base sz : Nat) (p : Bool) (v : Value) (x : List UInt8) (w0 w : World) (hs : See w0 eB v x) (hf0 : Fr w0 w) (hB0 : w0.heap.size ≤ B) (hF0 : w0.heap.size ≤ F) (hG : w.heap[F]? = some (orB B v sz p (o1R x).1 (o1K x).1)) (hc : CurF w 156 B base x (o1K x).2.at_ (o1K x).2.er) (he : (o1K x).2.er = 0) (hFB : F ≠ B) (hl : x.length ≤ 1000000) (hb : base ≤ w.heap.size)
    (HBk:Hid (∀ i W u,i<(o1K x).1->Fr w0 W->See W eB u (x.drop (o1At x i).at_)->Calls Tryz.prog 140 #[u] W fun e w'=>∃ r,e=.returned (.tuple #[r,N (blkR (x.drop (o1At x i).at_)).2.1,.int .i64 ((blkR (x.drop (o1At x i).at_)).2.2:Int)])/\Ow w' W.heap.size eB r (blkR (x.drop (o1At x i).at_)).1/\Fr W w'))
    (hbl:∀ i,i<(o1K x).1->(blkR (x.drop (o1At x i).at_)).1.length<=1000000) (hout:∀ k,k<(o1K x).1->(o1Out x k).length+(o1L x k).1.length<=2000000000) (hkl:(o1K x).1<=20000) :
    Calls Tryz.prog 67 #[.pointer (some ⟨F,0,none⟩)] w fun e w'=>∃ u,e=.returned (.tuple #[u,.int .i64 ((o1X x).2:Int)])/\Ow w' w.heap.size eR u (o1X x).1/\w'.heap[F]? = some (orB B v sz p (o1R x).1 (o1K x).1)/\Fr w0 w':=by
  have HBl:=hid (fun i W (hi:i<(o1K x).1) (h1:Fr w0 W) h2 h3 h4 h5=>oblock_any F B base sz (o1R x).1 (o1K x).1 i p v x w0 W hs h1 hB0 hF0 h2 h3 h4 hFB hl h5 (fun W u h6 h7=>HBk.out i W u hi h6 h7) (hbl i hi))
  have HLf:=hid (fun n er W (h:CurF W 156 B base x n er)=>Left_cur B base n er x W h)
  have HQ:=hid (fun u l W (h:See W eR u l)=>QCheck_any u l W h)
  have HSt:=hid (o1Go_step x)
  have HBd:=hid (o1Go_bad x)
  have HX:Hid (o1X x=if(o1G x).2=0 then(if 0<x.length - (o1At x (o1K x).1).at_\/(o1G x).1.length≠(o1R x).1 then([],2)else if okLog (o1G x).1=true then((o1G x).1,0)else([],6))else([],(o1G x).2)):=rfl
  have HG0:Hid (o1G x=o1Go x (o1K x).1 0 []):=rfl
  have hc0:CurF w 156 B base x (o1At x 0).at_ (o1At x 0).er:=hc
  have he0:(o1At x 0).er=0:=he
  have HOu:=hid hout
  have HAt:=hid (o1At_ok x)
  have HOs:Hid (∀ k,o1Out x (k+1)=o1Out x k++(o1L x k).1):=fun _=>rfl
  have HO0:Hid (o1Out x 0=[]):=rfl
  have HEx:Hid (∀ i out,o1Go x 0 i out=(out,0)):=fun _ _=>rfl
  have hw0:=hf0.size
  clear hbl hout HBk hs hc he
  generalize o1X x=X at *
  generalize o1G x=Gx at *
  generalize (o1R x).1=rec at *
  generalize (o1K x).1=blk at *
  have c0:=cellx hG 9 rfl
  go_enter Tryz.func67, Tryz.ntmps67
  go_wp2_with fail
  go_loopw [4,12] (fun ov iv wr=>∃ k:Nat,k<=blk/\iv=N k/\Ow wr w.heap.size eR ov (o1Out x k)/\CurF wr 156 B base x (o1At x k).at_ (o1At x k).er/\(o1At x k).er=0/\wr.heap[F]? = some (orB B v sz p rec blk)/\Hid (Gx=o1Go x (blk - k) k (o1Out x k))/\Fr w0 wr/\w.heap.size<=wr.heap.size) (fun _ iv _=>blk - (intOf iv).toNat)
  case atStart=>exact⟨0,Nat.zero_le _,rfl,by rw [HO0.out];exact Ow.nil,hc0,he0,hG,by show _=_;rw [HO0.out];exact HG0.out,hf0,Nat.le_refl _⟩
  case round=>
    clear hc0 he0 hG hf0 c0 HG0
    obtain⟨k,hk,rfl,hO,hC,hE,hG,HGk,hf,hz⟩:=hrel
    by_cases hlt:k<blk
    · have HB1:=hid (HBl.out k wr hlt hf hG hC hE (Nat.le_trans hb hz))
      have i1:(k:Int)<blk:=by omega
      have hbx:=hC.cbox
      have HA1:=hid (HAt.out k hE hC.le)
      have hoo:=HOu.out k hlt
      clear HBl HOu HAt hC hG
      go_wp2_with fail
      refine(HB1.out).mono ?_
      rintro e w2 ⟨u,rfl,hU,hG2,hC2,hc2⟩
      have hO2 := hO.chg hc2 (fun i hi e => by
        obtain ⟨cs, h5⟩ := hbx
        exact hO.ne_cells h5 (by decide) (by rw [hi, show i = B from e]))
      have hf2:Fr w0 w2:=Chg.below hf hc2 hf.size (fun i e=>by rw [show i=B from e];exact hB0)
      have hz2:w.heap.size<=w2.heap.size:=Nat.le_trans hz hc2.size
      obtain⟨pu,zu,rfl⟩:=hU.shape'
      clear HB1 hO hf hz hc2 hbx
      have HSk:Hid ((o1L x k).2=0->Gx=o1Go x (blk - (k+1)) (k+1) (o1Out x (k+1))):=fun h0=>by
        rw [HGk.out,show blk - k=(blk - (k+1))+1 by omega,HSt.out _ _ _ h0,HOs.out]
      have HBk2:Hid (¬(o1L x k).2=0->Gx=([],(o1L x k).2)):=fun h0=>by
        rw [HGk.out,show blk - k=(blk - (k+1))+1 by omega,HBd.out _ _ _ h0]
      have HOs1:=hid (HOs.out k)
      clear HSt HBd HGk HOs
      generalize o1L x k=Lk at *
      obtain⟨L1,le⟩:=Lk
      simp only at hU hC2 hoo HSk HBk2 HOs1
      by_cases h0:le=0
      · have h0':((le:Nat):Int)=0:=by omega
        have HS1:=hid (HSk.out h0)
        have hC3:=hC2 h0
        rw [h0']
        clear h0 h0' hC2 HSk HBk2
        obtain⟨po,zo,rfl⟩:=hO2.shape'
        go_wp2_with (at_builtin;refine wpList_app eR rfl (.tmp 22) (.tmp 23) 24 rfl Tryz.underlying24 w.heap.size rfl hO2 _ _ rfl hU.see (by omega) hz2 ?_)
        intro v' w4 hap
        have hC4:=hC3.app hO2 hap (by decide) (by decide)
        have hG4:=hap.chg'.heap hG2 (hO2.ne_cells hG2 (by decide))
        have hO4:=hap.own
        rw [<- HOs1.out]at hO4
        have hf4:Fr w0 w4:=hap.below hO2 hf2 hw0 hf2.size
        have hz4:=Nat.le_trans hz2 hap.size
        clear hap hO2 hU
        go_wp2_with fail
        go_roundw
        case rel=>exact⟨k+1,by omega,by go_num,hO4,hC4,HA1.out,hG4,HS1.out,hf4,hz4⟩
        case measure=>simp [intOf];omega
      · have h0':¬((le:Nat):Int)=0:=by omega
        have j2:(((le:Nat):Int) != 0)=true:=by simpa using h0'
        have HS1:=hid (HBk2.out h0)
        have HX2:Hid (X=([],le)):=by show _=_;rw [HX.out,HS1.out,if_neg (show ¬(([]:List Rec),le).2=0 from h0)]
        clear h0 hC2 HX HS1 hO2 hU HSk HBk2 HOs1
        go_wp2_with fail
        go_ret2
        rw [HX2.out]
        exact⟨_,rfl,Ow.nil,hG2,hf2⟩
    · obtain rfl:k=blk:=by omega
      have i1:¬(k:Int)<k:=by omega
      have HGx:Hid (Gx=(o1Out x k,0)):=by show _=_;rw [HGk.out,Nat.sub_self,HEx.out]
      have HL1:=hid (HLf.out _ _ wr hC)
      have c0:=cellx hG 0 rfl
      have c8:=cellx hG 8 rfl
      have HX1:Hid (X=if 0<x.length - (o1At x k).at_\/(o1Out x k).length≠rec then([],2)else if okLog (o1Out x k)=true then(o1Out x k,0)else([],6)):=by show _=_;rw [HX.out,HGx.out,if_pos (show(o1Out x k,0).2=0 from rfl)]
      clear HBl HOu HAt HSt HBd HGk HOs HX HGx HEx HLf hC
      generalize x.length - (o1At x k).at_=m at *
      generalize o1Out x k=out at *
      obtain⟨po,zo,rfl⟩:=hO.shape'
      by_cases h1:0<m
      · have HX2:=hid (HX1.out.trans (if_pos (.inl h1)))
        have j1:(0:Int)<m:=by omega
        clear HX1 h1 HQ
        go_wp2_with fail
        refine(HL1.out).mono ?_
        rintro e w2 ⟨rfl,hf2⟩
        go_wp2_with fail
        go_ret2
        rw [HX2.out]
        exact⟨_,rfl,Ow.nil,hf2.heap hG,hf.trans hf2⟩
      · have hm:m=0:=by omega
        subst hm
        by_cases h2:out.length=rec
        · have hr2:((out.length:Nat):Int)=(rec:Int):=by omega
          have j2:(((out.length:Nat):Int) != (rec:Int))=false:=by simp [hr2]
          have HX2:=hid (HX1.out.trans (if_neg (by rintro(h | h);exact h1 h;exact h h2)))
          have HR2:=hid hr2
          clear HX1 h1 h2 hr2
          go_wp2_with fail
          refine(HL1.out).mono ?_
          rintro e w2 ⟨rfl,hf2⟩
          have c8':=hf2.cell c8
          have HQ2:=hid (HQ.out _ _ w2 (hO.fr hf2).see)
          go_wp2_with fail
          refine(HQ2.out).mono ?_
          rintro e w3 ⟨rfl,hf3⟩
          by_cases h3:okLog out=true
          · have HX3:=hid (HX2.out.trans (if_pos h3))
            rw [if_pos h3]
            clear HX2 h3
            go_wp2_with fail
            go_ret2
            rw [HX3.out]
            exact⟨_,rfl,(hO.fr hf2).fr hf3,hf3.heap (hf2.heap hG),(hf.trans hf2).trans hf3⟩
          · have HX3:=hid (HX2.out.trans (if_neg h3))
            rw [if_neg h3]
            clear HX2 h3
            go_wp2_with fail
            go_ret2
            rw [HX3.out]
            exact⟨_,rfl,Ow.nil,hf3.heap (hf2.heap hG),(hf.trans hf2).trans hf3⟩
        · have hr2:¬((out.length:Nat):Int)=(rec:Int):=by omega
          have j2:(((out.length:Nat):Int) != (rec:Int))=true:=by simpa using hr2
          have HX2:=hid (HX1.out.trans (if_pos (.inr h2)))
          clear HX1 h1 h2 HQ
          go_wp2_with fail
          refine(HL1.out).mono ?_
          rintro e w2 ⟨rfl,hf2⟩
          have c8':=hf2.cell c8
          go_wp2_with fail
          go_ret2
          rw [HX2.out]
          exact⟨_,rfl,Ow.nil,hf2.heap hG,hf.trans hf2⟩
theorem results_c3{P:Program}{fn:Func}{p q r s:Tmp}{ty:TypeId}(h:fn.results=#[.cell p ty,.tmp q,.tmp r,.tmp s])(tmps:Array Value)(w:World)(g:Nat)(t:TypeId)(cs:Array Value)(fr:Nat × Nat)(d:TypeDesc)(v1 v2 v3:Value)
  (hp:tmps.getD p undef=.pointer (some ⟨g,0,none⟩)) (hq:tmps.getD q undef=v1) (hr:tmps.getD r undef=v2) (hs:tmps.getD s undef=v3) (hg:w.heap[g]? = some (.cells cs t fr))
  (hu:P.underlying ty=some d) (hd:(match d with | .struct _ | .array _ _=>true | _=>false)=true) (hi:(P.info? ty).map (·.size)=some cs.size) :
  (results fn tmps).run P w=.ok (.tuple #[.agg cs,v1,v2,v3]) w:=by
 have hp':tmps[p]?.getD undef=.pointer (some ⟨g,0,none⟩):=by simpa using hp
 have hq':tmps[q]?.getD undef=v1:=by simpa using hq
 have hr':tmps[r]?.getD undef=v2:=by simpa using hr
 have hs':tmps[s]?.getD undef=v3:=by simpa using hs
 simp [results,h,hp',hq',hr',hs',asAddr,run_loadVar_row w g t ty cs fr d hg hu hd hi]
abbrev opZ:Array Value:=#[.int .i64 0,.bool false,.int .i64 0,.int .i64 0,.int .i64 0,.int .i64 0]
theorem wholeR_len(b:List UInt8):(wholeR b).1.length<=b.length:=by
 have h:(cutB b).length<=b.length:=by
  unfold cutB
  split
  · rw [List.length_take];omega
  · exact Nat.zero_le _
 unfold wholeR
 split
 · split
   · split
     · split
       · exact Nat.zero_le _
       · show((cutB b).drop 5).length<=_;rw [List.length_drop];omega
     · exact Nat.zero_le _
   · exact Nat.zero_le _
 · exact Nat.zero_le _
theorem OUnpack_any (v : Value) (b : List UInt8) (w : World) (hs : See w eB v b) (hl : b.length ≤ 1000000) (ht : Crc w)
    (HBk:Hid (∀ i W u,i<(o1K (wholeR b).1).1->Fr w W->See W eB u ((wholeR b).1.drop (o1At (wholeR b).1 i).at_)->Calls Tryz.prog 140 #[u] W fun e w'=>∃ r,e=.returned (.tuple #[r,N (blkR ((wholeR b).1.drop (o1At (wholeR b).1 i).at_)).2.1,.int .i64 ((blkR ((wholeR b).1.drop (o1At (wholeR b).1 i).at_)).2.2:Int)])/\Ow w' W.heap.size eB r (blkR ((wholeR b).1.drop (o1At (wholeR b).1 i).at_)).1/\Fr W w'))
    (hbl:∀ i,i<(o1K (wholeR b).1).1->(blkR ((wholeR b).1.drop (o1At (wholeR b).1 i).at_)).1.length<=1000000) (hout:∀ k,k<(o1K (wholeR b).1).1->(o1Out (wholeR b).1 k).length+(o1L (wholeR b).1 k).1.length<=2000000000) :
    Calls Tryz.prog 36 #[v] w fun e w'=>Fr w w'/\((oneE b≠0/\e=.returned (.tuple #[.agg opZ,.slice none 0 0,.int .i64 0,.int .i64 (oneE b:Int)]))\/(oneE b=0/\∃ u,e=.returned (.tuple #[optV ⟨((o1B (wholeR b).1).1:Int),decide ((o1P (wholeR b).1).1=1),0,0,0,0⟩,u,N (o1K (wholeR b).1).1,.int .i64 0])/\Ow w' w.heap.size eR u (o1X (wholeR b).1).1)):=by
  have HW:=hid (fun W (h:Fr w W)=>owhole_any v b W (hs.fr h) hl (ht.fr h))
  have hE:oneE b=if(wholeR b).2=0 then(if o1E (wholeR b).1=0 then(o1X (wholeR b).1).2 else o1E (wholeR b).1)else(wholeR b).2:=rfl
  have hxl:(wholeR b).1.length<=1000000:=Nat.le_trans (wholeR_len b) hl
  generalize oneE b=E at *
  generalize wholeR b=WR at *
  obtain⟨x,xe⟩:=WR
  simp only at HBk hbl hout HW hE hxl
  have hkl:(o1K x).1<=20000:=Nat.le_trans (Cs.int_top _ _ _) (Cs.int_top _ _ _)
  have HNew:=hid (fun u W (h:See W eB u x)=>New_any u x W h hxl)
  have HHd:=hid (fun F B base bv W h1 h2 h3 h4=>ohead_any F B base bv x W h1 h2 h3 hxl h4)
  have HLg:=hid (fun F B base sz p u w0 W (h0:Fr w w0) h1 h2 h3 h4 h5 h6 h7 h8 h9=>olog_any F B base sz p u x w0 W h1 h2 h3 h4 h5 h6 h7 h8 hxl h9 (fun i W u h10 h11 h12=>HBk.out i W u h10 (h0.trans h11) h12) hbl hout hkl)
  have HEr:Hid (∀ h:(o1K x).2.er≠0,o1E x≠0):=fun h=>by unfold o1E;rw [if_neg h];exact h
  have HE:=hid hE
  have hinf:(Tryz.prog.info? 23).map (·.size)=some 6:=by kernel_rfl
  have hone:(opZ).all (·.oneCell')=true:=by rw [List.all_toArray];rfl
  have hO0:=heap_new w (.cells opZ 23) w.heap.size rfl
  have hf0:Fr w (w.alloc (.cells opZ 23)):=(Fr.refl w).alloc _
  obtain⟨a0,cap,rfl,_⟩:=hs.shape
  clear hs ht hE HBk hbl hout
  have HZ:=hid (fun(W:World) (hg:W.heap[w.heap.size]? = some (.cells opZ 23 (0,0))) (hf:Fr w W)=>And.intro (show Fr w (W.setRow w.heap.size opZ)from Chg.below hf (setRow_chg W w.heap.size opZ) hf.size (fun i e=>by rw [show i=w.heap.size from e];exact Nat.le_refl _)) (setRow_heap W w.heap.size _ opZ _ _ hg))
  have HW1:=hid (HW.out _ hf0)
  clear HW
  go_enter Tryz.func36, Tryz.ntmps36
  go_wp2_with fail
  refine(HW1.out).mono ?_
  rintro e w1 ⟨u1,rfl,hu1,hf1⟩
  have hO1:=hf1.heap hO0
  have hf01:=hf0.trans hf1
  obtain⟨p1,z1,rfl,_⟩:=hu1.shape
  clear HW1 hO0 hf0 hf1
  by_cases h1:xe=0
  · have HE1:=hid (HE.out.trans (if_pos h1))
    subst h1
    have HN1:=hid (HNew.out _ w1 hu1)
    have HU1:=hid hu1
    clear HE HNew
    go_wp2_with fail
    refine(HN1.out).mono ?_
    rintro e w2 ⟨B,rfl,hC2,hf2,hB2⟩
    have hBw:=hC2.lt
    have hfb:Fr w2 (w2.alloc (.cells #[.pointer (some ⟨B,0,none⟩),.slice p1 x.length z1,.int .i64 0,.bool false,.int .i64 0,.int .i64 0,.int .i64 0,.int .i64 0,.int .i64 0,.int .i64 0] 114)):=(Fr.refl w2).alloc _
    have hG3:(w2.alloc (.cells #[.pointer (some ⟨B,0,none⟩),.slice p1 x.length z1,.int .i64 0,.bool false,.int .i64 0,.int .i64 0,.int .i64 0,.int .i64 0,.int .i64 0,.int .i64 0] 114)).heap[w2.heap.size]? = some (orB B (.slice p1 x.length z1) 0 false 0 0):=heap_new _ _ _ rfl
    have hC3:=hC2.fr hfb
    have hf13:=hf2.trans hfb
    have hO3:=hf13.heap hO1
    have hF2:w1.heap.size<=w2.heap.size:=hf2.size
    have HH3:=hid (HHd.out w2.heap.size B w1.heap.size _ _ hG3 hC3 (by omega) hf13.size)
    clear HN1 hC2 hG3 hC3 hfb hf2 HHd
    go_wp2_with fail
    refine(HH3.out).mono ?_
    rintro e w4 ⟨rfl,hG4,hC4,hc4⟩
    have hFB:w2.heap.size≠B:=by omega
    generalize w2.heap.size=F at *
    have hf14:Fr w1 w4:=Chg.below hf13 hc4 hf13.size (fun i e=>by rcases e with e | e <;> omega)
    have hO4:=hc4.heap hO3 (by have:=(Array.getElem?_eq_some_iff.1 hO1).1;rintro(e | e) <;> omega)
    have hf04:=hf01.trans hf14
    have hb4:w1.heap.size<=w4.heap.size:=hf14.size
    clear HH3 hf13 hc4 hO3
    by_cases h2:o1E x=0
    · have HE2:=hid (HE1.out.trans (if_pos h2))
      have h2':((o1E x:Nat):Int)=0:=by omega
      have her:(o1K x).2.er=0:=by
        by_cases h:(o1K x).2.er=0
        · exact h
        · exact absurd h2 (HEr.out h)
      have HL4:=hid (HLg.out F B w1.heap.size (o1B x).1 (decide ((o1P x).1=1)) _ w1 w4 hf01 HU1.out hf14 hB2 hF2 hG4 hC4 her hFB hb4)
      rw [h2']
      clear HE1 h2 h2' HLg her HEr hG4 hC4 hb4
      generalize hxl1:o1X x=OX at *
      generalize hsz:o1B x=OB at *
      generalize hpb:o1P x=OP at *
      generalize o1R x=OR at *
      generalize hbk:o1K x=OK at *
      have HEQ:=hid (And.intro hxl1 (And.intro hsz (And.intro hpb hbk)))
      clear hxl1 hsz hpb hbk
      obtain⟨xl,xer⟩:=OX
      obtain⟨sz,sB⟩:=OB
      obtain⟨xp,sP⟩:=OP
      obtain⟨rec,sR⟩:=OR
      obtain⟨blk,sK⟩:=OK
      simp only at HL4 HE2
      generalize hpq:decide (xp=1)=pb at *
      have HPQ:=hid (And.intro hpq hpq)
      clear hpq
      go_wp2_with fail
      refine(HL4.out).mono ?_
      rintro e w5 ⟨u5,rfl,hO5,hG5,hf5⟩
      have hO5':=hf5.heap hO1
      have hf05:=hf01.trans hf5
      have hw4:w.heap.size<=w4.heap.size:=hf04.size
      clear HL4 hO4 hO1 hf14 hf04
      by_cases h3:xer=0
      · have HE3:=hid (HE2.out.trans h3)
        have h3':((xer:Nat):Int)=0:=by omega
        rw [h3']
        have q2:=cellx hG5 2 rfl
        have q3:=cellx hG5 3 rfl
        have q4:=cellx hG5 4 rfl
        have q5:=cellx hG5 5 rfl
        have q6:=cellx hG5 6 rfl
        have q7:=cellx hG5 7 rfl
        have q9:=cellx hG5 9 rfl
        have c0:w5.cell? ⟨w.heap.size,0,none⟩=some (.int .i64 0):=by rw [cell_of_heap hO5'];rfl
        have c1:w5.cell? ⟨w.heap.size,1,none⟩=some (.bool false):=by rw [cell_of_heap hO5'];rfl
        have c2:w5.cell? ⟨w.heap.size,2,none⟩=some (.int .i64 0):=by rw [cell_of_heap hO5'];rfl
        have c3:w5.cell? ⟨w.heap.size,3,none⟩=some (.int .i64 0):=by rw [cell_of_heap hO5'];rfl
        have c4:w5.cell? ⟨w.heap.size,4,none⟩=some (.int .i64 0):=by rw [cell_of_heap hO5'];rfl
        have c5:w5.cell? ⟨w.heap.size,5,none⟩=some (.int .i64 0):=by rw [cell_of_heap hO5'];rfl
        have z0:=frozen_of_heap hO5' 0
        have z1':=frozen_of_heap hO5' 1
        have z2:=frozen_of_heap hO5' 2
        have z3:=frozen_of_heap hO5' 3
        have z4:=frozen_of_heap hO5' 4
        have z5:=frozen_of_heap hO5' 5
        obtain⟨p5,z5',rfl⟩:=hO5.shape'
        have KZ:Hid (∀ W',W'=(set6 w5 w.heap.size (N sz) (.bool pb) (.int .i64 0) (.int .i64 0) (.int .i64 0) (.int .i64 0)).drew->W'.heap[w.heap.size]? = some (.cells #[N sz,.bool pb,.int .i64 0,.int .i64 0,.int .i64 0,.int .i64 0] 23 (0,0))/\Fr w W'/\Ow W' w.heap.size eR (.slice p5 xl.length z5') xl):=by
          intro W' hW'
          obtain⟨hS6,hc6⟩:=set6_at (N sz) (.bool pb) (.int .i64 0) (.int .i64 0) (.int .i64 0) (.int .i64 0) hO5'
          generalize set6 w5 w.heap.size (N sz) (.bool pb) (.int .i64 0) (.int .i64 0) (.int .i64 0) (.int .i64 0)=V at *
          subst hW'
          have hOw:=hO5.rebase hw4
          exact⟨hS6,Below.drew (Chg.below hf05 hc6 hf05.size (fun i e=>by rw [show i=w.heap.size from e];exact Nat.le_refl _)),(hOw.chg hc6 (fun k hk e=>hOw.ne_cells hO5' (by decide) (by rw [hk,show k=w.heap.size from e]))).drew⟩
        clear h3 h3' HE2 hG5 hO5' hO5 hf5 hf05
        go_wp2_with fail
        go_region
        all_goals go_wp2_with fail
        all_goals (
          obtain ⟨hS6, hf6, hO6⟩ := KZ.out _ rfl
          refine bodyPost_ret (v := .tuple #[.agg #[N sz, .bool pb, .int .i64 0, .int .i64 0, .int .i64 0, .int .i64 0], .slice p5 xl.length z5', N blk, .int .i64 0]) (results_c3 Tryz.results36 _ _ w.heap.size 23 _ (0, 0) _ _ _ _ rfl rfl rfl rfl hS6 Tryz.underlying23 rfl hinf) rfl ?_
          rw [HE3.out, HEQ.out.1, HEQ.out.2.1, HEQ.out.2.2.1, HEQ.out.2.2.2]
          refine ⟨hf6, .inr ⟨rfl, .slice p5 xl.length z5', ?_, hO6⟩⟩
          show Ending.returned (.tuple #[.agg #[N sz, .bool pb, .int .i64 0, .int .i64 0, .int .i64 0, .int .i64 0], .slice p5 xl.length z5', N blk, .int .i64 0]) = .returned (.tuple #[.agg #[N sz, .bool (decide (xp = 1)), .int .i64 0, .int .i64 0, .int .i64 0, .int .i64 0], .slice p5 xl.length z5', N blk, .int .i64 0])
          rw [HPQ.out.1])
      · have HE3:=hid HE2.out
        have j1:¬((xer:Nat):Int)=0:=by omega
        have j2:(((xer:Nat):Int) != 0)=true:=by simpa using j1
        have hZ:=HZ.out w5 hO5' hf05
        have HN:=hid h3
        clear HE2 h3 hO5 hG5
        go_wp2_with (first | (refine wpList_store_row rfl 23 (.tmp 2) (.tmp 38) rfl w.heap.size opZ rfl rfl 23 _ hO5' hinf rfl hone ?_))
        go_wp2_with fail
        (try simp only [Exit.inBlock,Exit.then])
        refine bodyPost_ret (v:=.tuple #[.agg opZ,.slice none 0 0,.int .i64 0,.int .i64 (xer:Int)]) (results_c3 Tryz.results36 _ _ w.heap.size 23 _ (0,0) _ _ _ _ rfl rfl rfl rfl hZ.2 Tryz.underlying23 rfl hinf) rfl ?_
        rw [HE3.out]
        exact⟨hZ.1,.inl ⟨HN.out,rfl⟩⟩
    · have HE2:=hid (HE1.out.trans (if_neg h2))
      have j1:¬((o1E x:Nat):Int)=0:=by omega
      have hZ:=HZ.out w4 hO4 hf04
      have HN:=hid h2
      clear HE1 h2 HLg HEr hG4 hC4
      generalize o1E x=e1 at *
      have j2:(((e1:Nat):Int) != 0)=true:=by simpa using j1
      go_wp2_with (first | (refine wpList_store_row rfl 23 (.tmp 2) (.tmp 29) rfl w.heap.size opZ rfl rfl 23 _ hO4 hinf rfl hone ?_))
      go_wp2_with fail
      (try simp only [Exit.inBlock,Exit.then])
      refine bodyPost_ret (v:=.tuple #[.agg opZ,.slice none 0 0,.int .i64 0,.int .i64 (e1:Int)]) (results_c3 Tryz.results36 _ _ w.heap.size 23 _ (0,0) _ _ _ _ rfl rfl rfl rfl hZ.2 Tryz.underlying23 rfl hinf) rfl ?_
      rw [HE2.out]
      exact⟨hZ.1,.inl ⟨HN.out,rfl⟩⟩
  · have HE1:=hid (HE.out.trans (if_neg h1))
    have j1:¬((xe:Nat):Int)=0:=by omega
    have j2:(((xe:Nat):Int) != 0)=true:=by simpa using j1
    have hZ:=HZ.out w1 hO1 hf01
    have HN:=hid h1
    clear HE h1 HNew HHd HLg HEr
    go_wp2_with (first | (refine wpList_store_row rfl 23 (.tmp 2) (.tmp 18) rfl w.heap.size opZ rfl rfl 23 _ hO1 hinf rfl hone ?_))
    go_wp2_with fail
    (try simp only [Exit.inBlock,Exit.then])
    refine bodyPost_ret (v:=.tuple #[.agg opZ,.slice none 0 0,.int .i64 0,.int .i64 (xe:Int)]) (results_c3 Tryz.results36 _ _ w.heap.size 23 _ (0,0) _ _ _ _ rfl rfl rfl rfl hZ.2 Tryz.underlying23 rfl hinf) rfl ?_
    rw [HE1.out]
    exact⟨hZ.1,.inl ⟨HN.out,rfl⟩⟩
end Go.Proofs.YtdagmoonnbnceaaGreatDoor
