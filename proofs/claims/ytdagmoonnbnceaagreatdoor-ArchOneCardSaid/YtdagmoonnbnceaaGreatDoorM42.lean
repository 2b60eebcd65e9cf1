/- Parts of the proof of ArchOne: U6 Ue Uf Ug. -/
import Derived.Test.YtdagmoonnbnceaaGreatDoorM41
import Derived.Test.YtdagmoonnbnceaaGreatDoorM38
import Derived.Test.YtdagmoonnbnceaaGreatDoorM30
import Derived.Test.YtdagmoonnbnceaaGreatDoorM40
import Derived.Test.YtdagmoonnbnceaaGreatDoorM13
import Derived.Test.YtdagmoonnbnceaaGreatDoorM45
import Derived.Test.YtdagmoonnbnceaaGreatDoorM15
import Derived.Test.YtdagmoonnbnceaaGreatDoorM01
set_option linter.unusedVariables false
set_option linter.unusedSectionVars false
set_option linter.unusedSimpArgs false
set_option maxHeartbeats 8000000
set_option maxRecDepth 100000
namespace Go.Proofs.YtdagmoonnbnceaaGreatDoor
open Go.RowKit Go.Fk
theorem flag_any(p:Bool)(w:World):Calls Tryz.prog 28 #[.bool p] w fun e w'=>e=.returned (Fk.u8 (if p then 1 else 0))/\w=w':=by
 cases p
 · go_enter Tryz.func28, Tryz.ntmps28
   go_wp2_with fail
   go_ret
   exact⟨rfl,rfl⟩
 · go_enter Tryz.func28, Tryz.ntmps28
   go_wp2_with fail
   go_ret
   exact⟨rfl,rfl⟩
def frmW(p:Bool)(l:List Rec)(cs:List Nat)(k:Nat):List UInt8:=blockB p (bytesB true ((l.drop (cs.take k).sum).take (cs.getD k 0)))
def oneH(sz:Nat)(p:Bool)(nl ng:Nat):List UInt8:=markO 1++numB sz++[(if p then 1 else 0)]++numB nl++numB ng
def oneP(sz:Nat)(p:Bool)(l:List Rec):List UInt8:=
 putB (oneH sz p l.length (groupsL sz (lenR true) l).length++(frTo (frmW p l (groupsL sz (lenR true) l)) (groupsL sz (lenR true) l).length).flatten)
theorem oneT_small(r:Rec)(h:r.source.length+r.text.length<=3984):(oneB true r).length<=r.source.length+r.text.length+31:=oneB_len true r (by omega) (by omega)
theorem SmallL.bytesT{l:List Rec}(h:SmallL l)(g:List Rec)(hg:g.Sublist l):(bytesB true g).length<=6000:=by
 have h1:(bytesB true g).length<=(bytesB true l).length:=by
  unfold bytesB
  rw [flat_len,flat_len]
  exact wtS_sub _ hg
 have h2:(bytesB true l).length<=wtS (fun r=>wt1 r+15) l:=by
  unfold bytesB
  rw [flat_len]
  refine wtS_mono _ _ l fun r hr=>?_
  have:=oneT_small r (h.each r hr)
  unfold wt1;omega
 have h3:=wtS_split (fun r=>wt1 r+15) wt1 l 15 (fun r _=>by omega)
 have:=h.wt
 have:=h.len
 omega
theorem SmallL.frmT{l:List Rec}(h:SmallL l)(p:Bool)(cs:List Nat)(k:Nat):(bytesB true ((l.drop (cs.take k).sum).take (cs.getD k 0))).length<=6000/\(frmW p l cs k).length<=6025:=by
 have h1:=h.bytesT ((l.drop (cs.take k).sum).take (cs.getD k 0)) ((List.take_sublist _ _).trans (List.drop_sublist _ _))
 refine⟨h1,?_⟩
 have:=blockB_len p _ (Nat.lt_of_le_of_lt h1 (by omega))
 unfold frmW;omega
theorem oneH_len(sz:Nat)(p:Bool)(nl ng:Nat)(h1:sz<=32768)(h2:nl<=60)(h3:ng<=60):(oneH sz p nl ng).length<=36:=by
 have i1:=numB_le sz (by omega)
 have i2:=numB_le nl (by omega)
 have i3:=numB_le ng (by omega)
 unfold oneH markO
 simp only [List.length_append,List.length_cons,List.length_nil]
 omega
theorem frW_succ(fr:Nat->List UInt8)(H:List UInt8)(k:Nat):H++(frTo fr (k+1)).flatten=(H++(frTo fr k).flatten)++fr k:=by
 rw [frTo_succ,List.flatten_append,List.append_assoc];simp
theorem OPack_any (sz : Nat) (p : Bool) (h1 : 16 ≤ sz) (h2 : sz ≤ 32768) (v : Value) (l : List Rec) (w : World) (hs : See w eR v l) (hl : SmallL l) (ht : Crc w) :
    Calls Tryz.prog 14 #[optV ⟨(sz:Int),p,0,0,0,0⟩,v] w fun e w'=>∃ u,e=.returned (.tuple #[u,.int .i64 0])/\Ow w' w.heap.size eB u (oneP sz p l)/\Fr w w':=by
  have ho:opt1 ⟨(sz:Int),p,0,0,0,0⟩=true:=by unfold opt1;exact decide_eq_true ⟨by show(16:Int)<=(sz:Int);omega,by show(sz:Int)<=32768;omega⟩
  have HC:=hid (fun W=>OCheck1_any ⟨(sz:Int),p,0,0,0,0⟩ ⟨rfl,rfl,rfl,rfl⟩ W)
  rw [if_pos ho]at HC
  have HQ:=hid (fun W (h:Fr w W)=>QCheck_any v l W (hs.fr h))
  rw [if_pos hl.ok]at HQ
  have hbd:∀ r∈l,r.source.length<=100000/\r.text.length<=100000:=fun r hr=>by have:=hl.each r hr;omega
  have hlen:=hl.len
  have HGr:=hid (fun W (h:Fr w W)=>GroupsG_any true (fun r W h1 h2=>onew_any r W h1 h2) sz (by omega) (by omega) v l W (hs.fr h) (by omega) hbd)
  have hcsum:=groupsL_sum sz (lenR true) l
  have hcl:=groups_len sz (lenR true) l
  have HFm:=hid (fun cs k=>hl.frmT p cs k)
  have HMk:=hid (Mark1_any)
  have HNm:=hid (fun n (h:n<18446744073709551616) W=>Num_any n h W)
  have HFl:=hid (flag_any p)
  have HPo:=hid (fun v q W (h:Fr w W) (h2:See W eB v q) (h3:q.length<=1000000)=>Put_any v q W h2 h3 (ht.fr h))
  have HBy:=hid (fun v' (q:List Rec) W (h:See W eR v' q) (h2:(bytesB true q).length<=6000) (h3:∀ r∈q,r∈l)=>BytesG_any true (fun r W h1 h2=>onew_any r W h1 h2) v' q W h (by omega) (fun r hr=>hbd r (h3 r hr)))
  have HBW:=hid (fun v' q W (h:Fr w W) (h2:See W eB v' q) (h3:q.length<=32768)=>BWrite_any p v' q W h2 h3 (ht.fr h))
  have HT:Hid (oneP sz p l=putB (oneH sz p l.length (groupsL sz (lenR true) l).length++(frTo (frmW p l (groupsL sz (lenR true) l)) (groupsL sz (lenR true) l).length).flatten)):=rfl
  have HS0:=hid hs
  obtain⟨a0,cap,rfl,hcap1,hcap2,hnone⟩:=hs.shape
  unfold maxLen at hcap2
  clear hs hl ht hnone hbd ho
  generalize oneP sz p l=T at *
  generalize groupsL sz (lenR true) l=cs at *
  have HHl:=hid (oneH_len sz p l.length cs.length h2 hlen (by omega))
  have HHe:Hid (oneH sz p l.length cs.length=markO 1++numB sz++[(if p then 1 else 0)]++numB l.length++numB cs.length):=rfl
  have n1:=numB_le sz (by omega)
  have n2:=numB_le l.length (by omega)
  have n3:=numB_le cs.length (by omega)
  have HN1:=hid (HNm.out sz (by omega))
  have HN2:=hid (HNm.out l.length (by omega))
  have HN3:=hid (HNm.out cs.length (by omega))
  have HMl:Hid ((markO 1).length=5):=rfl
  generalize oneH sz p l.length cs.length=H at *
  generalize numB sz=nb1 at *
  generalize numB l.length=nb2 at *
  generalize numB cs.length=nb3 at *
  generalize markO 1=MK at *
  have HA5:=hid (fun W p0 p1 p2 p3 p4 h0 h1 h2 h3 h4=>all5_any W p0 p1 p2 p3 p4 MK nb1 [(if p then 1 else 0)] nb2 nb3 h0 h1 h2 h3 h4 (by have:=HMl.out;simp;omega))
  rw [<- HHe.out]at HA5
  generalize (if p then(1:UInt8)else 0)=fl at *
  clear HNm
  have w1:IntKind.u64.wrap (sz:Int)=(sz:Int):=IntWalk.u64_in _ (by omega)
  have w2:IntKind.u64.wrap (l.length:Int)=(l.length:Int):=IntWalk.u64_in _ (by omega)
  have w3:IntKind.u64.wrap (cs.length:Int)=(cs.length:Int):=IntWalk.u64_in _ (by omega)
  have hO0:=heap_new w (.cells #[N sz,.bool p,.int .i64 0,.int .i64 0,.int .i64 0,.int .i64 0] 23) w.heap.size rfl
  have hf0:Fr w (w.alloc (.cells #[N sz,.bool p,.int .i64 0,.int .i64 0,.int .i64 0,.int .i64 0] 23)):=(Fr.refl w).alloc _
  have hz0:w.heap.size+1<=(w.alloc (.cells #[N sz,.bool p,.int .i64 0,.int .i64 0,.int .i64 0,.int .i64 0] 23)).heap.size:=by simp
  go_enter Tryz.func14, Tryz.ntmps14
  go_wp2_with fail
  refine(HC.out _).mono ?_
  rintro e W1 ⟨rfl,hf1⟩
  have hO1:=hf1.heap hO0
  have hf01:=hf0.trans hf1
  have hz1:=Nat.le_trans hz0 hf1.size
  clear hO0 hf0 hz0 hf1
  go_wp2_with fail
  refine(HQ.out _ hf01).mono ?_
  rintro e W2 ⟨rfl,hf2⟩
  have hO2:=hf2.heap hO1
  have hf02:=hf01.trans hf2
  have hz2:=Nat.le_trans hz1 hf2.size
  have x2:=cellx hO2 0 rfl
  clear hO1 hf01 hf2 hz1
  go_wp2_with fail
  refine(HGr.out _ hf02).mono ?_
  rintro e W3 ⟨gv,rfl,hC3,hf3⟩
  obtain⟨ca,cc,rfl⟩:=hC3.shape'
  have hO3:=hf3.heap hO2
  have hC3:=hC3.rebase hf02.size
  have hf03:=hf02.trans hf3
  have hz3:=Nat.le_trans hz2 hf3.size
  clear hO2 hf02 hf3 hz2 x2
  go_wp2_with fail
  refine(HMk.out _).mono ?_
  rintro e W4 ⟨mv,rfl,hM4,hf4⟩
  obtain⟨ma,mc,rfl⟩:=hM4.shape'
  have hO4:=hf4.heap hO3
  have hC4:=hC3.fr hf4
  have hf04:=hf03.trans hf4
  have hz4:=Nat.le_trans hz3 hf4.size
  clear hO3 hf03 hC3 hz3
  have y0:=cellx hO4 0 rfl
  have y1:=cellx hO4 1 rfl
  go_upto_region 20 with fail
  have HL:=hid (fun W=>see_new eB W [fl] #[Fk.u8 fl] 5 1 rfl rfl (by show 1<=maxLen;unfold maxLen;omega))
  have HCe:=hid (fun W (h:Fr W4 W)=>And.intro (h.cell y0) (h.cell y1))
  go_cut [9]from 33 to 51 (fun ov wx=>∃ p9 z9,ov=.slice p9 H.length z9/\Ow wx w.heap.size eB ov H/\Fr W4 wx)
  case first=>
    go_region_held_law (fun w' => w'.cell? ⟨w.heap.size, 0, none⟩ = some (N sz) ∧ w'.cell? ⟨w.heap.size, 1, none⟩ = some (.bool p))
      (first | go_keep)
      (((first
        | (go_at_call_of 27 (Value.int IntKind.u64 (sz : Int)); refine (HN1.out _).mono ?_; rintro e w5 ⟨v5, rfl, hO5, hf5⟩; obtain ⟨p5, z5, hq5⟩ := hO5.shape'; subst hq5
           have g5 : Fr W4 w5 := (Fr.refl W4).drew.trans hf5
           obtain ⟨u0, u1⟩ := HCe.out w5 g5)
        | (go_at_call 28; refine (HFl.out _).mono ?_; rintro e w6 ⟨rfl, rfl⟩
           have gl5 : Fr W4 (w5.alloc (.cells #[Fk.u8 fl] 5)) := g5.alloc _
           obtain ⟨s0, s1⟩ := HCe.out _ gl5)
        | (go_at_call_of 27 (Value.int IntKind.u64 (l.length : Int)); refine (HN2.out (w5.alloc (.cells #[Fk.u8 fl] 5))).mono ?_; rintro e w7 ⟨v7, rfl, hO7, hf7⟩; obtain ⟨p7, z7, hq7⟩ := hO7.shape'; subst hq7
           have g7 := gl5.trans hf7
           have L7 := (HL.out w5).fr hf7
           have B7 := hO5.see.fr (((Fr.refl w5).alloc (.cells #[Fk.u8 fl] 5)).trans hf7)
           obtain ⟨t0, t1⟩ := HCe.out _ g7)
        | (go_at_call_of 27 (Value.int IntKind.u64 (l.length : Int)); refine (HN2.out w5).mono ?_; rintro e w7 ⟨v7, rfl, hO7, hf7⟩; obtain ⟨p7, z7, hq7⟩ := hO7.shape'; subst hq7
           have g7 := g5.trans hf7
           have B7 := hO5.see.fr hf7
           have gl7 : Fr W4 (w7.alloc (.cells #[Fk.u8 fl] 5)) := g7.alloc _
           obtain ⟨t0, t1⟩ := HCe.out _ g7
           obtain ⟨tt0, tt1⟩ := HCe.out _ gl7)
        | (go_at_call_of 27 (Value.int IntKind.u64 (cs.length : Int)); refine (HN3.out w7).mono ?_; rintro e w8 ⟨v8, rfl, hO8, hf8⟩; obtain ⟨p8, z8, hq8⟩ := hO8.shape'; subst hq8
           have L8 := L7.fr hf8
           have g8 := g7.trans hf8
           have B8 := B7.fr hf8
           have C8 := hO7.see.fr hf8
           obtain ⟨r0, r1⟩ := HCe.out _ g8)
        | (go_at_call_of 27 (Value.int IntKind.u64 (cs.length : Int)); refine (HN3.out (w7.alloc (.cells #[Fk.u8 fl] 5))).mono ?_; rintro e w8 ⟨v8, rfl, hO8, hf8⟩; obtain ⟨p8, z8, hq8⟩ := hO8.shape'; subst hq8
           have L8 := (HL.out w7).fr hf8
           have g8 := gl7.trans hf8
           have B8 := B7.fr (((Fr.refl w7).alloc (.cells #[Fk.u8 fl] 5)).trans hf8)
           have C8 := hO7.see.fr (((Fr.refl w7).alloc (.cells #[Fk.u8 fl] 5)).trans hf8)
           obtain ⟨r0, r1⟩ := HCe.out _ g8)
        | (go_at_call_of 27 (Value.int IntKind.u64 (cs.length : Int)); refine (HN3.out w7).mono ?_; rintro e w8 ⟨v8, rfl, hO8, hf8⟩; obtain ⟨p8, z8, hq8⟩ := hO8.shape'; subst hq8
           have g8 := g7.trans hf8
           have B8 := B7.fr hf8
           have C8 := hO7.see.fr hf8
           have gl8 : Fr W4 (w8.alloc (.cells #[Fk.u8 fl] 5)) := g8.alloc _
           obtain ⟨r0, r1⟩ := HCe.out _ g8
           obtain ⟨rr0, rr1⟩ := HCe.out _ gl8)
        | (go_at_call 26; refine (HA5.out w8 ⟨ma, MK.length, mc⟩ ⟨p5, nb1.length, z5⟩ ⟨some ⟨w5.heap.size, 0, none⟩, 1, 1⟩ ⟨p7, nb2.length, z7⟩ ⟨p8, nb3.length, z8⟩ (hM4.see.fr g8) B8 L8 C8 hO8.see).mono ?_; rintro e w9 ⟨v9, rfl, hO9, hf9⟩; obtain ⟨p9, z9, hq9⟩ := hO9.shape'; subst hq9
           have g9 := g8.trans hf9
           have hO9' := hO9.rebase (show w.heap.size ≤ w8.heap.size from Nat.le_trans hf04.size g8.size)
           obtain ⟨q0, q1⟩ := HCe.out _ g9)
        | (go_at_call 26; refine (HA5.out w8 ⟨ma, MK.length, mc⟩ ⟨p5, nb1.length, z5⟩ ⟨some ⟨w7.heap.size, 0, none⟩, 1, 1⟩ ⟨p7, nb2.length, z7⟩ ⟨p8, nb3.length, z8⟩ (hM4.see.fr g8) B8 L8 C8 hO8.see).mono ?_; rintro e w9 ⟨v9, rfl, hO9, hf9⟩; obtain ⟨p9, z9, hq9⟩ := hO9.shape'; subst hq9
           have g9 := g8.trans hf9
           have hO9' := hO9.rebase (show w.heap.size ≤ w8.heap.size from Nat.le_trans hf04.size g8.size)
           obtain ⟨q0, q1⟩ := HCe.out _ g9)
        | (go_at_call 26; have hA := HA5.out (w8.alloc (.cells #[Fk.u8 fl] 5)) ⟨ma, MK.length, mc⟩ ⟨p5, nb1.length, z5⟩ ⟨some ⟨w8.heap.size, 0, none⟩, 1, 1⟩ ⟨p7, nb2.length, z7⟩ ⟨p8, nb3.length, z8⟩ (hM4.see.fr gl8) (B8.fr ((Fr.refl w8).alloc (.cells #[Fk.u8 fl] 5))) (HL.out w8) (C8.fr ((Fr.refl w8).alloc (.cells #[Fk.u8 fl] 5))) (hO8.see.fr ((Fr.refl w8).alloc (.cells #[Fk.u8 fl] 5))); rw [size_alloc] at hA; refine hA.mono ?_; rintro e w9 ⟨v9, rfl, hO9, hf9⟩; obtain ⟨p9, z9, hq9⟩ := hO9.shape'; subst hq9
           have g9 := gl8.trans hf9
           have hO9' := hO9.rebase (show w.heap.size ≤ w8.heap.size + 1 from Nat.le_succ_of_le (Nat.le_trans hf04.size g8.size))
           obtain ⟨q0, q1⟩ := HCe.out _ g9))))
    all_goals go_wp2_with fail
    all_goals go_meet
    all_goals exact⟨_,_,rfl,hO9',g9⟩
  case rest=>
    obtain⟨p9,z9,rfl,hH10,hfr9⟩:=hcut
    have hO10:=hfr9.heap hO4
    have hC10:=hC4.fr hfr9
    have hf10:=hf04.trans hfr9
    clear hO4 hC4 hf04 hM4 hfr9 y0 y1 HN1 HN2 HN3 HA5 HFl HMk hz4 HHe HMl n1 n2 n3 w1 w2 w3 HL HCe
    obtain⟨O,hOe⟩:∃ O,O=w.heap.size:=⟨_,rfl⟩
    rw [<- hOe]at hO10 hC10 hH10
    have HO:=hid hOe
    rw [<- hOe]
    clear hOe
    have HTk:=hid (groups_sum_le cs)
    have HSn:=hid (sum_snoc cs)
    have HCs:=hid hcsum
    have HFT:=hid (frTo_len (frmW p l cs) 6025 (fun k=>(HFm.out cs k).2))
    have HFs:=hid (frW_succ (frmW p l cs) H)
    have HFd:Hid (∀ k,frmW p l cs k=blockB p (bytesB true ((l.drop (cs.take k).sum).take (cs.getD k 0)))):=fun _=>rfl
    go_upto_region 3 with fail
    go_loopw [9,1,54] (fun ov lv iv wr=>∃ (k:Nat) (q:Option Addr) (c:Nat),k<=cs.length/\iv=N k/\lv=.slice q (l.length - (cs.take k).sum) c/\See w eR lv (l.drop (cs.take k).sum)/\wr.heap[O]? = some (.cells #[N sz,.bool p,.int .i64 0,.int .i64 0,.int .i64 0,.int .i64 0] 23 (0,0))/\Ow wr O eJ (.slice ca cs.length cc) cs/\Ow wr O eB ov (H++(frTo (frmW p l cs) k).flatten)/\Fr w wr) (fun _ _ iv _=>cs.length - (intOf iv).toNat)
    case atStart=>exact⟨0,a0,cap,Nat.zero_le _,rfl,by simp,by simpa using HS0.out,hO10,hC10,by simpa [frTo] using hH10,hf10⟩
    case round=>
      clear hO10 hC10 hH10 hf10
      obtain⟨k,q,c,hk,rfl,rfl,hSl,hO1,hC,hB,hf⟩:=hrel
      by_cases hlt:k<cs.length
      · obtain⟨b1,off1,cap1,hv1,d1⟩:=numAt hC.see k hlt
        cases hv1
        have hs1:=HTk.out (k+1)
        have hss:=HCs.out
        have hsn:=HSn.out k hlt
        have hgd:cs.getD k 0=cs[k]:=by rw [List.getD_eq_getElem?_getD,List.getElem?_eq_getElem hlt];rfl
        have HFk:=hid (HFm.out cs k)
        have HFe:=hid (HFd.out k)
        have HFk2:=hid (HFs.out k)
        have hbl:=HFT.out k
        have hkm:k*6025<=60*6025:=Nat.mul_le_mul_right _ (by omega)
        rw [hgd]at HFk HFe
        generalize hm:(cs.take k).sum=m at *
        generalize hm2:(cs.take (k+1)).sum=m2 at *
        have HM2:=hid hm2
        clear hm hm2 hgd
        generalize cs[k]=n at *
        have hdl:(l.drop m).length=l.length - m:=List.length_drop
        obtain⟨htr,hts⟩:=run_to eR 24 Tryz.underlying24 (hSl.fr hf) n (by omega)
        obtain⟨q2,c2,hfr,hfs⟩:=run_from eR 24 Tryz.underlying24 hSl n (by omega)
        rw [List.drop_drop]at hfs
        rw [hdl,Nat.sub_sub]at hfr hfs
        have HMn:Hid (m2=m+n):=by show _=_;omega
        have HFs2:=hid hfs
        obtain⟨su,hsu⟩:∃ su,su=(l.drop m).take n:=⟨_,rfl⟩
        rw [<- hsu]at hts HFk HFe
        have HSu:=hid (show ∀ r∈su,r∈l from fun r hr=>by rw [hsu]at hr;exact List.mem_of_mem_drop (List.mem_of_mem_take hr))
        have hBy1:=hid (HBy.out _ su (wr.drew) hts.drew HFk.out.1 HSu.out)
        clear hsu hfs hdl hts hSl hs1 hss hsn
        generalize hL2:l.length - (m+n)=L2 at *
        have HL2:=hid hL2
        clear hL2
        generalize l.length - m=L1 at *
        generalize hby:bytesB true su=by_ at *
        have HWr:=hid (fun W (h:Fr w W) v' (h2:See W eB v' by_)=>HBW.out v' by_ W h h2 (by have:=HFk.out.1;omega))
        rw [<- HFe.out]at HWr
        have hfl:(frmW p l cs k).length<=6025:=HFk.out.2
        generalize hfe:frmW p l cs k=fk at *
        have HFk3:=hid hfe
        clear hfe hby HFe HBW HBy
        have i1:(0:Int)<=k:=by omega
        have i2:(k:Int)<cs.length:=by omega
        have x1:=cellx hO1 1 rfl
        have hszr:O<=wr.heap.size:=by have:=(Array.getElem?_eq_some_iff.1 hO1).1;omega
        go_wp2_with fail
        go_region_held3 (fun w' => w'.cell? ⟨O, 1, none⟩ = some (.bool p))
          (first | go_keep)
          ((first
            | (go_at_call 30; refine hBy1.out.mono ?_; rintro e w5 ⟨v5, rfl, hO5, hf5⟩; obtain ⟨p5, z5, hq5⟩ := hO5.shape'; subst hq5; have u1 := hf5.cell x1)
            | (go_at_call 29; refine (HWr.out _ (hf.trans ((Fr.refl wr).drew.trans hf5)) _ hO5.see).mono ?_; rintro e w6 ⟨v6, rfl, hO6, hf6⟩; obtain ⟨p6, z6, hq6⟩ := hO6.shape'; subst hq6; have t1 := hf6.cell u1)))
        have hfr6:Fr wr w6:=(Fr.refl wr).drew.trans (hf5.trans hf6)
        have hO7:=hfr6.heap hO1
        have hC7:=hC.fr hfr6
        have hB7:=hB.fr hfr6
        have hf7:=hf.trans hfr6
        have hsz6:O<=w6.heap.size:=Nat.le_trans hszr hfr6.size
        have hW7:=hO6.see
        have hlb:(H++(frTo (frmW p l cs) k).flatten).length+fk.length<=2147483648:=by rw [List.length_append];have:=HHl.out;omega
        clear hO1 hC hB hf hO5 hO6 hf5 hf6 u1 t1 hfr6 HWr hBy1 x1 d1 htr
        obtain⟨acc,hacc⟩:∃ acc,acc=H++(frTo (frmW p l cs) k).flatten:=⟨_,rfl⟩
        rw [<- hacc]at hB7 hlb HFk2
        clear hacc
        go_wp2_with (at_builtin;refine wpList_app eB rfl (.tmp 71) (.tmp 72) 27 rfl Tryz.underlying27 O rfl hB7 _ _ rfl hW7 hlb hsz6 ?_)
        intro v' w8 hap
        have hO8:=hap.chg'.heap hO7 (hB7.ne_cells hO7 (by decide))
        have hC8:=own_app hC7 hB7 hap (by decide)
        have hf8:Fr w w8:=hap.below hB7 hf7 (by rw [HO.out];exact Nat.le_refl _) hf7.size
        have hB8:=hap.own
        rw [<- HFk2.out]at hB8
        clear hap hB7 hC7 hO7 hf7 hW7
        go_wp2_with fail
        go_roundw
        case rel=>exact⟨k+1,q2,c2,by omega,by go_num,by rw [HM2.out,HMn.out,HL2.out],by rw [HM2.out,HMn.out];exact HFs2.out,hO8,hC8,hB8,hf8⟩
        case measure=>simp [intOf];omega
      · obtain rfl:k=cs.length:=by omega
        have hnl:¬(cs.length:Int)<cs.length:=by omega
        have hbl:=HFT.out cs.length
        have hkm:cs.length*6025<=60*6025:=Nat.mul_le_mul_right _ (by omega)
        have hlb:(H++(frTo (frmW p l cs) cs.length).flatten).length<=1000000:=by rw [List.length_append];have:=HHl.out;omega
        obtain⟨pa,pc,rfl⟩:=hB.shape'
        have HP1:=hid (HPo.out _ _ wr hf hB.see hlb)
        rw [<- HT.out]at HP1
        clear hSl hO1 hC hB
        generalize (H++(frTo (frmW p l cs) cs.length).flatten)=acc at *
        go_wp2_with fail
        refine HP1.out.mono ?_
        rintro e w2 ⟨v2,rfl,hO2,hf2⟩
        obtain⟨pa2,pc2,rfl⟩:=hO2.shape'
        go_wp2_with fail
        go_ret2
        exact⟨_,rfl,hO2.rebase hf.size,hf.trans hf2⟩
def l25:List Rec:=[⟨0,0,[],[97]⟩,⟨0,0,[],[98]⟩]
def x25:List UInt8:=oneP 16 false l25
theorem m25:markV x25=(1,0):=by decide +kernel
theorem e25:oneE x25=0:=by decide +kernel
theorem r25:(o1X (wholeR x25).1).1=l25:=by decide +kernel
theorem h25:(o1B (wholeR x25).1).1=16/\(o1P (wholeR x25).1).1=0/\(o1K (wholeR x25).1).1=1:=by decide +kernel
theorem b25:(bkW ((wholeR x25).1.drop (o1At (wholeR x25).1 0).at_)).1=0/\(blkR ((wholeR x25).1.drop (o1At (wholeR x25).1 0).at_)).1.length<=1000000/\(o1Out (wholeR x25).1 0).length+(o1L (wholeR x25).1 0).1.length<=1000000:=by decide +kernel
theorem n25:x25.length<=1000/\(wholeR x25).1.length<=1000:=by decide +kernel
theorem small25:SmallL l25:=⟨by decide,by decide⟩
theorem v25:versV [70,73,82,75,3]=(0,5):=by decide +kernel
theorem unpack25(v:Value)(w:World)(hs:See w eB v x25)(ht:Crc w) :
  Calls Tryz.prog 36 #[v] w fun e w'=>Fr w w'/\∃ u,e=.returned (.tuple #[optV ⟨16,false,0,0,0,0⟩,u,.int .i64 1,.int .i64 0])/\Ow w' w.heap.size eR u l25:=by
 have hw:∀ i,i<(o1K (wholeR x25).1).1->i=0:=fun i h=>by rw [h25.2.2]at h;omega
 refine(OUnpack_any v x25 w hs (Nat.le_trans n25.1 (by omega)) ht (fun i W u hi hf hu=>?_) (fun i hi=>?_) (fun k hk=>?_)).mono ?_
 · obtain rfl:=hw i hi
   exact BRead_st u _ W hu (by rw [List.length_drop];have:=n25.2;omega) (ht.fr hf) b25.1
 · obtain rfl:=hw i hi
   exact b25.2.1
 · obtain rfl:=hw k hk
   exact Nat.le_trans b25.2.2 (by decide)
 · rintro e w' ⟨hf,⟨h,_⟩ | ⟨_,u,rfl,hu⟩⟩
   · exact absurd e25 h
   · rw [r25]at hu
     refine⟨hf,u,?_,hu⟩
     rw [h25.1,h25.2.1,h25.2.2]
     rfl
theorem pack25(v:Value)(w:World)(hs:See w eR v l25)(ht:Crc w) :
  Calls Tryz.prog 6 #[.int .i64 1,optV ⟨16,false,0,0,0,0⟩,v] w fun e w'=>∃ u,e=.returned (.tuple #[u,.int .i64 0])/\Ow w' w.heap.size eB u x25/\Fr w w':=by
 have HP:=hid (fun W (h:Fr w W)=>OPack_any 16 false (by omega) (by omega) v l25 W (hs.fr h) small25 (ht.fr h))
 have HX:Hid (oneP 16 false l25=x25):=rfl
 rw [HX.out]at HP
 obtain⟨a0,cap,rfl,_⟩:=hs.shape
 have hO0:(w.alloc (.cells #[.int .i64 16,.bool false,.int .i64 0,.int .i64 0,.int .i64 0,.int .i64 0] 23)).heap[w.heap.size]? = some (.cells #[.int .i64 16,.bool false,.int .i64 0,.int .i64 0,.int .i64 0,.int .i64 0] 23 (0,0)):=heap_new _ _ _ rfl
 have hf0:Fr w (w.alloc (.cells #[.int .i64 16,.bool false,.int .i64 0,.int .i64 0,.int .i64 0,.int .i64 0] 23)):=(Fr.refl w).alloc _
 have hinf:(Tryz.prog.info? 23).map (·.size)=some 6:=by kernel_rfl
 have HP1:=hid (HP.out _ hf0)
 clear hs ht HP HX
 generalize l25.length=n at *
 generalize x25=X at *
 go_enter Tryz.func6, Tryz.ntmps6
 go_wp2_with (first | (refine wpList_load_row rfl 23 (.tmp 4) rfl w.heap.size rfl 23 #[.int .i64 16,.bool false,.int .i64 0,.int .i64 0,.int .i64 0,.int .i64 0] (0,0) _ hO0 Tryz.underlying23 rfl hinf ?_))
 refine(HP1.out).mono ?_
 rintro e w1 ⟨u,rfl,hO1,hf1⟩
 obtain⟨p1,z1,rfl⟩:=hO1.shape'
 go_wp2_with fail
 go_ret2
 exact⟨_,rfl,hO1.rebase hf0.size,hf0.trans hf1⟩
abbrev unB(v rec blk bad:Int)(cl:Bool)(lv:Value):Obj:=.cells #[.int .i64 v,.int .i64 rec,.int .i64 blk,.int .i64 bad,.bool cl,.int .i64 16,.bool false,.int .i64 0,.int .i64 0,.int .i64 0,.int .i64 0,lv] 51 (0,0)
def un8(w2:World)(g:Nat)(U:Value):World:=(((((((w2.setCell ⟨g,5,none⟩ (.int .i64 16)).setCell ⟨g,6,none⟩ (.bool false)).setCell ⟨g,7,none⟩ (.int .i64 0)).setCell ⟨g,8,none⟩ (.int .i64 0)).setCell ⟨g,9,none⟩ (.int .i64 0)).setCell ⟨g,10,none⟩ (.int .i64 0)).setCell ⟨g,11,none⟩ U).setCell ⟨g,2,none⟩ (.int .i64 1)
theorem un8_at{w2:World}{g:Nat}(U:Value)(h:w2.heap[g]? = some (.cells #[N 1,.int .i64 0,.int .i64 0,.int .i64 0,.bool false,.int .i64 0,.bool false,.int .i64 0,.int .i64 0,.int .i64 0,.int .i64 0,.slice none 0 0] 51 (0,0))):(un8 w2 g U).heap[g]? = some (unB 1 0 1 0 false U)/\Chg (fun k=>k=g) w2 (un8 w2 g U):=by
  unfold un8
  have h0:(w2.setCell ⟨g,5,none⟩ (.int .i64 16)).heap[g]? = some (.cells #[N 1,.int .i64 0,.int .i64 0,.int .i64 0,.bool false,.int .i64 16,.bool false,.int .i64 0,.int .i64 0,.int .i64 0,.int .i64 0,.slice none 0 0] 51 (0,0)):=heap_setCell_own h 5 _
  have c0:=setCell_chg w2 ⟨g,5,none⟩ (.int .i64 16)
  generalize w2.setCell ⟨g,5,none⟩ (.int .i64 16)=V0 at *
  have h1:(V0.setCell ⟨g,6,none⟩ (.bool false)).heap[g]? = some (.cells #[N 1,.int .i64 0,.int .i64 0,.int .i64 0,.bool false,.int .i64 16,.bool false,.int .i64 0,.int .i64 0,.int .i64 0,.int .i64 0,.slice none 0 0] 51 (0,0)):=heap_setCell_own h0 6 _
  have c1:=setCell_chg V0 ⟨g,6,none⟩ (.bool false)
  generalize V0.setCell ⟨g,6,none⟩ (.bool false)=V1 at *
  have h2:(V1.setCell ⟨g,7,none⟩ (.int .i64 0)).heap[g]? = some (.cells #[N 1,.int .i64 0,.int .i64 0,.int .i64 0,.bool false,.int .i64 16,.bool false,.int .i64 0,.int .i64 0,.int .i64 0,.int .i64 0,.slice none 0 0] 51 (0,0)):=heap_setCell_own h1 7 _
  have c2:=setCell_chg V1 ⟨g,7,none⟩ (.int .i64 0)
  generalize V1.setCell ⟨g,7,none⟩ (.int .i64 0)=V2 at *
  have h3:(V2.setCell ⟨g,8,none⟩ (.int .i64 0)).heap[g]? = some (.cells #[N 1,.int .i64 0,.int .i64 0,.int .i64 0,.bool false,.int .i64 16,.bool false,.int .i64 0,.int .i64 0,.int .i64 0,.int .i64 0,.slice none 0 0] 51 (0,0)):=heap_setCell_own h2 8 _
  have c3:=setCell_chg V2 ⟨g,8,none⟩ (.int .i64 0)
  generalize V2.setCell ⟨g,8,none⟩ (.int .i64 0)=V3 at *
  have h4:(V3.setCell ⟨g,9,none⟩ (.int .i64 0)).heap[g]? = some (.cells #[N 1,.int .i64 0,.int .i64 0,.int .i64 0,.bool false,.int .i64 16,.bool false,.int .i64 0,.int .i64 0,.int .i64 0,.int .i64 0,.slice none 0 0] 51 (0,0)):=heap_setCell_own h3 9 _
  have c4:=setCell_chg V3 ⟨g,9,none⟩ (.int .i64 0)
  generalize V3.setCell ⟨g,9,none⟩ (.int .i64 0)=V4 at *
  have h5:(V4.setCell ⟨g,10,none⟩ (.int .i64 0)).heap[g]? = some (.cells #[N 1,.int .i64 0,.int .i64 0,.int .i64 0,.bool false,.int .i64 16,.bool false,.int .i64 0,.int .i64 0,.int .i64 0,.int .i64 0,.slice none 0 0] 51 (0,0)):=heap_setCell_own h4 10 _
  have c5:=setCell_chg V4 ⟨g,10,none⟩ (.int .i64 0)
  generalize V4.setCell ⟨g,10,none⟩ (.int .i64 0)=V5 at *
  have h6:(V5.setCell ⟨g,11,none⟩ U).heap[g]? = some (.cells #[N 1,.int .i64 0,.int .i64 0,.int .i64 0,.bool false,.int .i64 16,.bool false,.int .i64 0,.int .i64 0,.int .i64 0,.int .i64 0,U] 51 (0,0)):=heap_setCell_own h5 11 _
  have c6:=setCell_chg V5 ⟨g,11,none⟩ U
  generalize V5.setCell ⟨g,11,none⟩ U=V6 at *
  have h7:(V6.setCell ⟨g,2,none⟩ (.int .i64 1)).heap[g]? = some (.cells #[N 1,.int .i64 0,.int .i64 1,.int .i64 0,.bool false,.int .i64 16,.bool false,.int .i64 0,.int .i64 0,.int .i64 0,.int .i64 0,U] 51 (0,0)):=heap_setCell_own h6 2 _
  have c7:=setCell_chg V6 ⟨g,2,none⟩ (.int .i64 1)
  generalize V6.setCell ⟨g,2,none⟩ (.int .i64 1)=V7 at *
  exact⟨h7,(((((((c0.trans c1 fun _ _ h=>h).trans c2 fun _ _ h=>h).trans c3 fun _ _ h=>h).trans c4 fun _ _ h=>h).trans c5 fun _ _ h=>h).trans c6 fun _ _ h=>h).trans c7 fun _ _ h=>h)⟩
theorem aunpack25 (v : Value) (w : World) (hs : See w eB v x25) (ht : Crc w) :
    Calls Tryz.prog 17 #[v] w fun e w'=>∃ g u,e=.returned (.tuple #[.pointer (some ⟨g,0,none⟩),.int .i64 0])/\w'.heap[g]? = some (unB 1 2 1 0 false u)/\w.heap.size<=g/\Ow w' w.heap.size eR u l25/\Fr w w':=by
  have HV:=hid (AVersion_any v x25 w hs ht)
  have hv1:versV x25=(1,0):=by rw [vers_low x25 (by rw [m25];exact .inl rfl),m25]
  rw [hv1]at HV
  have HU:=hid (fun W (h:Fr w W)=>unpack25 v W (hs.fr h) (ht.fr h))
  have HL:Hid (l25.length=2):=rfl
  obtain⟨a0,cap,rfl,_⟩:=hs.shape
  clear hs ht hv1
  generalize x25=X at *
  generalize l25=L at *
  go_enter Tryz.func17, Tryz.ntmps17
  go_wp2_with fail
  refine(HV.out).mono ?_
  rintro e w1 ⟨rfl,hf1⟩
  have hfa:Fr w1 (w1.alloc (.cells #[N 1,.int .i64 0,.int .i64 0,.int .i64 0,.bool false,.int .i64 0,.bool false,.int .i64 0,.int .i64 0,.int .i64 0,.int .i64 0,.slice none 0 0] 51)):=(Fr.refl w1).alloc _
  have hG0:(w1.alloc (.cells #[N 1,.int .i64 0,.int .i64 0,.int .i64 0,.bool false,.int .i64 0,.bool false,.int .i64 0,.int .i64 0,.int .i64 0,.int .i64 0,.slice none 0 0] 51)).heap[w1.heap.size]? = some (.cells #[N 1,.int .i64 0,.int .i64 0,.int .i64 0,.bool false,.int .i64 0,.bool false,.int .i64 0,.int .i64 0,.int .i64 0,.int .i64 0,.slice none 0 0] 51 (0,0)):=heap_new _ _ _ rfl
  have hf0:=hf1.trans hfa
  have HU1:=hid (HU.out _ hf0)
  have hgw:w.heap.size<=w1.heap.size:=hf1.size
  clear HU hf1 hfa
  go_wp2_with fail
  refine(HU1.out).mono ?_
  rintro e w2 ⟨hf2,u,rfl,hO2⟩
  have hG2:=hf2.heap hG0
  have hf02:=hf0.trans hf2
  have hO:=hO2.rebase hf0.size
  clear HU1 hG0 hf0 hf2 hO2
  generalize w1.heap.size=g at *
  have c0:=cellx hG2 0 rfl
  have c1:=cellx hG2 1 rfl
  have c2:=cellx hG2 2 rfl
  have c3:=cellx hG2 3 rfl
  have c4:=cellx hG2 4 rfl
  have c5:=cellx hG2 5 rfl
  have c6:=cellx hG2 6 rfl
  have c7:=cellx hG2 7 rfl
  have c8:=cellx hG2 8 rfl
  have c9:=cellx hG2 9 rfl
  have c10:=cellx hG2 10 rfl
  have c11:=cellx hG2 11 rfl
  have z2:=frozen_of_heap hG2 2
  have z5:=frozen_of_heap hG2 5
  have z6:=frozen_of_heap hG2 6
  have z7:=frozen_of_heap hG2 7
  have z8:=frozen_of_heap hG2 8
  have z9:=frozen_of_heap hG2 9
  have z10:=frozen_of_heap hG2 10
  have z11:=frozen_of_heap hG2 11
  obtain⟨pu,zu,rfl⟩:=hO.shape'
  have HG2:=hid hG2
  have HO:=hid hO
  have HF:=hid hf02
  rw [HL.out]
  clear hG2 hO hf02
  go_upto_region 10 with fail
  generalize hW:(((((((w2.setCell ⟨g,5,none⟩ (.int .i64 16)).setCell ⟨g,6,none⟩ (.bool false)).setCell ⟨g,7,none⟩ (.int .i64 0)).setCell ⟨g,8,none⟩ (.int .i64 0)).setCell ⟨g,9,none⟩ (.int .i64 0)).setCell ⟨g,10,none⟩ (.int .i64 0)).setCell ⟨g,11,none⟩ (.slice pu 2 zu)).setCell ⟨g,2,none⟩ (.int .i64 1)=W3
  obtain⟨hG3,hc3⟩:=(fun W' (h:W'=un8 w2 g (.slice pu 2 zu))=>(by subst h;exact un8_at _ HG2.out:W'.heap[g]? = some (unB 1 0 1 0 false (.slice pu 2 zu))/\Chg (fun k=>k=g) w2 W')) W3 hW.symm
  clear hW
  have y11:=cellx hG3 11 rfl
  have y1:=cellx hG3 1 rfl
  have x1:=frozen_of_heap hG3 1
  have hG4:=heap_setCell_own hG3 1 (.int .i64 2)
  have hc4:=hc3.trans (setCell_chg W3 ⟨g,1,none⟩ (.int .i64 2)) (fun _ _ h=>h)
  have hO4:=HO.out.chg hc4 (fun k hk e=>HO.out.ne_cells HG2.out (by decide) (by rw [hk,show k=g from e]))
  have hF4:Fr w (W3.setCell ⟨g,1,none⟩ (.int .i64 2)):=Chg.below HF.out hc4 HF.out.size (fun i e=>by rw [show i=g from e];exact hgw)
  clear c0 c1 c2 c3 c4 c5 c6 c7 c8 c9 c10 c11 z2 z5 z6 z7 z8 z9 z10 z11 hc3
  go_wp2_with fail
  go_ret2
  rw [HL.out]at hO4
  exact⟨g,_,rfl,hG4,hgw,hO4,hF4⟩
theorem BytesEq_any(va vb:Value)(a:List UInt8)(w:World)(ha:See w eB va a)(hb:See w eB vb a) :
  Calls Tryz.prog 18 #[va,vb] w fun e w'=>e=.returned (.bool true)/\w=w':=by
 have k1:=run_conv_see eB w 27 9 Tryz.underlying27 Tryz.underlying5 Tryz.underlying9 rfl rfl ha
 have k2:=run_conv_see eB w 27 9 Tryz.underlying27 Tryz.underlying5 Tryz.underlying9 rfl rfl hb
 obtain⟨a0,cap,rfl,_⟩:=ha.shape
 obtain⟨b0,cap2,rfl,_⟩:=hb.shape
 clear ha hb
 go_enter Tryz.func18, Tryz.ntmps18
 go_wp2_with fail
 go_ret
 exact⟨by simp,rfl⟩
def st5(W:World)(z:Nat)(v0 v1 v2 v3 v4:Value):World:=((((W.setCell ⟨z,0,none⟩ v0).setCell ⟨z,1,none⟩ v1).setCell ⟨z,2,none⟩ v2).setCell ⟨z,3,none⟩ v3).setCell ⟨z,4,none⟩ v4
theorem st5_at{T:TypeId}{W:World}{z:Nat}{u0 u1 u2 u3 u4:Value}(v0 v1 v2 v3 v4:Value)(h:W.heap[z]? = some (.cells #[u0,u1,u2,u3,u4] T (0,0))):(st5 W z v0 v1 v2 v3 v4).heap[z]? = some (.cells #[v0,v1,v2,v3,v4] T (0,0))/\Chg (fun k=>k=z) W (st5 W z v0 v1 v2 v3 v4):=by
  unfold st5
  have h0:(W.setCell ⟨z,0,none⟩ v0).heap[z]? = some (.cells #[v0,u1,u2,u3,u4] T (0,0)):=heap_setCell_own h 0 v0
  have c0:=setCell_chg W ⟨z,0,none⟩ v0
  generalize W.setCell ⟨z,0,none⟩ v0=W0 at *
  have h1:(W0.setCell ⟨z,1,none⟩ v1).heap[z]? = some (.cells #[v0,v1,u2,u3,u4] T (0,0)):=heap_setCell_own h0 1 v1
  have c1:=setCell_chg W0 ⟨z,1,none⟩ v1
  generalize W0.setCell ⟨z,1,none⟩ v1=W1 at *
  have h2:(W1.setCell ⟨z,2,none⟩ v2).heap[z]? = some (.cells #[v0,v1,v2,u3,u4] T (0,0)):=heap_setCell_own h1 2 v2
  have c2:=setCell_chg W1 ⟨z,2,none⟩ v2
  generalize W1.setCell ⟨z,2,none⟩ v2=W2 at *
  have h3:(W2.setCell ⟨z,3,none⟩ v3).heap[z]? = some (.cells #[v0,v1,v2,v3,u4] T (0,0)):=heap_setCell_own h2 3 v3
  have c3:=setCell_chg W2 ⟨z,3,none⟩ v3
  generalize W2.setCell ⟨z,3,none⟩ v3=W3 at *
  have h4:(W3.setCell ⟨z,4,none⟩ v4).heap[z]? = some (.cells #[v0,v1,v2,v3,v4] T (0,0)):=heap_setCell_own h3 4 v4
  have c4:=setCell_chg W3 ⟨z,4,none⟩ v4
  generalize W3.setCell ⟨z,4,none⟩ v4=W4 at *
  exact⟨h4,(((c0.trans c1 fun _ _ h=>h).trans c2 fun _ _ h=>h).trans c3 fun _ _ h=>h).trans c4 fun _ _ h=>h⟩
theorem verify25 (v : Value) (w : World) (hs : See w eB v x25) (ht : Crc w) :
    Calls Tryz.prog 9 #[v] w fun e w'=>e=.returned (.tuple #[.agg #[.int .i64 1,.int .i64 2,.int .i64 1,.int .i64 0,.bool true],.int .i64 0])/\Fr w w':=by
  have HU:=hid (fun W (h:Fr w W)=>aunpack25 v W (hs.fr h) (ht.fr h))
  have HP:=hid (fun u W (h:Fr w W) (h2:See W eR u l25)=>pack25 u W h2 (ht.fr h))
  have HEq:=hid (fun u W (h:Fr w W) (h2:See W eB u x25)=>BytesEq_any u v x25 W h2 (hs.fr h))
  have HL:Hid (l25.length=2):=rfl
  have hO0:(w.alloc (.cells #[.int .i64 0,.int .i64 0,.int .i64 0,.int .i64 0,.bool false] 38)).heap[w.heap.size]? = some (.cells #[.int .i64 0,.int .i64 0,.int .i64 0,.int .i64 0,.bool false] 38 (0,0)):=heap_new _ _ _ rfl
  have hf0:Fr w (w.alloc (.cells #[.int .i64 0,.int .i64 0,.int .i64 0,.int .i64 0,.bool false] 38)):=(Fr.refl w).alloc _
  have hz0:w.heap.size+1<=(w.alloc (.cells #[.int .i64 0,.int .i64 0,.int .i64 0,.int .i64 0,.bool false] 38)).heap.size:=by simp
  obtain⟨a0,cap,rfl,_⟩:=hs.shape
  clear hs ht
  generalize x25=X at *
  generalize l25=L at *
  have HU1:=hid (HU.out _ hf0)
  go_enter Tryz.func9, Tryz.ntmps9
  go_wp2_with fail
  refine(HU1.out).mono ?_
  rintro e w1 ⟨g,u,rfl,hG1,hgw,hO1,hf1⟩
  have hR1:=hf1.heap hO0
  have hf01:=hf0.trans hf1
  have hgR:w.heap.size≠g:=by omega
  obtain⟨pu,zu,rfl⟩:=hO1.shape'
  rw [HL.out]at hO1 hG1
  have c0:=cellx hG1 0 rfl
  have c5:=cellx hG1 5 rfl
  have c6:=cellx hG1 6 rfl
  have c7:=cellx hG1 7 rfl
  have c8:=cellx hG1 8 rfl
  have c9:=cellx hG1 9 rfl
  have c10:=cellx hG1 10 rfl
  have c11:=cellx hG1 11 rfl
  have HP1:=hid (HP.out _ w1.drew (hf01.trans (Fr.refl w1).drew) hO1.see.drew)
  clear HU HU1 hO0 hf0 hf1 HP
  go_upto_region 4 with fail
  go_cut [6,5]from 16 to 32 (fun av ev wx=>∃ pa za,av=.slice pa X.length za/\ev=.int .i64 0/\Ow wx w1.heap.size eB av X/\Fr w1 wx)
  case first=>
    go_region_held3 (fun W => W.cell? ⟨g, 0, none⟩ = some (.int .i64 1) ∧ W.cell? ⟨g, 5, none⟩ = some (.int .i64 16) ∧ W.cell? ⟨g, 6, none⟩ = some (.bool false) ∧ W.cell? ⟨g, 7, none⟩ = some (.int .i64 0) ∧ W.cell? ⟨g, 8, none⟩ = some (.int .i64 0) ∧ W.cell? ⟨g, 9, none⟩ = some (.int .i64 0) ∧ W.cell? ⟨g, 10, none⟩ = some (.int .i64 0) ∧ W.cell? ⟨g, 11, none⟩ = some (.slice pu 2 zu))
      (first | go_keep)
      ((first
        | (go_at_call 6; refine HP1.out.mono ?_; rintro e w2 ⟨u2, rfl, hO2, hf2⟩; obtain ⟨p2, z2, hq2⟩ := hO2.shape'; subst hq2
           have d0 := hf2.cell c0; have d5 := hf2.cell c5; have d6 := hf2.cell c6; have d7 := hf2.cell c7; have d8 := hf2.cell c8; have d9 := hf2.cell c9; have d10 := hf2.cell c10; have d11 := hf2.cell c11)))
    all_goals go_wp2_with fail
    all_goals go_meet
    all_goals exact⟨_,_,rfl,rfl,hO2,(Fr.refl w1).drew.trans hf2⟩
  case rest=>
    obtain⟨pa,za,rfl,rfl,hO3,hf3⟩:=hcut
    have hG3:=hf3.heap hG1
    have hR3:=hf3.heap hR1
    have hf03:=hf01.trans hf3
    have HE3:=hid (HEq.out _ wc hf03 hO3.see)
    clear HP1 HEq hO1 hG1 hR1 c0 c5 c6 c7 c8 c9 c10 c11 HL
    have x4:=frozen_of_heap hG3 4
    have y4:=cellx hG3 4 rfl
    go_upto_region 6 with(first | (refine(HE3.out).mono ?_;rintro e w4 ⟨rfl,rfl⟩))
    have hG4:=heap_setCell_own hG3 4 (.bool true)
    have hc4:=setCell_chg wc ⟨g,4,none⟩ (.bool true)
    have hR4:=hc4.heap hR3 (fun e=>hgR e)
    have hF4:Fr w (wc.setCell ⟨g,4,none⟩ (.bool true)):=Chg.below hf03 hc4 hf03.size (fun i e=>by rw [show i=g from e];exact Nat.le_of_succ_le (Nat.le_trans hz0 hgw))
    clear hG3 hR3 hf03 hf3 hO3 x4 y4 hf01 hc4 HE3
    generalize wc.setCell ⟨g,4,none⟩ (.bool true)=W4 at *
    have c0:=cellx hG4 0 rfl
    have c1:=cellx hG4 1 rfl
    have c2:=cellx hG4 2 rfl
    have c3:=cellx hG4 3 rfl
    have c4:=cellx hG4 4 rfl
    have d0:=cellx hR4 0 rfl
    have d1:=cellx hR4 1 rfl
    have d2:=cellx hR4 2 rfl
    have d3:=cellx hR4 3 rfl
    have d4:=cellx hR4 4 rfl
    have z0:=frozen_of_heap hR4 0
    have z1:=frozen_of_heap hR4 1
    have z2:=frozen_of_heap hR4 2
    have z3:=frozen_of_heap hR4 3
    have z4:=frozen_of_heap hR4 4
    have KZ := hid (fun W' (h : W' = ((((W4.setCell ⟨w.heap.size, 0, none⟩ (.int .i64 1)).setCell ⟨w.heap.size, 1, none⟩ (.int .i64 2)).setCell ⟨w.heap.size, 2, none⟩ (.int .i64 1)).setCell ⟨w.heap.size, 3, none⟩ (.int .i64 0)).setCell ⟨w.heap.size, 4, none⟩ (.bool true)) => by
      have hs := st5_at (.int .i64 1) (.int .i64 2) (.int .i64 1) (.int .i64 0) (.bool true) hR4
      rw [show st5 W4 w.heap.size (.int .i64 1) (.int .i64 2) (.int .i64 1) (.int .i64 0) (.bool true) = W' from h.symm] at hs
      exact (⟨hs.1, Chg.below hF4 hs.2 hF4.size (fun i e => Nat.le_of_eq (show w.heap.size = i from e.symm))⟩ : W'.heap[w.heap.size]? = some (.cells #[.int .i64 1, .int .i64 2, .int .i64 1, .int .i64 0, .bool true] 38 (0, 0)) ∧ Fr w W'))
    clear hG4 hR4 hF4
    have hinf:(Tryz.prog.info? 38).map (·.size)=some 5:=by kernel_rfl
    go_wp2_with fail
    generalize hW:((((W4.setCell ⟨w.heap.size,0,none⟩ (.int .i64 1)).setCell ⟨w.heap.size,1,none⟩ (.int .i64 2)).setCell ⟨w.heap.size,2,none⟩ (.int .i64 1)).setCell ⟨w.heap.size,3,none⟩ (.int .i64 0)).setCell ⟨w.heap.size,4,none⟩ (.bool true)=W'
    obtain⟨hR5,hF5⟩:=KZ.out W' hW.symm
    clear hW KZ
    refine bodyPost_ret (v:=.tuple #[.agg #[.int .i64 1,.int .i64 2,.int .i64 1,.int .i64 0,.bool true],.int .i64 0]) (results_cell_tmp Tryz.results9 _ _ w.heap.size 38 _ (0,0) _ _ rfl rfl hR5 Tryz.underlying38 rfl hinf) rfl ?_
    exact⟨rfl,hF5⟩
theorem see_five(W:World):See (W.alloc (.cells #[.int .u8 70,.int .u8 73,.int .u8 82,.int .u8 75,.int .u8 3] 5 (5,6))) eB (.slice (some ⟨W.heap.size,0,none⟩) 5 5) [70,73,82,75,3]:=by
 refine⟨eB.length_cells _,_,_,rfl,Nat.le_refl _,(by show 5<=maxLen;unfold maxLen;decide),by simp,.inr ⟨W.heap.size,0,rfl,fun j u hj=>?_⟩⟩
 rw [Nat.zero_add,cell_of_heap (heap_new W (.cells #[.int .u8 70,.int .u8 73,.int .u8 82,.int .u8 75,.int .u8 3] 5 (5,6)) W.heap.size rfl)]
 rw [show eB.cells [70,73,82,75,3]=(#[.int .u8 70,.int .u8 73,.int .u8 82,.int .u8 75,.int .u8 3]:Array Value).toList from rfl]at hj
 simpa using hj
theorem alive25(w:World)(ht:Crc w) :
  Calls Tryz.prog 4 #[] w fun e w'=>e=.returned (.bool true)/\Fr w w':=by
 have hs0:See (w.alloc (.cells #[.int .u64 0,.int .u8 0,.string ⟨#[]⟩,.string ⟨#[97]⟩,.int .u64 0,.int .u8 0,.string ⟨#[]⟩,.string ⟨#[98]⟩] 36)) eR (.slice (some ⟨w.heap.size,0,none⟩) 2 2) l25:=see_new eR w l25 _ _ 2 rfl rfl (by show 2<=maxLen;unfold maxLen;decide)
 have hf0:Fr w (w.alloc (.cells #[.int .u64 0,.int .u8 0,.string ⟨#[]⟩,.string ⟨#[97]⟩,.int .u64 0,.int .u8 0,.string ⟨#[]⟩,.string ⟨#[98]⟩] 36)):=(Fr.refl w).alloc _
 have HP:=hid (pack25 _ _ hs0 (ht.fr hf0))
 have HV:=hid (fun v W (h:Fr w W) (h2:See W eB v x25)=>verify25 v W h2 (ht.fr h))
 have HA:=hid (fun v W (h:Fr w W) (h2:See W eB v [70,73,82,75,3])=>AVersion_any v [70,73,82,75,3] W h2 (ht.fr h))
 have HN:=hid see_five
 have hl:Hid (x25.length<=1000):=n25.1
 rw [v25]at HA
 clear ht hs0
 generalize x25=X at *
 go_enter Tryz.func4, Tryz.ntmps4
 go_wp2_with fail
 refine(HP.out).mono ?_
 rintro e w1 ⟨u,rfl,hO1,hf1⟩
 have hf01:=hf0.trans hf1
 have HV1:=hid (HV.out u w1 hf01 hO1.see)
 obtain⟨p1,z1,rfl⟩:=hO1.shape'
 clear HP HV hf0 hf1 hO1
 go_wp2_with fail
 refine(HV1.out).mono ?_
 rintro e w2 ⟨rfl,hf2⟩
 have hf02:=hf01.trans hf2
 clear HV1 hf01 hf2
 go_upto_region 3 with fail
 have hB3:(w2.alloc (.cells #[.int .i64 1,.int .i64 2,.int .i64 1,.int .i64 0,.bool true] 38)).heap[w2.heap.size]? = some (.cells #[.int .i64 1,.int .i64 2,.int .i64 1,.int .i64 0,.bool true] 38 (0,0)):=heap_new _ _ _ rfl
 have hf3:Fr w (w2.alloc (.cells #[.int .i64 1,.int .i64 2,.int .i64 1,.int .i64 0,.bool true] 38)):=hf02.trans ((Fr.refl w2).alloc _)
 generalize w2.alloc (.cells #[.int .i64 1,.int .i64 2,.int .i64 1,.int .i64 0,.bool true] 38)=W3 at *
 have hf34:Fr W3 (W3.alloc (.cells #[.int .u8 70,.int .u8 73,.int .u8 82,.int .u8 75,.int .u8 3] 5 (5,6))):=(Fr.refl W3).alloc _
 have HA1:=hid (HA.out _ _ (hf3.trans hf34) (HN.out W3))
 have hcv:(convert 27 27 (.slice (some ⟨W3.heap.size,0,none⟩) 5 5)).run Tryz.prog (W3.alloc (.cells #[.int .u8 70,.int .u8 73,.int .u8 82,.int .u8 75,.int .u8 3] 5))=.ok (.slice (some ⟨W3.heap.size,0,none⟩) 5 5) (W3.alloc (.cells #[.int .u8 70,.int .u8 73,.int .u8 82,.int .u8 75,.int .u8 3] 5 (5,6))):=
  Go.Joins.run_convert_bytes_const_at W3 27 5 #[.int .u8 70,.int .u8 73,.int .u8 82,.int .u8 75,.int .u8 3] 5 5 W3.heap.size rfl Tryz.underlying27 Tryz.underlying5
 clear HA HN hf02
 go_wp2_with fail
 refine(HA1.out).mono ?_
 rintro e w4 ⟨rfl,hf4⟩
 have hB4:=(hf34.trans hf4).heap hB3
 have hf5:=(hf3.trans hf34).trans hf4
 clear HA1 hf3 hf34 hf4 hB3
 obtain⟨y0,y1,y2,y3,y4⟩:=(show w4.cell? ⟨w2.heap.size,0,none⟩=some (.int .i64 1)/\w4.cell? ⟨w2.heap.size,1,none⟩=some (.int .i64 2)/\w4.cell? ⟨w2.heap.size,2,none⟩=some (.int .i64 1)/\w4.cell? ⟨w2.heap.size,3,none⟩=some (.int .i64 0)/\w4.cell? ⟨w2.heap.size,4,none⟩=some (.bool true)from⟨by rw [cell_of_heap hB4];rfl,by rw [cell_of_heap hB4];rfl,by rw [cell_of_heap hB4];rfl,by rw [cell_of_heap hB4];rfl,by rw [cell_of_heap hB4];rfl⟩)
 go_wp2_with fail
 go_ret
 exact⟨rfl,hf5⟩
end Go.Proofs.YtdagmoonnbnceaaGreatDoor
