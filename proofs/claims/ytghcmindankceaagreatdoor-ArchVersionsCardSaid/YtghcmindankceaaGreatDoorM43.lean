/- Parts of the proof of ArchVersions: U6 Ue. -/
import Derived.Test.YtghcmindankceaaGreatDoorM20
import Derived.Test.YtghcmindankceaaGreatDoorM22
import Derived.Test.YtghcmindankceaaGreatDoorM40
import Derived.Test.YtghcmindankceaaGreatDoorM42
import Derived.Test.YtghcmindankceaaGreatDoorM12
import Derived.Test.YtghcmindankceaaGreatDoorM46
import Derived.Test.YtghcmindankceaaGreatDoorM15
set_option linter.unusedVariables false
set_option linter.unusedSectionVars false
set_option linter.unusedSimpArgs false
set_option maxHeartbeats 8000000
namespace Go.Proofs.YtghcmindankceaaGreatDoor
open Go.RowKit Go.Fk
set_option maxRecDepth 100000
theorem flag_any(p:Bool)(w:World):Calls Tryz.prog 116 #[.bool p] w fun e w'=>e=.returned (Fk.u8 (if p then 1 else 0))/\w=w':=by
 cases p
 · go_enter Tryz.func116, Tryz.ntmps116
   go_wp2_with fail
   go_ret
   exact⟨rfl,rfl⟩
 · go_enter Tryz.func116, Tryz.ntmps116
   go_wp2_with fail
   go_ret
   exact⟨rfl,rfl⟩
set_option maxRecDepth 512
def frmW(p:Bool)(l:List Rec)(cs:List Nat)(k:Nat):List UInt8:=blockB p (bytesB true ((l.drop (cs.take k).sum).take (cs.getD k 0)))
def oneH(sz:Nat)(p:Bool)(nl ng:Nat):List UInt8:=markO 1++numB sz++[(if p then 1 else 0)]++numB nl++numB ng
def oneP(sz:Nat)(p:Bool)(l:List Rec):List UInt8:=
 putB (oneH sz p l.length (groupsL sz (lenR true) l).length++(frTo (frmW p l (groupsL sz (lenR true) l)) (groupsL sz (lenR true) l).length).flatten)
theorem oneT_small(r:Rec)(h:r.source.length+r.text.length<=3984):(oneB true r).length<=r.source.length+r.text.length+31:=oneB_len true r (by omega) (by omega)
theorem SmallL.bytesT{l:List Rec}(h:SmallL l)(g:List Rec)(hg:g.Sublist l):(bytesB true g).length<=6000:=by
 have h1:(bytesB true g).length<=(bytesB true l).length:=by
  unfold bytesB
  rw [flat_len,flat_len]
  exact wtS_sub _ hg
 have h2:(bytesB true l).length<=wtS (fun r=>wt1 r+15) l:=by
  unfold bytesB
  rw [flat_len]
  refine wtS_mono _ _ l fun r hr=>?_
  have:=oneT_small r (h.each r hr)
  unfold wt1;omega
 have h3:=wtS_split (fun r=>wt1 r+15) wt1 l 15 (fun r _=>by omega)
 have:=h.wt
 have:=h.len
 omega
theorem SmallL.frmT{l:List Rec}(h:SmallL l)(p:Bool)(cs:List Nat)(k:Nat):(bytesB true ((l.drop (cs.take k).sum).take (cs.getD k 0))).length<=6000/\(frmW p l cs k).length<=6025:=by
 have h1:=h.bytesT ((l.drop (cs.take k).sum).take (cs.getD k 0)) ((List.take_sublist _ _).trans (List.drop_sublist _ _))
 refine⟨h1,?_⟩
 have:=blockB_len p _ (Nat.lt_of_le_of_lt h1 (by omega))
 unfold frmW;omega
theorem oneH_len(sz:Nat)(p:Bool)(nl ng:Nat)(h1:sz<=32768)(h2:nl<=60)(h3:ng<=60):(oneH sz p nl ng).length<=36:=by
 have i1:=numB_le sz (by omega)
 have i2:=numB_le nl (by omega)
 have i3:=numB_le ng (by omega)
 unfold oneH markO
 simp only [List.length_append,List.length_cons,List.length_nil]
 omega
theorem frW_succ(fr:Nat->List UInt8)(H:List UInt8)(k:Nat):H++(frTo fr (k+1)).flatten=(H++(frTo fr k).flatten)++fr k:=by
 rw [frTo_succ,List.flatten_append,List.append_assoc];simp
set_option maxRecDepth 100000
theorem OPack_any (sz : Nat) (p : Bool) (h1 : 16 ≤ sz) (h2 : sz ≤ 32768) (v : Value) (l : List Rec) (w : World) (hs : See w eR v l) (hl : SmallL l) (ht : Crc w) :
    Calls Tryz.prog 50 #[optV ⟨(sz:Int),p,0,0,0,0⟩,v] w fun e w'=>∃ u,e=.returned (.tuple #[u,.int .i64 0])/\Ow w' w.heap.size eB u (oneP sz p l)/\Fr w w':=by
  have ho:opt1 ⟨(sz:Int),p,0,0,0,0⟩=true:=by unfold opt1;exact decide_eq_true ⟨by show(16:Int)<=(sz:Int);omega,by show(sz:Int)<=32768;omega⟩
  have HC:=hid (fun W=>OCheck1_any ⟨(sz:Int),p,0,0,0,0⟩ ⟨rfl,rfl,rfl,rfl⟩ W)
  rw [if_pos ho]at HC
  have HQ:=hid (fun W (h:Fr w W)=>QCheck_any v l W (hs.fr h))
  rw [if_pos hl.ok]at HQ
  have hbd:∀ r∈l,r.source.length<=100000/\r.text.length<=100000:=fun r hr=>by have:=hl.each r hr;omega
  have hlen:=hl.len
  have HGr:=hid (fun W (h:Fr w W)=>GroupsG_any true (fun r W h1 h2=>onew_any r W h1 h2) sz (by omega) (by omega) v l W (hs.fr h) (by omega) hbd)
  have hcsum:=groupsL_sum sz (lenR true) l
  have hcl:=groups_len sz (lenR true) l
  have HFm:=hid (fun cs k=>hl.frmT p cs k)
  have HMk:=hid (Mark1_any)
  have HNm:=hid (fun n (h:n<18446744073709551616) W=>Num_any n h W)
  have HFl:=hid (flag_any p)
  have HPo:=hid (fun v q W (h:Fr w W) (h2:See W eB v q) (h3:q.length<=1000000)=>Put_any v q W h2 h3 (ht.fr h))
  have HBy:=hid (fun v' (q:List Rec) W (h:See W eR v' q) (h2:(bytesB true q).length<=6000) (h3:∀ r∈q,r∈l)=>BytesG_any true (fun r W h1 h2=>onew_any r W h1 h2) v' q W h (by omega) (fun r hr=>hbd r (h3 r hr)))
  have HBW:=hid (fun v' q W (h:Fr w W) (h2:See W eB v' q) (h3:q.length<=32768)=>BWrite_any p v' q W h2 h3 (ht.fr h))
  have HT:Hid (oneP sz p l=putB (oneH sz p l.length (groupsL sz (lenR true) l).length++(frTo (frmW p l (groupsL sz (lenR true) l)) (groupsL sz (lenR true) l).length).flatten)):=rfl
  have HS0:=hid hs
  obtain⟨a0,cap,hv,hcap1,hcap2,hnone⟩:=hs.shape
  subst hv
  unfold maxLen at hcap2
  clear hs hl ht hnone hbd ho
  generalize oneP sz p l=T at *
  generalize groupsL sz (lenR true) l=cs at *
  have HHl:=hid (oneH_len sz p l.length cs.length h2 hlen (by omega))
  have HHe:Hid (oneH sz p l.length cs.length=markO 1++numB sz++[(if p then 1 else 0)]++numB l.length++numB cs.length):=rfl
  have n1:=numB_le sz (by omega)
  have n2:=numB_le l.length (by omega)
  have n3:=numB_le cs.length (by omega)
  have HN1:=hid (HNm.out sz (by omega))
  have HN2:=hid (HNm.out l.length (by omega))
  have HN3:=hid (HNm.out cs.length (by omega))
  have HMl:Hid ((markO 1).length=5):=rfl
  generalize oneH sz p l.length cs.length=H at *
  generalize numB sz=nb1 at *
  generalize numB l.length=nb2 at *
  generalize numB cs.length=nb3 at *
  generalize markO 1=MK at *
  have HA5:=hid (fun W p0 p1 p2 p3 p4 h0 h1 h2 h3 h4=>all5_any W p0 p1 p2 p3 p4 MK nb1 [(if p then 1 else 0)] nb2 nb3 h0 h1 h2 h3 h4 (by have:=HMl.out;simp;omega))
  rw [<- HHe.out]at HA5
  generalize (if p then(1:UInt8)else 0)=fl at *
  clear HNm
  have w1:IntKind.u64.wrap (sz:Int)=(sz:Int):=IntWalk.u64_in _ (by omega)
  have w2:IntKind.u64.wrap (l.length:Int)=(l.length:Int):=IntWalk.u64_in _ (by omega)
  have w3:IntKind.u64.wrap (cs.length:Int)=(cs.length:Int):=IntWalk.u64_in _ (by omega)
  have hO0:=heap_new w (.cells #[N sz,.bool p,.int .i64 0,.int .i64 0,.int .i64 0,.int .i64 0] 25) w.heap.size rfl
  have hf0:Fr w (w.alloc (.cells #[N sz,.bool p,.int .i64 0,.int .i64 0,.int .i64 0,.int .i64 0] 25)):=(Fr.refl w).alloc _
  have hz0:w.heap.size+1<=(w.alloc (.cells #[N sz,.bool p,.int .i64 0,.int .i64 0,.int .i64 0,.int .i64 0] 25)).heap.size:=by simp
  go_enter Tryz.func50, Tryz.ntmps50
  go_wp2_with fail
  refine(HC.out _).mono ?_
  rintro e W1 ⟨rfl,hf1⟩
  have hO1:=hf1.heap hO0
  have hf01:=hf0.trans hf1
  have hz1:=Nat.le_trans hz0 hf1.size
  clear hO0 hf0 hz0 hf1
  go_wp2_with fail
  refine(HQ.out _ hf01).mono ?_
  rintro e W2 ⟨rfl,hf2⟩
  have hO2:=hf2.heap hO1
  have hf02:=hf01.trans hf2
  have hz2:=Nat.le_trans hz1 hf2.size
  have x2:W2.cell? ⟨w.heap.size,0,none⟩=some (N sz):=by rw [cell_of_heap hO2];rfl
  clear hO1 hf01 hf2 hz1
  go_wp2_with fail
  refine(HGr.out _ hf02).mono ?_
  rintro e W3 ⟨gv,rfl,hC3,hf3⟩
  obtain⟨ca,cc,hcv⟩:=hC3.shape'
  subst hcv
  have hO3:=hf3.heap hO2
  have hC3:=hC3.rebase hf02.size
  have hf03:=hf02.trans hf3
  have hz3:=Nat.le_trans hz2 hf3.size
  clear hO2 hf02 hf3 hz2 x2
  go_wp2_with fail
  refine(HMk.out _).mono ?_
  rintro e W4 ⟨mv,rfl,hM4,hf4⟩
  obtain⟨ma,mc,hmv⟩:=hM4.shape'
  subst hmv
  have hO4:=hf4.heap hO3
  have hC4:=hC3.fr hf4
  have hf04:=hf03.trans hf4
  have hz4:=Nat.le_trans hz3 hf4.size
  clear hO3 hf03 hC3 hz3
  have y0:W4.cell? ⟨w.heap.size,0,none⟩=some (N sz):=by rw [cell_of_heap hO4];rfl
  have y1:W4.cell? ⟨w.heap.size,1,none⟩=some (.bool p):=by rw [cell_of_heap hO4];rfl
  go_upto_region 20 with fail
  have HL:=hid (fun W=>see_new eB W [fl] #[Fk.u8 fl] 5 1 rfl rfl (by show 1<=maxLen;unfold maxLen;omega))
  have HCe:=hid (fun W (h:Fr W4 W)=>And.intro (h.cell y0) (h.cell y1))
  go_cut [9]from 33 to 51 (fun ov wx=>∃ p9 z9,ov=.slice p9 H.length z9/\Ow wx w.heap.size eB ov H/\Fr W4 wx)
  case first=>
    go_region_held_law (fun w' => w'.cell? ⟨w.heap.size, 0, none⟩ = some (N sz) ∧ w'.cell? ⟨w.heap.size, 1, none⟩ = some (.bool p))
      (first | go_keep)
      (((first
        | (go_at_call_of 115 (Value.int IntKind.u64 (sz : Int)); refine (HN1.out _).mono ?_; rintro e w5 ⟨v5, rfl, hO5, hf5⟩; obtain ⟨p5, z5, hq5⟩ := hO5.shape'; subst hq5
           have g5 : Fr W4 w5 := (Fr.refl W4).drew.trans hf5
           obtain ⟨u0, u1⟩ := HCe.out w5 g5)
        | (go_at_call 116; refine (HFl.out _).mono ?_; rintro e w6 ⟨rfl, rfl⟩
           have gl5 : Fr W4 (w5.alloc (.cells #[Fk.u8 fl] 5)) := g5.alloc _
           obtain ⟨s0, s1⟩ := HCe.out _ gl5)
        | (go_at_call_of 115 (Value.int IntKind.u64 (l.length : Int)); refine (HN2.out (w5.alloc (.cells #[Fk.u8 fl] 5))).mono ?_; rintro e w7 ⟨v7, rfl, hO7, hf7⟩; obtain ⟨p7, z7, hq7⟩ := hO7.shape'; subst hq7
           have g7 := gl5.trans hf7
           have L7 := (HL.out w5).fr hf7
           have B7 := hO5.see.fr (((Fr.refl w5).alloc (.cells #[Fk.u8 fl] 5)).trans hf7)
           obtain ⟨t0, t1⟩ := HCe.out _ g7)
        | (go_at_call_of 115 (Value.int IntKind.u64 (l.length : Int)); refine (HN2.out w5).mono ?_; rintro e w7 ⟨v7, rfl, hO7, hf7⟩; obtain ⟨p7, z7, hq7⟩ := hO7.shape'; subst hq7
           have g7 := g5.trans hf7
           have B7 := hO5.see.fr hf7
           have gl7 : Fr W4 (w7.alloc (.cells #[Fk.u8 fl] 5)) := g7.alloc _
           obtain ⟨t0, t1⟩ := HCe.out _ g7
           obtain ⟨tt0, tt1⟩ := HCe.out _ gl7)
        | (go_at_call_of 115 (Value.int IntKind.u64 (cs.length : Int)); refine (HN3.out w7).mono ?_; rintro e w8 ⟨v8, rfl, hO8, hf8⟩; obtain ⟨p8, z8, hq8⟩ := hO8.shape'; subst hq8
           have L8 := L7.fr hf8
           have g8 := g7.trans hf8
           have B8 := B7.fr hf8
           have C8 := hO7.see.fr hf8
           obtain ⟨r0, r1⟩ := HCe.out _ g8)
        | (go_at_call_of 115 (Value.int IntKind.u64 (cs.length : Int)); refine (HN3.out (w7.alloc (.cells #[Fk.u8 fl] 5))).mono ?_; rintro e w8 ⟨v8, rfl, hO8, hf8⟩; obtain ⟨p8, z8, hq8⟩ := hO8.shape'; subst hq8
           have L8 := (HL.out w7).fr hf8
           have g8 := gl7.trans hf8
           have B8 := B7.fr (((Fr.refl w7).alloc (.cells #[Fk.u8 fl] 5)).trans hf8)
           have C8 := hO7.see.fr (((Fr.refl w7).alloc (.cells #[Fk.u8 fl] 5)).trans hf8)
           obtain ⟨r0, r1⟩ := HCe.out _ g8)
        | (go_at_call_of 115 (Value.int IntKind.u64 (cs.length : Int)); refine (HN3.out w7).mono ?_; rintro e w8 ⟨v8, rfl, hO8, hf8⟩; obtain ⟨p8, z8, hq8⟩ := hO8.shape'; subst hq8
           have g8 := g7.trans hf8
           have B8 := B7.fr hf8
           have C8 := hO7.see.fr hf8
           have gl8 : Fr W4 (w8.alloc (.cells #[Fk.u8 fl] 5)) := g8.alloc _
           obtain ⟨r0, r1⟩ := HCe.out _ g8
           obtain ⟨rr0, rr1⟩ := HCe.out _ gl8)
        | (go_at_call 67; refine (HA5.out w8 ⟨ma, MK.length, mc⟩ ⟨p5, nb1.length, z5⟩ ⟨some ⟨w5.heap.size, 0, none⟩, 1, 1⟩ ⟨p7, nb2.length, z7⟩ ⟨p8, nb3.length, z8⟩ (hM4.see.fr g8) B8 L8 C8 hO8.see).mono ?_; rintro e w9 ⟨v9, rfl, hO9, hf9⟩; obtain ⟨p9, z9, hq9⟩ := hO9.shape'; subst hq9
           have g9 := g8.trans hf9
           have hO9' := hO9.rebase (show w.heap.size ≤ w8.heap.size from Nat.le_trans hf04.size g8.size)
           obtain ⟨q0, q1⟩ := HCe.out _ g9)
        | (go_at_call 67; refine (HA5.out w8 ⟨ma, MK.length, mc⟩ ⟨p5, nb1.length, z5⟩ ⟨some ⟨w7.heap.size, 0, none⟩, 1, 1⟩ ⟨p7, nb2.length, z7⟩ ⟨p8, nb3.length, z8⟩ (hM4.see.fr g8) B8 L8 C8 hO8.see).mono ?_; rintro e w9 ⟨v9, rfl, hO9, hf9⟩; obtain ⟨p9, z9, hq9⟩ := hO9.shape'; subst hq9
           have g9 := g8.trans hf9
           have hO9' := hO9.rebase (show w.heap.size ≤ w8.heap.size from Nat.le_trans hf04.size g8.size)
           obtain ⟨q0, q1⟩ := HCe.out _ g9)
        | (go_at_call 67; have hA := HA5.out (w8.alloc (.cells #[Fk.u8 fl] 5)) ⟨ma, MK.length, mc⟩ ⟨p5, nb1.length, z5⟩ ⟨some ⟨w8.heap.size, 0, none⟩, 1, 1⟩ ⟨p7, nb2.length, z7⟩ ⟨p8, nb3.length, z8⟩ (hM4.see.fr gl8) (B8.fr ((Fr.refl w8).alloc (.cells #[Fk.u8 fl] 5))) (HL.out w8) (C8.fr ((Fr.refl w8).alloc (.cells #[Fk.u8 fl] 5))) (hO8.see.fr ((Fr.refl w8).alloc (.cells #[Fk.u8 fl] 5))); rw [size_alloc] at hA; refine hA.mono ?_; rintro e w9 ⟨v9, rfl, hO9, hf9⟩; obtain ⟨p9, z9, hq9⟩ := hO9.shape'; subst hq9
           have g9 := gl8.trans hf9
           have hO9' := hO9.rebase (show w.heap.size ≤ w8.heap.size + 1 from Nat.le_succ_of_le (Nat.le_trans hf04.size g8.size))
           obtain ⟨q0, q1⟩ := HCe.out _ g9))))
    all_goals go_wp2_with fail
    all_goals go_meet
    all_goals exact⟨_,_,rfl,hO9',g9⟩
  case rest=>
    obtain⟨p9,z9,rfl,hH10,hfr9⟩:=hcut
    have hO10:=hfr9.heap hO4
    have hC10:=hC4.fr hfr9
    have hf10:=hf04.trans hfr9
    clear hO4 hC4 hf04 hM4 hfr9 y0 y1 HN1 HN2 HN3 HA5 HFl HMk hz4 HHe HMl n1 n2 n3 w1 w2 w3 HL HCe
    obtain⟨O,hOe⟩:∃ O,O=w.heap.size:=⟨_,rfl⟩
    rw [<- hOe]at hO10 hC10 hH10
    have HO:=hid hOe
    rw [<- hOe]
    clear hOe
    have HTk:=hid (groups_sum_le cs)
    have HSn:=hid (sum_snoc cs)
    have HCs:=hid hcsum
    have HFT:=hid (frTo_len (frmW p l cs) 6025 (fun k=>(HFm.out cs k).2))
    have HFs:=hid (frW_succ (frmW p l cs) H)
    have HFd:Hid (∀ k,frmW p l cs k=blockB p (bytesB true ((l.drop (cs.take k).sum).take (cs.getD k 0)))):=fun _=>rfl
    go_upto_region 3 with fail
    go_loopw [9,1,54] (fun ov lv iv wr=>∃ (k:Nat) (q:Option Addr) (c:Nat),k<=cs.length/\iv=N k/\lv=.slice q (l.length - (cs.take k).sum) c/\See w eR lv (l.drop (cs.take k).sum)/\wr.heap[O]?=some (.cells #[N sz,.bool p,.int .i64 0,.int .i64 0,.int .i64 0,.int .i64 0] 25 (0,0))/\Ow wr O eJ (.slice ca cs.length cc) cs/\Ow wr O eB ov (H++(frTo (frmW p l cs) k).flatten)/\Fr w wr) (fun _ _ iv _=>cs.length - (intOf iv).toNat)
    case atStart=>exact⟨0,a0,cap,Nat.zero_le _,rfl,by simp,by simpa using HS0.out,hO10,hC10,by simpa [frTo] using hH10,hf10⟩
    case round=>
      clear hO10 hC10 hH10 hf10
      obtain⟨k,q,c,hk,rfl,rfl,hSl,hO1,hC,hB,hf⟩:=hrel
      by_cases hlt:k<cs.length
      · obtain⟨b1,off1,cap1,hv1,d1⟩:=numAt hC.see k hlt
        cases hv1
        have hs1:=HTk.out (k+1)
        have hss:=HCs.out
        have hsn:=HSn.out k hlt
        have hgd:cs.getD k 0=cs[k]:=by rw [List.getD_eq_getElem?_getD,List.getElem?_eq_getElem hlt];rfl
        have HFk:=hid (HFm.out cs k)
        have HFe:=hid (HFd.out k)
        have HFk2:=hid (HFs.out k)
        have hbl:=HFT.out k
        have hkm:k*6025<=60*6025:=Nat.mul_le_mul_right _ (by omega)
        rw [hgd]at HFk HFe
        generalize hm:(cs.take k).sum=m at *
        generalize hm2:(cs.take (k+1)).sum=m2 at *
        have HM2:=hid hm2
        clear hm hm2 hgd
        generalize cs[k]=n at *
        have hdl:(l.drop m).length=l.length - m:=List.length_drop
        obtain⟨htr,hts⟩:=run_to eR 26 Tryz.underlying26 (hSl.fr hf) n (by omega)
        obtain⟨q2,c2,hfr,hfs⟩:=run_from eR 26 Tryz.underlying26 hSl n (by omega)
        rw [List.drop_drop]at hfs
        rw [hdl,Nat.sub_sub]at hfr hfs
        have HMn:Hid (m2=m+n):=by show _=_;omega
        have HFs2:=hid hfs
        obtain⟨su,hsu⟩:∃ su,su=(l.drop m).take n:=⟨_,rfl⟩
        rw [<- hsu]at hts HFk HFe
        have HSu:=hid (show ∀ r∈su,r∈l from fun r hr=>by rw [hsu]at hr;exact List.mem_of_mem_drop (List.mem_of_mem_take hr))
        have hBy1:=hid (HBy.out _ su (wr.drew) hts.drew HFk.out.1 HSu.out)
        clear hsu hfs hdl hts hSl hs1 hss hsn
        generalize hL2:l.length - (m+n)=L2 at *
        have HL2:=hid hL2
        clear hL2
        generalize l.length - m=L1 at *
        generalize hby:bytesB true su=by_ at *
        have HWr:=hid (fun W (h:Fr w W) v' (h2:See W eB v' by_)=>HBW.out v' by_ W h h2 (by have:=HFk.out.1;omega))
        rw [<- HFe.out]at HWr
        have hfl:(frmW p l cs k).length<=6025:=HFk.out.2
        generalize hfe:frmW p l cs k=fk at *
        have HFk3:=hid hfe
        clear hfe hby HFe HBW HBy
        have i1:(0:Int)<=k:=by omega
        have i2:(k:Int)<cs.length:=by omega
        have x1:wr.cell? ⟨O,1,none⟩=some (.bool p):=by rw [cell_of_heap hO1];rfl
        have hszr:O<=wr.heap.size:=by have:=(Array.getElem?_eq_some_iff.1 hO1).1;omega
        go_wp2_with fail
        go_region_held3 (fun w' => w'.cell? ⟨O, 1, none⟩ = some (.bool p))
          (first | go_keep)
          ((first
            | (go_at_call 61; refine hBy1.out.mono ?_; rintro e w5 ⟨v5, rfl, hO5, hf5⟩; obtain ⟨p5, z5, hq5⟩ := hO5.shape'; subst hq5; have u1 := hf5.cell x1)
            | (go_at_call 60; refine (HWr.out _ (hf.trans ((Fr.refl wr).drew.trans hf5)) _ hO5.see).mono ?_; rintro e w6 ⟨v6, rfl, hO6, hf6⟩; obtain ⟨p6, z6, hq6⟩ := hO6.shape'; subst hq6; have t1 := hf6.cell u1)))
        have hfr6:Fr wr w6:=(Fr.refl wr).drew.trans (hf5.trans hf6)
        have hO7:=hfr6.heap hO1
        have hC7:=hC.fr hfr6
        have hB7:=hB.fr hfr6
        have hf7:=hf.trans hfr6
        have hsz6:O<=w6.heap.size:=Nat.le_trans hszr hfr6.size
        have hW7:=hO6.see
        have hlb:(H++(frTo (frmW p l cs) k).flatten).length+fk.length<=2147483648:=by rw [List.length_append];have:=HHl.out;omega
        clear hO1 hC hB hf hO5 hO6 hf5 hf6 u1 t1 hfr6 HWr hBy1 x1 d1 htr
        obtain⟨acc,hacc⟩:∃ acc,acc=H++(frTo (frmW p l cs) k).flatten:=⟨_,rfl⟩
        rw [<- hacc]at hB7 hlb HFk2
        clear hacc
        go_wp2_with (at_builtin;refine wpList_app eB rfl (.tmp 71) (.tmp 72) 22 rfl Tryz.underlying22 O rfl hB7 _ _ rfl hW7 hlb hsz6 ?_)
        intro v' w8 hap
        have hO8:=hap.chg'.heap hO7 (hB7.ne_cells hO7 (by decide))
        have hC8:=own_app hC7 hB7 hap (by decide)
        have hf8:Fr w w8:=hap.below hB7 hf7 (by rw [HO.out];exact Nat.le_refl _) hf7.size
        have hB8:=hap.own
        rw [<- HFk2.out]at hB8
        clear hap hB7 hC7 hO7 hf7 hW7
        go_wp2_with fail
        go_roundw
        case rel=>exact⟨k+1,q2,c2,by omega,by go_num,by rw [HM2.out,HMn.out,HL2.out],by rw [HM2.out,HMn.out];exact HFs2.out,hO8,hC8,hB8,hf8⟩
        case measure=>simp [intOf];omega
      · obtain rfl:k=cs.length:=by omega
        have hnl:¬(cs.length:Int)<cs.length:=by omega
        have hbl:=HFT.out cs.length
        have hkm:cs.length*6025<=60*6025:=Nat.mul_le_mul_right _ (by omega)
        have hlb:(H++(frTo (frmW p l cs) cs.length).flatten).length<=1000000:=by rw [List.length_append];have:=HHl.out;omega
        obtain⟨pa,pc,hpv⟩:=hB.shape'
        subst hpv
        have HP1:=hid (HPo.out _ _ wr hf hB.see hlb)
        rw [<- HT.out]at HP1
        clear hSl hO1 hC hB
        generalize (H++(frTo (frmW p l cs) cs.length).flatten)=acc at *
        go_wp2_with fail
        refine HP1.out.mono ?_
        rintro e w2 ⟨v2,rfl,hO2,hf2⟩
        obtain⟨pa2,pc2,hpv2⟩:=hO2.shape'
        subst hpv2
        go_wp2_with fail
        go_ret2
        exact⟨_,rfl,hO2.rebase hf.size,hf.trans hf2⟩
set_option maxRecDepth 512
def l25:List Rec:=[⟨0,0,[],[97]⟩,⟨0,0,[],[98]⟩]
def x25:List UInt8:=oneP 16 false l25
set_option maxRecDepth 100000
theorem m25:markV x25=(1,0):=by decide +kernel
theorem e25:oneE x25=0:=by decide +kernel
theorem r25:(o1X (wholeR x25).1).1=l25:=by decide +kernel
theorem h25:(o1B (wholeR x25).1).1=16/\(o1P (wholeR x25).1).1=0/\(o1K (wholeR x25).1).1=1:=by decide +kernel
theorem b25:(bkW ((wholeR x25).1.drop (o1At (wholeR x25).1 0).at_)).1=0/\(blkR ((wholeR x25).1.drop (o1At (wholeR x25).1 0).at_)).1.length<=1000000/\(o1Out (wholeR x25).1 0).length+(o1L (wholeR x25).1 0).1.length<=1000000:=by decide +kernel
theorem n25:x25.length<=1000/\(wholeR x25).1.length<=1000:=by decide +kernel
set_option maxRecDepth 512
theorem small25:SmallL l25:=⟨by decide,by decide⟩
set_option maxRecDepth 100000
theorem v25:versV [70,73,82,75,3]=(0,5):=by decide +kernel
set_option maxRecDepth 512
theorem unpack25(v:Value)(w:World)(hs:See w eB v x25)(ht:Crc w) :
  Calls Tryz.prog 55 #[v] w fun e w'=>Fr w w'/\∃ u,e=.returned (.tuple #[optV ⟨16,false,0,0,0,0⟩,u,.int .i64 1,.int .i64 0])/\Ow w' w.heap.size eR u l25:=by
 have hw:∀ i,i<(o1K (wholeR x25).1).1->i=0:=fun i h=>by rw [h25.2.2]at h;omega
 refine(OUnpack_any v x25 w hs (Nat.le_trans n25.1 (by omega)) ht (fun i W u hi hf hu=>?_) (fun i hi=>?_) (fun k hk=>?_)).mono ?_
 · obtain rfl:=hw i hi
   exact BRead_st u _ W hu (by rw [List.length_drop];have:=n25.2;omega) (ht.fr hf) b25.1
 · obtain rfl:=hw i hi
   exact b25.2.1
 · obtain rfl:=hw k hk
   exact b25.2.2
 · rintro e w' ⟨hf,⟨h,_⟩ | ⟨_,u,rfl,hu⟩⟩
   · exact absurd e25 h
   · rw [r25]at hu
     refine⟨hf,u,?_,hu⟩
     rw [h25.1,h25.2.1,h25.2.2]
     rfl
end Go.Proofs.YtghcmindankceaaGreatDoor
