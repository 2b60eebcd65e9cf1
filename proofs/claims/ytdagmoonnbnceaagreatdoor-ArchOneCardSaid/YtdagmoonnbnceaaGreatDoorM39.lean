/- Parts of the proof of ArchOne: D1 D2 D3 D4 D5 D6 D7 D8 D9 Da Db Dc Dd. -/
import Derived.Test.YtdagmoonnbnceaaGreatDoorM36
import Derived.Test.YtdagmoonnbnceaaGreatDoorM30
import Derived.Test.YtdagmoonnbnceaaGreatDoorM17
import Derived.Test.YtdagmoonnbnceaaGreatDoorM37
import Derived.Test.YtdagmoonnbnceaaGreatDoorM38
import Derived.Test.YtdagmoonnbnceaaGreatDoorM13
import Derived.Test.YtdagmoonnbnceaaGreatDoorM05
import Derived.Test.YtdagmoonnbnceaaGreatDoorM40
import Derived.Test.YtdagmoonnbnceaaGreatDoorM22
import Derived.Test.YtdagmoonnbnceaaGreatDoorM01
set_option linter.unusedVariables false
set_option linter.unusedSectionVars false
set_option linter.unusedSimpArgs false
set_option maxHeartbeats 8000000
set_option maxRecDepth 100000
namespace Go.Proofs.YtdagmoonnbnceaaGreatDoor
open Go.RowKit Go.Fk
theorem SmallL.texts{l:List Rec}(h:SmallL l):wtS (fun r:TS=>r.text.length+r.source.length) (l.map Rec.ts)<=4000 - 16*l.length:=by
 have e:wtS (fun r:TS=>r.text.length+r.source.length) (l.map Rec.ts)=wtS (fun r:Rec=>r.text.length+r.source.length) l:=by
  unfold wtS;rw [List.map_map];rfl
 have h1:=wtS_split wt1 (fun r:Rec=>r.text.length+r.source.length) l 16 (fun r _=>by unfold wt1;omega)
 have:=h.wt
 rw [e];omega
theorem small_prod:∀ x,x<61->(4000 - 16*x)*(2*x+10)<=400000:=by decide
theorem SmallL.idx{l:List Rec}(h:SmallL l):IdxOk l.length (idxT (l.map Rec.ts)) (idxL (l.map Rec.ts)):=by
 have hL:(l.map Rec.ts).length=l.length:=List.length_map _
 have hr:∀ q∈idxL (l.map Rec.ts),risesGo l.length 0 q=true:=fun q hq=>by
  obtain⟨t,_,rfl⟩:=List.mem_map.1 hq
  have:=ids_rises (l.map Rec.ts) t
  rwa [hL]at this
 have hT:=idxT_len (l.map Rec.ts)
 have hx:=h.texts
 have hl:=h.len
 refine⟨⟨idxT_ris _,idxT_each _,by omega⟩,by omega,by simp [idxL],fun q hq=>?_,hr,by omega,?_⟩
 · obtain⟨t,ht,rfl⟩:=List.mem_map.1 hq
   exact ids_ne _ t ht
 · unfold postRest
   rw [flat_len]
   refine Nat.le_trans (wtS_le _ (2*l.length+10) _ fun q hq=>?_) ?_
   · exact efL_len _ q (by omega) (hr q hq)
   · have e:(idxL (l.map Rec.ts)).length=(idxT (l.map Rec.ts)).length:=by simp [idxL]
     rw [e]
     refine Nat.le_trans (Nat.mul_le_mul_right _ (Nat.le_trans hT hx)) (small_prod l.length (by omega))
def joinL(cs:List Nat)(fr:Nat->List UInt8)(col idx:List UInt8):List UInt8:=
 (frTo fr cs.length).flatten++col++idx++putB (dirL cs fr col.length idx.length)++fixB 4 (putB (dirL cs fr col.length idx.length)).length
def bodyL(sz bu:Nat)(p:Bool)(l:List Rec):List UInt8:=
 joinL (groupsL sz (lenR false) l) (frmL p l (groupsL sz (lenR false) l)) (putB (columnsL l)) (putB (postB bu l.length (idxT (l.map Rec.ts)) (idxL (l.map Rec.ts))))
theorem putB_len(l:List UInt8):(putB l).length=l.length+4:=by simp [putB]
theorem columnsL_len(l:List Rec)(h:l.length<=60):(columnsL l).length<=1300:=by
 have h1:=timesGo_len (l.map fun r=>r.time.toNat) 0
 have h2:=levelsL_len (l.map (·.level)) (by simp;omega)
 unfold columnsL
 rw [List.length_append]
 simp only [List.length_map]at h1 h2
 omega
end Go.Proofs.YtdagmoonnbnceaaGreatDoor

namespace Go.Proofs.YtdagmoonnbnceaaGreatDoor
open Go.RowKit Go.Fk
theorem owns4{α:Type}{E:Elt Tryz.prog α}{W:World}{b:Nat}{p0 p1 p2 p3:Hd}{l0 l1 l2 l3:List α}(h0:Ow W b E p0.v l0)(h1:Ow W b E p1.v l1)(h2:Ow W b E p2.v l2)(h3:Ow W b E p3.v l3):Owns W b E [p0,p1,p2,p3] [l0,l1,l2,l3]:=by
 refine⟨rfl,fun t a c=>?_⟩
 match t,a with
 | 0,_=>exact h0
 | 1,_=>exact h1
 | 2,_=>exact h2
 | 3,_=>exact h3
theorem heads_len4(l:List (List UInt8))(n:Nat)(hn:1<=n)(hn2:n<=64)(hl:l.length<=4000)(hb:∀ s∈l,s.length<=25):(((chunksL l n).map fun c=>numB (bktB c).length).flatten).length<=40630:=by
  rw [flat_len]
  refine Nat.le_trans (wtS_le _ 10 _ fun c hc=>?_) ?_
  · have h1:=chunk_mem hc
    have h2:=bktB_len 25 (by omega) c (fun s hs=>hb s (h1.2 s hs))
    have h3:c.length*(25+20)<=64*45:=Nat.mul_le_mul (by omega) (Nat.le_refl _)
    exact numB_le _ (by omega)
  · have h1:=ckN_mul l.length n hn
    have h2:(chunksL l n).length=ckN l.length n:=chunks_len l n
    have h3:ckN l.length n*1<=ckN l.length n*n:=Nat.mul_le_mul_left _ hn
    omega
theorem bodies_len4(l:List (List UInt8))(n:Nat)(hn:1<=n)(hn2:n<=64)(hl:l.length<=4000)(hb:∀ s∈l,s.length<=25):(((chunksL l n).map bktB).flatten).length<=182880:=by
  rw [flat_len]
  refine Nat.le_trans (wtS_le _ (45*n) _ fun c hc=>?_) ?_
  · have h1:=chunk_mem hc
    have h2:=bktB_len 25 (by omega) c (fun s hs=>hb s (h1.2 s hs))
    have h3:c.length*(25+20)<=n*45:=Nat.mul_le_mul h1.1 (Nat.le_refl _)
    have h4:45*n=n*45:=Nat.mul_comm _ _
    show(bktB c).length<=_
    omega
  · have h1:=ckN_mul l.length n hn
    have h2:(chunksL l n).length<=ckN l.length n:=by rw [chunks_len];omega
    have h3:(chunksL l n).length*(45*n)<=ckN l.length n*(45*n):=Nat.mul_le_mul_right _ h2
    have h4:ckN l.length n*(45*n)=45*(ckN l.length n*n):=by rw [Nat.mul_left_comm]
    omega
theorem dictB_len4(n:Nat)(l:List (List UInt8))(hn1:1<=n)(hn2:n<=64)(hb25:∀ s∈l,s.length<=25)(hl:l.length<=4000):(dictB n l).length<=223520:=by
 have h1:=heads_len4 l n hn1 hn2 hl hb25
 have h2:=bodies_len4 l n hn1 hn2 hl hb25
 have h3:=numB_le l.length (by omega)
 unfold dictB
 rw [List.length_append,List.length_append]
 omega
abbrev opB(sz bu:Nat)(p:Bool)(d q c:Int):Obj:=.cells #[N sz,.bool p,N bu,.int .i64 d,.int .i64 q,.int .i64 c] 23 (0,0)
abbrev dirB(cv sv:Value)(a b:Nat):Obj:=.cells #[cv,sv,N a,N b] 89 (0,0)
theorem szL_succ(fr:Nat->List UInt8)(k:Nat):szL fr (k+1)=szL fr k++[(fr k).length]:=by unfold szL;rw [List.range_succ,List.map_append];rfl
theorem BMake_any(sz bu:Nat)(p:Bool)(d q c:Int)(h1:16<=sz)(h2:sz<=32768)(h3:1<=bu)(h4:bu<=64)(v:Value)(l:List Rec)(w:World)(hs:See w eR v l)(hl:SmallL l)(ht:Crc w) :
  Calls Tryz.prog 32 #[optV ⟨(sz:Int),p,(bu:Int),d,q,c⟩,v] w fun e w'=>∃ u,e=.returned (.tuple #[u,.int .i64 0])/\Ow w' w.heap.size eB u (bodyL sz bu p l)/\Fr w w':=by
 have ho:opt2 ⟨(sz:Int),p,(bu:Int),d,q,c⟩=true:=(opt2_iff _).2 ⟨by show(16:Int)<=(sz:Int);omega,by show(sz:Int)<=32768;omega,by show(1:Int)<=(bu:Int);omega,by show(bu:Int)<=64;omega⟩
 have HC:=hid (fun W=>bcheck_any ⟨(sz:Int),p,(bu:Int),d,q,c⟩ W)
 rw [if_pos ho]at HC
 have HQ:=hid (fun W (h:Fr w W)=>QCheck_any v l W (hs.fr h))
 rw [if_pos hl.ok]at HQ
 have hbd:∀ r∈l,r.source.length<=100000/\r.text.length<=100000:=fun r hr=>by have:=hl.each r hr;omega
 have HGr:=hid (fun W (h:Fr w W)=>Groups_any sz (by omega) (by omega) v l W (hs.fr h) (by have:=hl.len;omega) hbd)
 have hcsum:=groupsL_sum sz (lenR false) l
 have hcl:=groups_len sz (lenR false) l
 have HT:Hid (bodyL sz bu p l=joinL (groupsL sz (lenR false) l) (frmL p l (groupsL sz (lenR false) l)) (putB (columnsL l)) (putB (postB bu l.length (idxT (l.map Rec.ts)) (idxL (l.map Rec.ts))))):=rfl
 have HFm:=hid (fun cs k=>hl.frm p cs k)
 have HCo:=hid (fun W (h:Fr w W)=>Columns_any v l W (hs.fr h) (by have:=hl.len;omega))
 have HBu:=hid (fun W (h:Fr w W)=>Build_any v l W (hs.fr h) (by have:=hl.len;omega) (fun r hr=>by have:=hbd r hr;omega) (by have:=hl.texts;omega))
 have HPB:=hid (fun tv lv hs W h5 h6=>PBytes_any bu l.length h3 h4 tv lv (idxT (l.map Rec.ts)) hs (idxL (l.map Rec.ts)) W h5 h6 hl.idx)
 have HPo:=hid (fun v q W (h:Fr w W) (h2:See W eB v q) (h3:q.length<=1000000)=>Put_any v q W h2 h3 (ht.fr h))
 have hpl:=dictB_len4 bu (idxT (l.map Rec.ts)) h3 h4 (fun s h=>(idxT_each _ s h).2) (by have:=idxT_len (l.map Rec.ts);have:=hl.texts;omega)
 have hps:=hl.idx.sum
 have hpost:(postB bu l.length (idxT (l.map Rec.ts)) (idxL (l.map Rec.ts))).length<=623520:=by unfold postB;rw [List.length_append];omega
 have hcol:=columnsL_len l hl.len
 have hlen:=hl.len
 have HSub:=hid (fun W (h:Fr w W) i k (h1:i<=k) (h2:k<=l.length) a cap (h3:v=.slice a l.length cap)=>run_mid eR 24 Tryz.underlying24 (by have:=hs.fr h;rw [h3]at this;exact this) i k h1 h2)
 have HBy:=hid (fun v' (q:List Rec) W (h:See W eR v' q) (h2:(bytesB false q).length<=6000) (h3:∀ r∈q,r∈l)=>Bytes_any v' q W h (by omega) (fun r hr=>hbd r (h3 r hr)))
 have HBW:=hid (fun v' q W (h:Fr w W) (h2:See W eB v' q) (h3:q.length<=32768)=>BWrite_any p v' q W h2 h3 (ht.fr h))
 have HFd:Hid (∀ cs k,frmL p l cs k=blockB p (bytesB false ((l.take (cs.take (k+1)).sum).drop (cs.take k).sum))):=fun cs k=>rfl
 obtain⟨a0,cap,rfl,hcap1,hcap2,hnone⟩:=hs.shape
 unfold maxLen at hcap2
 clear hs hl ht hnone hbd hpl hps ho
 generalize bodyL sz bu p l=T at *
 generalize groupsL sz (lenR false) l=cs at *
 generalize hIT:idxT (l.map Rec.ts)=IT at *
 generalize hIL:idxL (l.map Rec.ts)=IL at *
 clear hIT hIL
 generalize hPI:postB bu l.length IT IL=PI at *
 clear hPI
 generalize hCO:columnsL l=CO at *
 clear hCO
 go_enter Tryz.func32, Tryz.ntmps32
 go_wp2_with fail
 refine(HC.out _).mono ?_
 rintro e w1 ⟨rfl,hf1⟩
 have hO1:=hf1.heap (heap_new w (.cells #[N sz,.bool p,N bu,.int .i64 d,.int .i64 q,.int .i64 c] 23) _ rfl)
 have hf01:Fr w w1:=((Fr.refl w).alloc _).trans hf1
 clear hf1
 go_wp2_with fail
 refine(HQ.out _ hf01).mono ?_
 rintro e w2 ⟨rfl,hf2⟩
 have hf02:=hf01.trans hf2
 have hO2:=hf2.heap hO1
 have x2:=cellx hO2 0 rfl
 go_wp2_with fail
 refine(HGr.out _ hf02).mono ?_
 rintro e w3 ⟨v3,rfl,hC3,hf3⟩
 obtain⟨ca,cc,rfl⟩:=hC3.shape'
 have hf03:=hf02.trans hf3
 have hO3:=hf3.heap hO2
 have hsz3:w.heap.size+1<=w3.heap.size:=(Array.getElem?_eq_some_iff.1 hO3).1
 have hfD:Fr w3 (w3.alloc (.cells #[.slice ca cs.length cc,.slice none 0 0,.int .i64 0,.int .i64 0] 89)):=(Fr.refl w3).alloc _
 have hD4:=heap_new w3 (.cells #[.slice ca cs.length cc,.slice none 0 0,.int .i64 0,.int .i64 0] 89) w3.heap.size rfl
 have hO4:=hfD.heap hO3
 have hC4:=(hC3.rebase (b:=w.heap.size) hf02.size).fr hfD
 have hf04:=hf03.trans hfD
 clear hO1 hO2 hO3 hf01 hf02 hf03 hf2 hf3 x2 hC3
 go_upto_region 8 with fail
 generalize w3.alloc (.cells #[.slice ca cs.length cc,.slice none 0 0,.int .i64 0,.int .i64 0] 89)=w4 at *
 generalize w3.heap.size=g at *
 obtain⟨O,hOe⟩:∃ O,O=w.heap.size:=⟨_,rfl⟩
 rw [<- hOe]at hO4 hsz3
 have HO:=hid hOe
 rw [<- hOe]
 clear hOe hfD
 have c4:=cellx hD4 0 rfl
 have HTk:=hid (groups_sum_le cs)
 have HSn:=hid (sum_snoc cs)
 have HFT:=hid (frTo_len (frmL p l cs) 6025 (fun k=>(HFm.out cs k).2))
 have HCs:=hid hcsum
 clear hcsum
 go_wp2_with fail
 go_loopw [9,10,39] (fun pv av iv wr=>∃ (k:Nat) (sv:Value) (ps:List Hd),k<=cs.length/\iv=N k/\av=N (cs.take k).sum/\wr.heap[O]? = some (opB sz bu p d q c)/\wr.heap[g]? = some (dirB (.slice ca cs.length cc) sv 0 0)/\Ow wr O eJ (.slice ca cs.length cc) cs/\Ow wr O eJ sv (szL (frmL p l cs) k)/\(sv.ownBlock=none\/sv.ownBlock≠(Value.slice ca cs.length cc).ownBlock)/\Ow wr O eHB pv ps/\Owns wr O eB ps (frTo (frmL p l cs) k)/\Fr w wr) (fun _ _ iv _=>cs.length - (intOf iv).toNat)
 case atStart=>exact⟨0,.slice none 0 0,[],Nat.zero_le _,rfl,by simp,hO4,hD4,by rw [HO.out];exact hC4,Ow.nil,.inl rfl,Ow.nil,⟨rfl,fun t a=>by simp at a⟩,hf04⟩
 case round=>
  clear hO4 hD4 hC4 hf04 c4
  obtain⟨k,sv,ps,hk,rfl,rfl,hO,hD,hC,hS,hap,hP,hR,hf⟩:=hrel
  have hszr:O<=wr.heap.size:=by have:=(Array.getElem?_eq_some_iff.1 hO).1;omega
  by_cases hlt:k<cs.length
  · obtain⟨b1,off1,cap1,hv1,d1⟩:=numAt hC.see k hlt
    cases hv1
    have hs1:=HTk.out k
    have hs2:=HTk.out (k+1)
    have hss:=HCs.out
    have hsn:=HSn.out k hlt
    have HFk:=hid (HFm.out cs k)
    have HFe:=hid (HFd.out cs k)
    have HFs:=hid (frTo_succ (frmL p l cs) k)
    have HZs:=hid (szL_succ (frmL p l cs) k)
    generalize hm2:(cs.take (k+1)).sum=m2 at *
    have HM2:=hid hm2
    clear hm2
    generalize (cs.take k).sum=m at *
    generalize cs[k]=x at *
    have hm2l:m2<=l.length:=by omega
    have HMx:Hid (m2=m+x):=hsn
    obtain⟨sa,sc,hmid,hsub⟩:=HSub.out wr hf m m2 (by omega) hm2l _ _ rfl
    have hm2c:((m2:Nat):Int)=(m:Int)+x:=by omega
    rw [hm2c]at hmid
    generalize hsu:(l.take m2).drop m=su at *
    have HSu:=hid (show ∀ r∈su,r∈l from fun r hr=>by rw [<- hsu]at hr;exact List.mem_of_mem_take (List.mem_of_mem_drop hr))
    clear hsu hsn hm2c hs1 hs2 hss
    have hxe:m2 - m=x:=by have:=HMx.out;omega
    rw [hxe]at hmid hsub
    clear hxe
    have HB1:=hid (HBy.out _ su (wr.drew) hsub.drew HFk.out.1 HSu.out)
    generalize hby:bytesB false su=by_ at *
    have HWr:=hid (fun W (h:Fr w W) v' (h2:See W eB v' by_)=>HBW.out v' by_ W h h2 (by have:=HFk.out.1;omega))
    rw [<- HFe.out]at HWr
    have hfl:(frmL p l cs k).length<=6025:=HFk.out.2
    have HFl:=hid HFk
    generalize hfe:frmL p l cs k=fk at *
    have HFk2:=hid hfe
    clear hfe hby
    have i1:(0:Int)<=k:=by omega
    have i2:(k:Int)<cs.length:=by omega
    have i3:(0:Int)<=m:=by omega
    have i4:IntKind.i64.wrap ((m:Int)+x)=(m:Int)+x:=IntWalk.i64_in _ (by have:=HMx.out;omega)
    have x0:=cellx hO 1 rfl
    obtain⟨sva,svc,rfl⟩:=hS.shape'
    obtain⟨pva,pvc,rfl⟩:=hP.shape'
    have hpsl:ps.length<=60:=by have:=hR.1;simp only [frTo,List.length_map,List.length_range]at this;omega
    have hszl:(szL (frmL p l cs) k).length<=60:=by simp only [szL,List.length_map,List.length_range];omega
    go_upto_region 13 with fail
    go_region_held3 (fun w' => w'.cell? ⟨O, 1, none⟩ = some (.bool p))
     (first | go_keep)
     ((first
      | (go_at_call 30; refine HB1.out.mono ?_; rintro e w5 ⟨v5, rfl, hO5, hf5⟩; obtain ⟨p5, z5, hq5⟩ := hO5.shape'; subst hq5; have y0 := hf5.cell x0)
      | (go_at_call 29; refine (HWr.out _ (hf.trans ((Fr.refl wr).drew.trans hf5)) _ hO5.see).mono ?_; rintro e w6 ⟨v6, rfl, hO6, hf6⟩; obtain ⟨p6, z6, hq6⟩ := hO6.shape'; subst hq6; have u0 := hf6.cell y0)))
    have hfr6:Fr wr w6:=(Fr.refl wr).drew.trans (hf5.trans hf6)
    have hO7:=hfr6.heap hO
    have hD7:=hfr6.heap hD
    have hC7:=hC.fr hfr6
    have hS7:=hS.fr hfr6
    have hP7:=hP.fr hfr6
    have hR7:=hR.fr hfr6
    have hf7:=hf.trans hfr6
    have hF7:=hO6.rebase (b:=O) (Nat.le_trans hszr ((Fr.refl wr).drew.trans hf5).size)
    have hsz6:O<=w6.heap.size:=Nat.le_trans hszr hfr6.size
    clear hO hD hC hS hP hR hf hO5 hO6 hf5 hf6 x0 y0 u0 hmid hsub d1 hfr6 HWr HB1
    go_wp2_with (at_builtin;refine wpList_app1 eHB rfl (.tmp 59) (.tmp 61) 80 rfl Tryz.underlying80 O rfl hP7 [⟨p6,fk.length,z6⟩] _ _ _ rfl rfl rfl ?c1 hsz6 ?_)
    case c1=>first | omega | (simp;omega)
    intro v8 w8 hap8
    have hO8:=hap8.chg'.heap hO7 (hP7.ne_cells hO7 (by decide))
    have hD8:=hap8.chg'.heap hD7 (hP7.ne_cells hD7 (by decide))
    have hC8:=own_app hC7 hP7 hap8 (by decide)
    have hS8:=own_app hS7 hP7 hap8 (by decide)
    have hF8:=own_app hF7 hP7 hap8 (by decide)
    have hR8:Owns w8 O eB ps (frTo (frmL p l cs) k):=⟨hR7.1,fun t h1 h2=>own_app (hR7.2 t h1 h2) hP7 hap8 (by decide)⟩
    have hf8:Fr w w8:=hap8.below hP7 hf7 (by rw [HO.out];exact Nat.le_refl _) hf7.size
    have hP8:=hap8.own
    have hsz8:O<=w8.heap.size:=Nat.le_trans hsz6 hap8.size
    obtain⟨pv8,pc8,rfl⟩:=hP8.shape'
    have x8:=cellx hD8 1 rfl
    obtain⟨zl,hzl⟩:∃ zl,zl=szL (frmL p l cs) k:=⟨_,rfl⟩
    rw [<- hzl]at hS8 x8 hap hszl hD8
    have HZl:=hid hzl
    clear hO7 hD7 hC7 hS7 hP7 hR7 hf7 hF7 hap8 hzl
    go_wp2_with (at_builtin;refine wpList_app1 eJ rfl (.tmp 64) (.tmp 67) 55 rfl Tryz.underlying55 O rfl hS8 [fk.length] _ _ _ rfl rfl rfl ?c1 hsz8 ?_)
    case c1=>first | omega | (simp;omega)
    intro v9 w9 hap9
    have hO9:=hap9.chg'.heap hO8 (hS8.ne_cells hO8 (by decide))
    have hD9:=hap9.chg'.heap hD8 (hS8.ne_cells hD8 (by decide))
    have hC9:=hap9.other hC8 (ne_flip hap)
    have hap99:=hap9.apart hC8 (ne_flip hap)
    have hF9:=own_app hF8 hS8 hap9 (by decide)
    have hP9:=own_app hP8 hS8 hap9 (by decide)
    have hR9:Owns w9 O eB ps (frTo (frmL p l cs) k):=⟨hR8.1,fun t h1 h2=>own_app (hR8.2 t h1 h2) hS8 hap9 (by decide)⟩
    have hf9:Fr w w9:=hap9.below hS8 hf8 (by rw [HO.out];exact Nat.le_refl _) hf8.size
    have hS9:=hap9.own
    obtain⟨sv9,sc9,rfl⟩:=hS9.shape'
    have e9:=cellx hD9 1 rfl
    have f9:w9.frozen? ⟨g,1,none⟩=false:=frozen_of_heap hD9 1
    have HO9:=hid hO9
    have HD9:=hid hD9
    obtain⟨zl2,hzl2⟩:∃ zl2,zl2=zl++[fk.length]:=⟨_,rfl⟩
    rw [<- hzl2]at hS9 hap99
    have HZ2:=hid hzl2
    rw [<- hzl2]
    clear hO8 hD8 hC8 hS8 hP8 hR8 hf8 hF8 hap9 hzl2 x8 hap hO9 hD9
    have hOg:O≠g:=fun e=>by
     have h1:=HO9.out
     rw [e,HD9.out]at h1
     cases h1
    go_wp2_with fail
    go_roundw
    case rel=>
     have hst:=setCell_chg w9 ⟨g,1,none⟩ (.slice sv9 zl2.length sc9)
     have hall:∀ {α:Type} {E:Elt Tryz.prog α} {v:Value} {q:List α},E.e≠89->Ow w9 O E v q->Ow (w9.setCell ⟨g,1,none⟩ (.slice sv9 zl2.length sc9)) O E v q:=fun hT h=>h.chg hst (fun k hk e=>h.ne_cells HD9.out (Ne.symm hT) (by rw [hk,e]))
     have r1:(w9.setCell ⟨g,1,none⟩ (.slice sv9 zl2.length sc9)).heap[O]? = some (opB sz bu p d q c):=hst.heap HO9.out (by simpa using hOg)
     have r2:(w9.setCell ⟨g,1,none⟩ (.slice sv9 zl2.length sc9)).heap[g]? = some (dirB (.slice (some ⟨b1,off1,none⟩) cs.length cc) (.slice sv9 zl2.length sc9) 0 0):=by have:=heap_setCell_own HD9.out 1 (.slice sv9 zl2.length sc9);simpa using this
     have r3:=hall (by decide) hC9
     have r4:Ow (w9.setCell ⟨g,1,none⟩ (.slice sv9 zl2.length sc9)) O eJ (.slice sv9 zl2.length sc9) (szL (frmL p l cs) (k+1)):=by
      rw [HZs.out,<- HZl.out,<- HZ2.out];exact hall (by decide) hS9
     have r5:=hall (by decide) hP9
     have r6:Owns (w9.setCell ⟨g,1,none⟩ (.slice sv9 zl2.length sc9)) O eB (ps++[(⟨p6,fk.length,z6⟩:Hd)]) (frTo (frmL p l cs) (k+1)):=by
      rw [HFs.out]
      refine⟨by rw [List.length_append,List.length_append,hR9.1];rfl,fun t a b=>?_⟩
      by_cases ht:t<ps.length
      · have ht2:t<(frTo (frmL p l cs) k).length:=by rw [<- hR9.1];exact ht
        rw [List.getElem_append_left ht,List.getElem_append_left ht2]
        exact hall (by decide) (hR9.2 t ht ht2)
      · have e1:t=ps.length:=by rw [List.length_append,List.length_singleton]at a;omega
        subst e1
        rw [List.getElem_append_right (Nat.le_refl _)]
        have e2:ps.length=(frTo (frmL p l cs) k).length:=hR9.1
        rw [List.getElem_append_right (by rw [<- e2];exact Nat.le_refl _)]
        simp only [Nat.sub_self,e2,List.getElem_cons_zero]
        exact hall (by decide) hF9
     have hgw:w.heap.size<=g:=by have:=HO.out;omega
     have r7:Fr w (w9.setCell ⟨g,1,none⟩ (.slice sv9 zl2.length sc9)):=set_below hf9 hgw hf9.size
     have e7:Value.int .i64 (IntKind.i64.wrap ((m:Int)+x))=N m2:=by rw [i4,HMx.out];simp
     rw [List.length_append,List.length_singleton]at r5
     exact⟨k+1,_,ps++[(⟨p6,fk.length,z6⟩:Hd)],by omega,by go_num,by rw [HM2.out,HMx.out];go_num,r1,r2,r3,r4,ne_flip hap99,r5,r6,r7⟩
    case measure=>simp [intOf];omega
  · obtain rfl:k=cs.length:=by omega
    have hnl:¬(cs.length:Int)<cs.length:=by omega
    have x0:=cellx hO 2 rfl
    have hfl:=HFT.out cs.length
    have hmul:cs.length*6025<=60*6025:=Nat.mul_le_mul_right _ (by omega)
    have hpsl:ps.length<=60:=by have:=hR.1;simp only [frTo,List.length_map,List.length_range]at this;omega
    have HTj:Hid (T=(frTo (frmL p l cs) cs.length).flatten++putB CO++putB PI++putB (dirL cs (frmL p l cs) (putB CO).length (putB PI).length)++fixB 4 (putB (dirL cs (frmL p l cs) (putB CO).length (putB PI).length)).length):=HT
    have HDb:=hid (fun cv sv W h1 h2 h3=>dbytes_any g cv sv cs (frmL p l cs) (putB CO).length (putB PI).length W h1 h2 h3 (by omega) (by have:=HCs.out;omega) (fun k=>(HFm.out cs k).2) (by rw [putB_len];omega) (by rw [putB_len];omega))
    have hdl:(dirL cs (frmL p l cs) (putB CO).length (putB PI).length).length<=1300:=by
     have i1:=numB_le cs.sum (by have:=HCs.out;omega)
     have i2:=numB_le cs.length (by omega)
     have i3:=numB_le (putB CO).length (by rw [putB_len];omega)
     have i4:=numB_le (putB PI).length (by rw [putB_len];omega)
     have i5 := prTo_len cs (frmL p l cs) 6025 (by omega) (fun k => (HFm.out cs k).2) (fun x hx => by
      obtain ⟨i, hi, rfl⟩ := List.mem_iff_getElem.1 hx
      have h1 := groups_sum_le cs (i + 1)
      rw [sum_snoc cs i hi] at h1
      have := HCs.out
      omega) cs.length
     have i6:cs.length*20<=60*20:=Nat.mul_le_mul_right _ (by omega)
     unfold dirL
     simp only [List.length_append]
     omega
    generalize hfr:frTo (frmL p l cs) cs.length=FR at *
    clear hfr
    generalize hde:dirL cs (frmL p l cs) (putB CO).length (putB PI).length=DI_ at *
    clear hde
    have HCl:=hid (fun W h=>HCo.out W h)
    go_wp2_with fail
    refine(HCo.out _ hf).mono ?_
    rintro e w2 ⟨v2,rfl,hO2,hf2⟩
    have hfw2:=hf.trans hf2
    have HP2:=hid (HPo.out v2 CO w2 hfw2 hO2.see (by omega))
    obtain⟨p2,z2,rfl⟩:=hO2.shape'
    obtain⟨pca,pcc,rfl⟩:=hP.shape'
    obtain⟨svz,hsvz⟩:∃ q,q=szL (frmL p l cs) cs.length:=⟨_,rfl⟩
    rw [<- hsvz]at hS
    have HSz:=hid hsvz
    clear hsvz
    go_wp2_with fail
    refine HP2.out.mono ?_
    rintro e w3 ⟨v3,rfl,hO3,hf3⟩
    obtain⟨p3,z3,rfl⟩:=hO3.shape'
    have hf23:=hf2.trans hf3
    have y0:=hf23.cell x0
    have hf03:=hf.trans hf23
    have hOr:=hf23.heap hO
    have hDr:=hf23.heap hD
    have hCr:=hC.fr hf23
    have hSr:=hS.fr hf23
    have hPr:=hP.fr hf23
    have hRr:=hR.fr hf23
    have hszO:O<=w2.heap.size:=Nat.le_trans hszr hf2.size
    have hK3:=hO3.rebase hszO
    clear hO hD hC hS hP hR hf hf2 hf3 hf23 hO2 hO3 x0 HP2 HCl HCo
    go_upto_region 21 with fail
    go_region_held3 (fun w' => w'.cell? ⟨O, 2, none⟩ = some (N bu))
     (first | go_keep)
     ((first
      | (go_at_call 54; refine (HBu.out _ (hf03.trans (Fr.refl w3).drew)).mono ?_; rintro e w4 ⟨tv, lv, hs4, rfl, hT4, hL4, hf4⟩; have u0 := hf4.cell y0)
      | (go_at_call 53; refine (HPB.out _ _ _ _ hT4 hL4).mono ?_; rintro e w5 ⟨v5, rfl, hO5, hf5⟩; obtain ⟨p5, z5, hq5⟩ := hO5.shape'; subst hq5; have t0 := hf5.cell u0)))
    have hf35:Fr w3 w5:=(Fr.refl w3).drew.trans (hf4.trans hf5)
    have hf05:=hf03.trans hf35
    have HP5:=hid (HPo.out _ PI w5 hf05 hO5.see (by omega))
    have hO5r:=hf35.heap hOr
    have hD5r:=hf35.heap hDr
    have hC5:=hCr.fr hf35
    have hS5:=hSr.fr hf35
    have hP5r:=hPr.fr hf35
    have hR5:=hRr.fr hf35
    have hK5:=hK3.fr hf35
    have hsz5:O<=w5.heap.size:=by rw [HO.out];exact hf05.size
    clear y0 u0 t0 hf4 hT4 hL4 hOr hDr hCr hSr hPr hRr hK3 hO5 hf03 hf35 hf5 hszO
    go_wp2_with fail
    refine HP5.out.mono ?_
    rintro e w6 ⟨v6,rfl,hO6,hf6⟩
    obtain⟨p6,z6,rfl⟩:=hO6.shape'
    have hO6r:=hf6.heap hO5r
    have hD6:=hf6.heap hD5r
    have hC6:=hC5.fr hf6
    have hS6:=hS5.fr hf6
    have hP6:=hP5r.fr hf6
    have hR6:=hR5.fr hf6
    have hK6:=hK5.fr hf6
    have hI6:=hO6.rebase hsz5
    have hf06:=hf05.trans hf6
    have e2:=cellx hD6 2 rfl
    have e3:=cellx hD6 3 rfl
    have f2:=frozen_of_heap hD6 2
    have f3:=frozen_of_heap hD6 3
    clear hO5r hD5r hC5 hS5 hP5r hR5 hK5 hO6 hf6 hf05 HP5 hsz5
    generalize hA:(putB CO).length=A at *
    generalize hB:(putB PI).length=B at *
    have hAb:A<=1304:=by rw [<- hA,putB_len];omega
    have hBb:B<=623524:=by rw [<- hB,putB_len];omega
    go_upto_region 26 with fail
    have hst2:=setCell_chg w6 ⟨g,2,none⟩ (N A)
    have hst3:=setCell_chg (w6.setCell ⟨g,2,none⟩ (N A)) ⟨g,3,none⟩ (N B)
    have hall:∀ {α:Type} {E:Elt Tryz.prog α} {v:Value} {q:List α},E.e≠89->Ow w6 O E v q->Ow ((w6.setCell ⟨g,2,none⟩ (N A)).setCell ⟨g,3,none⟩ (N B)) O E v q:=fun hT h=>
     (h.chg hst2 (fun k hk e=>h.ne_cells hD6 (Ne.symm hT) (by rw [hk,e]))).chg hst3 (fun k hk e=>h.ne_cells hD6 (Ne.symm hT) (by rw [hk,e]))
    have hD7:((w6.setCell ⟨g,2,none⟩ (N A)).setCell ⟨g,3,none⟩ (N B)).heap[g]? = some (dirB (.slice ca cs.length cc) sv A B):=by
     have h7:=heap_setCell_own hD6 2 (N A)
     have h8:=heap_setCell_own h7 3 (N B)
     simpa using h8
    have hgw:w.heap.size<=g:=by have:=HO.out;omega
    have hf07:Fr w ((w6.setCell ⟨g,2,none⟩ (N A)).setCell ⟨g,3,none⟩ (N B)):=set_below (set_below hf06 hgw hf06.size) hgw (by simp;exact hf06.size)
    have hC7:=hall (by decide) hC6
    have hS7:=hall (by decide) hS6
    have hP7:=hall (by decide) hP6
    have hK7:=hall (by decide) hK6
    have hI7:=hall (by decide) hI6
    have hR7:Owns ((w6.setCell ⟨g,2,none⟩ (N A)).setCell ⟨g,3,none⟩ (N B)) O eB ps FR:=⟨hR6.1,fun t a b=>hall (by decide) (hR6.2 t a b)⟩
    clear hall hst2 hst3 hC6 hS6 hP6 hK6 hI6 hR6 hD6 hO6r e2 e3 f2 f3 hf06
    change Code.wp _ _ _ _ ((w6.setCell ⟨g,2,none⟩ (N A)).setCell ⟨g,3,none⟩ (N B))
    generalize (w6.setCell ⟨g,2,none⟩ (N A)).setCell ⟨g,3,none⟩ (N B)=w7 at *
    rw [HSz.out]at hS7
    have HD8:=hid (HDb.out _ _ w7 hD7 hC7.see hS7.see)
    have hszO7:O<=w7.heap.size:=by rw [HO.out];exact hf07.size
    clear hD7 hC7 hS7 HDb
    go_wp2_with fail
    refine HD8.out.mono ?_
    rintro e w8 ⟨v8,rfl,hO8,hf8⟩
    have hf08:=hf07.trans hf8
    have HP8:=hid (HPo.out v8 DI_ w8 hf08 hO8.see (by omega))
    obtain⟨p8,z8,rfl⟩:=hO8.shape'
    go_wp2_with fail
    refine HP8.out.mono ?_
    rintro e w9 ⟨v9,rfl,hO9,hf9⟩
    obtain⟨p9,z9,rfl⟩:=hO9.shape'
    have hf79:=hf8.trans hf9
    have hf09:=hf07.trans hf79
    have hP9:=hP7.fr hf79
    have hR9:=hR7.fr hf79
    have hK9:=hK7.fr hf79
    have hI9:=hI7.fr hf79
    have hE9:=hO9.rebase (b:=O) (Nat.le_trans hszO7 hf8.size)
    have hdl2:(putB DI_).length<=1304:=by rw [putB_len];omega
    have h256:(putB DI_).length<256 ^ 4:=by rw [show(256:Nat) ^ 4=4294967296 from by decide];omega
    have HFi:=hid (Fixed_any (putB DI_).length 4 (by omega) (by omega) h256 (by omega))
    have hfxl:(fixB 4 (putB DI_).length).length=4:=fixB_len 4 _
    clear hP7 hR7 hK7 hI7 hO8 hO9 hf8 hf9 HP8 HD8 hf08 hf07
    generalize hPD:putB DI_=PD at *
    clear hPD
    generalize hFX:fixB 4 PD.length=FX at *
    clear hFX
    have HFX:=hid hfxl
    clear hfxl
    have hw4:IntKind.u64.wrap (PD.length:Int)=(PD.length:Int):=IntWalk.u64_in _ (by omega)
    go_wp2_with fail
    refine(HFi.out _).mono ?_
    rintro e w10 ⟨v10,rfl,hO10,hf10⟩
    obtain⟨p10,z10,rfl⟩:=hO10.shape'
    have hf910:O<=w9.heap.size:=Nat.le_trans hszO7 hf79.size
    have hP10:=hP9.fr hf10
    have hR10:=hR9.fr hf10
    have hK10:=hK9.fr hf10
    have hI10:=hI9.fr hf10
    have hE10:=hE9.fr hf10
    have hF10:=hO10.rebase (b:=O) hf910
    have hf010:=hf09.trans hf10
    have hsz10:O<=w10.heap.size:=Nat.le_trans hf910 hf10.size
    clear hP9 hR9 hK9 hI9 hE9 hO10 hf09 hf10 hf910 hf79
    go_wp2_with (at_builtin;refine wpList_app1 eHB rfl (.tmp 107) (.tmp 112) 80 rfl Tryz.underlying80 O rfl hP10 [⟨p3,A,z3⟩,⟨p6,B,z6⟩,⟨p9,PD.length,z9⟩,⟨p10,FX.length,z10⟩] _ _ _ rfl rfl rfl ?c1 hsz10 ?_)
    case c1=>first | omega | (simp;omega)
    intro v11 w11 hap
    have hK11:=own_app hK10 hP10 hap (by decide)
    have hI11:=own_app hI10 hP10 hap (by decide)
    have hE11:=own_app hE10 hP10 hap (by decide)
    have hF11:=own_app hF10 hP10 hap (by decide)
    have hR11:Owns w11 O eB ps FR:=⟨hR10.1,fun t h1 h2=>own_app (hR10.2 t h1 h2) hP10 hap (by decide)⟩
    have hf11:Fr w w11:=hap.below hP10 hf010 (by rw [HO.out];exact Nat.le_refl _) hf010.size
    have hP11:=hap.own
    have hsee:Sees2 w11 eHB eB v11 (ps++[⟨p3,A,z3⟩,⟨p6,B,z6⟩,⟨p9,PD.length,z9⟩,⟨p10,FX.length,z10⟩]) (FR++[putB CO,putB PI,PD,FX]):=
     (owns_append hR11 (owns4 (p0:=⟨p3,A,z3⟩) (p1:=⟨p6,B,z6⟩) (p2:=⟨p9,PD.length,z9⟩) (p3:=⟨p10,FX.length,z10⟩) hK11 hI11 hE11 hF11)).sees2 hP11.see
    have hT2:(FR++[putB CO,putB PI,PD,FX]).flatten=T:=by rw [HTj.out];simp
    have HAll := hid (All_any v11 _ _ w11 hsee (by
     have := HFX.out
     simp only [List.flatten_append, List.length_append, List.flatten_cons, List.flatten_nil, List.length_nil]
     omega))
    rw [hT2]at HAll
    have hbs:O<=w11.heap.size:=Nat.le_trans hsz10 hap.size
    clear hsee hT2 hK11 hI11 hE11 hF11 hR11 hK10 hI10 hE10 hF10 hR10 hP10 hap hf010
    have hl4:(ps++[(⟨p3,A,z3⟩:Hd),⟨p6,B,z6⟩,⟨p9,PD.length,z9⟩,⟨p10,FX.length,z10⟩]).length=ps.length+4:=by rw [List.length_append];rfl
    obtain⟨p11,z11,hq11⟩:=hP11.shape'
    rw [hl4]at hq11
    clear hl4
    subst hq11
    clear hP11
    go_wp2_with fail
    refine HAll.out.mono ?_
    rintro e w12 ⟨v12,rfl,hO12,hf12⟩
    obtain⟨p12,z12,rfl⟩:=hO12.shape'
    have HR:=hid (hO12.rebase hbs)
    rw [HO.out]at HR
    clear hO12
    go_wp2_with fail
    go_ret2
    exact⟨_,rfl,HR.out,hf11.trans hf12⟩
end Go.Proofs.YtdagmoonnbnceaaGreatDoor

namespace Go.Proofs.YtdagmoonnbnceaaGreatDoor
open Go.RowKit Go.Fk
theorem bodyL_len(sz bu:Nat)(p:Bool)(l:List Rec)(h3:1<=bu)(h4:bu<=64)(hl:SmallL l):(bodyL sz bu p l).length<=1000000:=by
 have hpl:=dictB_len4 bu (idxT (l.map Rec.ts)) h3 h4 (fun s h=>(idxT_each _ s h).2) (by have:=idxT_len (l.map Rec.ts);have:=hl.texts;omega)
 have hps:=hl.idx.sum
 have hpost:(postB bu l.length (idxT (l.map Rec.ts)) (idxL (l.map Rec.ts))).length<=623520:=by unfold postB;rw [List.length_append];omega
 have hcol:=columnsL_len l hl.len
 have hcsum:=groupsL_sum sz (lenR false) l
 have hcl:=groups_len sz (lenR false) l
 have hlen:=hl.len
 have hfr:=frTo_len (frmL p l (groupsL sz (lenR false) l)) 6025 (fun k=>(hl.frm p _ k).2) (groupsL sz (lenR false) l).length
 have hmul:(groupsL sz (lenR false) l).length*6025<=60*6025:=Nat.mul_le_mul_right _ (by omega)
 have hp1:=putB_len (columnsL l)
 have hp2:=putB_len (postB bu l.length (idxT (l.map Rec.ts)) (idxL (l.map Rec.ts)))
 have hcx:∀ x∈groupsL sz (lenR false) l,x<1000000:=fun x hx=>by
  obtain⟨i,hi,rfl⟩:=List.mem_iff_getElem.1 hx
  have h1:=groups_sum_le (groupsL sz (lenR false) l) (i+1)
  rw [sum_snoc _ i hi]at h1
  omega
 have hpr:=prTo_len (groupsL sz (lenR false) l) (frmL p l (groupsL sz (lenR false) l)) 6025 (by omega) (fun k=>(hl.frm p _ k).2) hcx (groupsL sz (lenR false) l).length
 have hmul2:(groupsL sz (lenR false) l).length*20<=60*20:=Nat.mul_le_mul_right _ (by omega)
 unfold bodyL joinL
 generalize groupsL sz (lenR false) l=cs at *
 generalize frmL p l cs=fr at *
 generalize putB (columnsL l)=CO at *
 generalize putB (postB bu l.length (idxT (l.map Rec.ts)) (idxL (l.map Rec.ts)))=IX at *
 have n1:=numB_le cs.sum (by omega)
 have n2:=numB_le cs.length (by omega)
 have n3:=numB_le CO.length (by omega)
 have n4:=numB_le IX.length (by omega)
 simp only [List.length_append,putB_len,fixB_len]
 unfold dirL
 simp only [List.length_append]
 omega
theorem Pack_no(o:Opt)(ho:opt3 o=false)(v:Value)(l:List Rec)(w:World)(hs:See w eR v l) :
  Calls Tryz.prog 16 #[optV o,v] w fun e w'=>e=.returned (.tuple #[.slice none 0 0,.int .i64 9])/\Fr w w':=by
 have HC:=hid (fun W=>OCheck3_any o W)
 rw [if_neg (by rw [ho];simp)]at HC
 obtain⟨a0,cap,rfl,_⟩:=hs.shape
 clear hs ho
 go_enter Tryz.func16, Tryz.ntmps16
 go_wp2_with fail
 refine(HC.out _).mono ?_
 rintro e w1 ⟨rfl,hf1⟩
 have hf01:Fr w w1:=((Fr.refl w).alloc _).trans hf1
 go_wp2_with fail
 go_ret2
 exact⟨rfl,hf01⟩
theorem Pack_any(sz bu d q c:Nat)(p:Bool)(h1:16<=sz)(h2:sz<=32768)(h3:1<=bu)(h4:bu<=64)(h5:1<=d)(h6:d<=8)(h7:q<=8)(h8:q<=4*d)(h9:4<=c)(h10:c<=100)(v:Value)(l:List Rec)(w:World)(hs:See w eR v l)(hl:SmallL l)(ht:Crc w) :
  Calls Tryz.prog 16 #[optV ⟨(sz:Int),p,(bu:Int),(d:Int),(q:Int),(c:Int)⟩,v] w fun e w'=>∃ u,e=.returned (.tuple #[u,.int .i64 0])/\Ow w' w.heap.size eB u (archL sz p bu d q c (bodyL sz bu p l))/\Fr w w':=by
 have ho:opt3 ⟨(sz:Int),p,(bu:Int),(d:Int),(q:Int),(c:Int)⟩=true:=(opt3_iff _).2 (by refine⟨?_,?_,?_,?_,?_,?_,?_,?_,?_,?_⟩ <;> simp only <;> omega)
 have HC:=hid (fun W=>OCheck3_any ⟨(sz:Int),p,(bu:Int),(d:Int),(q:Int),(c:Int)⟩ W)
 rw [if_pos ho]at HC
 have HM:=hid (fun W (h:Fr w W)=>BMake_any sz bu p (d:Int) (q:Int) (c:Int) h1 h2 h3 h4 v l W (hs.fr h) hl (ht.fr h))
 have hbl:=bodyL_len sz bu p l h3 h4 hl
 obtain⟨a0,cap,rfl,_⟩:=hs.shape
 clear hs ho hl
 generalize bodyL sz bu p l=T at *
 have hlay:=lay_small d q c T.length h8 h9 h6 h10 hbl
 have HL:=hid (fun u W (h:Fr w W) (h2:See W eB u T)=>Lay_any d q c u T W h2 h5 (by omega) (by omega) (by omega) hbl hlay (ht.fr h))
 have hyl:=layL_len T d q c (strN d c T.length)
 have HA:=hid (fun g u W (h:Fr w W) (hg:W.heap[g]? = some (hdB sz p bu d q c T.length)) (h3:See W eB u (layL T d q c (strN d c T.length)))=>Archive_any g sz bu d q c T.length p u _ W hg h3 (ht.fr h) h2 (by omega) (by omega) (by omega) (by omega) (by omega) (by omega))
 have HE:Hid (archL sz p bu d q c T=putB (headL sz p bu d q c T.length)++layL T d q c (strN d c T.length)++putB (headL sz p bu d q c T.length)):=rfl
 rw [<- HE.out]at HA
 clear HE ht hyl hlay
 generalize archL sz p bu d q c T=AR at *
 generalize layL T d q c (strN d c T.length)=LY at *
 go_enter Tryz.func16, Tryz.ntmps16
 go_wp2_with fail
 refine(HC.out _).mono ?_
 rintro e w1 ⟨rfl,hf1⟩
 have hO1:=hf1.heap (heap_new w (.cells #[N sz,.bool p,N bu,N d,N q,N c] 23) _ rfl)
 have hf01:Fr w w1:=((Fr.refl w).alloc _).trans hf1
 have c0:=cellx hO1 0 rfl
 have c1:=cellx hO1 1 rfl
 have c2:=cellx hO1 2 rfl
 have c3:=cellx hO1 3 rfl
 have c4:=cellx hO1 4 rfl
 have c5:=cellx hO1 5 rfl
 go_wp2_with fail
 refine(HM.out _ hf01).mono ?_
 rintro e w2 ⟨v2,rfl,hB2,hf2⟩
 have hO2:=hf2.heap hO1
 have hf02:=hf01.trans hf2
 have HL2:=hid (HL.out v2 w2 hf02 hB2.see)
 obtain⟨p2,z2,rfl⟩:=hB2.shape'
 have d3:=hf2.cell c3
 have d4:=hf2.cell c4
 have d5:=hf2.cell c5
 clear c0 c1 c2 c3 c4 c5 hB2 hO1 hf01 hf1
 go_wp2_with fail
 refine HL2.out.mono ?_
 rintro e w3 ⟨v3,rfl,hY3,hf3⟩
 have hO3:=hf3.heap hO2
 have hf03:=hf02.trans hf3
 obtain⟨p3,z3,rfl⟩:=hY3.shape'
 have c0:=cellx hO3 0 rfl
 have c1:=cellx hO3 1 rfl
 have c2:=cellx hO3 2 rfl
 have c3:=cellx hO3 3 rfl
 have c4:=cellx hO3 4 rfl
 have c5:=cellx hO3 5 rfl
 clear d3 d4 d5 HL2 hO2 hf02 hf2 hf3
 go_wp2_with fail
 have hfa:Fr w3 (w3.alloc (hdB sz p bu d q c T.length)):=(Fr.refl w3).alloc _
 refine(HA.out w3.heap.size _ _ (hf03.trans hfa) (heap_new w3 (.cells #[N sz,.bool p,N bu,N d,N q,N c,N T.length,.int .u8 0] 69) _ rfl) (hY3.see.fr hfa)).mono ?_
 rintro e w4 ⟨v4,rfl,hR4,hf4⟩
 have HR:=hid (hR4.rebase (hf03.trans hfa).size)
 have hf04:=(hf03.trans hfa).trans hf4
 clear hR4 hf4 hfa hY3 c0 c1 c2 c3 c4 c5 hO3
 go_wp2_with fail
 go_ret2
 exact⟨_,rfl,HR.out,hf04⟩
end Go.Proofs.YtdagmoonnbnceaaGreatDoor

namespace Go.Proofs.YtdagmoonnbnceaaGreatDoor
open Go.RowKit Go.Fk
theorem wtGo_wt(l:List Rec):∀ sum n:Int,n<2199023255552->wtGo sum l<=n->sum+(wtS wt1 l:Int)<=n:=by
 induction l with
 | nil=>intro sum n _ h;simpa [wtS,wtGo] using h
 | cons r l ih=>
  intro sum n hn h
  unfold wtGo at h
  split at h
  · omega
  · have:=ih _ n hn h
    have e:wtS wt1 (r::l)=wt1 r+wtS wt1 l:=by simp [wtS]
    have e2:wt1 r=16+r.source.length+r.text.length:=by unfold wt1;omega
    rw [e,e2]
    push_cast
    omega
theorem small_of{l:List Rec}(h:(decide (20<l.length) || decide ((800:Int)<wtGo 0 l))=false):SmallL l:=by
 simp only [Bool.or_eq_false_iff,decide_eq_false_iff_not]at h
 have:=wtGo_wt l 0 800 (by omega) (by omega)
 exact⟨by omega,by omega⟩
def smallB(o:Opt):Bool:=decide (o.d<=8) && (decide (o.p<=8) && (decide (o.p<=4*o.d) && (decide (4<=o.c) && decide (o.c<=100))))
theorem RSmall_any(o:Opt)(h1:1<=o.d)(h2:o.d<=255)(w:World):Calls Tryz.prog 13 #[optV o] w fun e w'=>e=.returned (.bool (smallB o))/\Fr w w':=by
 obtain⟨ob,opl,obu,od,op,oc⟩:=o
 have h1':1<=od:=h1
 have h2':od<=255:=h2
 have hw:IntKind.i64.wrap (4*od)=4*od:=IntWalk.i64_in _ (by omega)
 have HS:Hid (smallB ⟨ob,opl,obu,od,op,oc⟩=(decide (od<=8) && (decide (op<=8) && (decide (op<=4*od) && (decide (4<=oc) && decide (oc<=100)))))):=rfl
 generalize smallB ⟨ob,opl,obu,od,op,oc⟩=R at *
 clear h1 h2
 by_cases q0:od<=8
 · skip
   by_cases q1:op<=8
   · skip
     by_cases q2:op<=4*od
     · skip
       by_cases q3:4<=oc
       · skip
         by_cases q4:oc<=100
         · skip
           obtain rfl:R=true:=by rw [HS.out];simp [q0,q1,q2,q3,q4]
           clear HS
           go_enter Tryz.func13, Tryz.ntmps13
           go_wp2_with fail
           go_ret
           exact⟨rfl,(Fr.refl w).alloc _⟩
         · skip
           obtain rfl:R=false:=by rw [HS.out];simp [q0,q1,q2,q3,q4]
           clear HS
           go_enter Tryz.func13, Tryz.ntmps13
           go_wp2_with fail
           go_ret
           exact⟨rfl,(Fr.refl w).alloc _⟩
       · skip
         obtain rfl:R=false:=by rw [HS.out];simp [q0,q1,q2,q3]
         clear HS
         go_enter Tryz.func13, Tryz.ntmps13
         go_wp2_with fail
         go_ret
         exact⟨rfl,(Fr.refl w).alloc _⟩
     · skip
       obtain rfl:R=false:=by rw [HS.out];simp [q0,q1,q2]
       clear HS
       go_enter Tryz.func13, Tryz.ntmps13
       go_wp2_with fail
       go_ret
       exact⟨rfl,(Fr.refl w).alloc _⟩
   · skip
     obtain rfl:R=false:=by rw [HS.out];simp [q0,q1]
     clear HS
     go_enter Tryz.func13, Tryz.ntmps13
     go_wp2_with fail
     go_ret
     exact⟨rfl,(Fr.refl w).alloc _⟩
 · skip
   obtain rfl:R=false:=by rw [HS.out];simp [q0]
   clear HS
   go_enter Tryz.func13, Tryz.ntmps13
   go_wp2_with fail
   go_ret
   exact⟨rfl,(Fr.refl w).alloc _⟩
theorem six_box{w W:World}(o:Opt)(h:Fr (w.alloc (.cells #[.int .i64 o.b,.bool o.plain,.int .i64 o.bu,.int .i64 o.d,.int .i64 o.p,.int .i64 o.c] 23)) W) :
  W.cell? ⟨w.heap.size,0,none⟩=some (.int .i64 o.b)/\W.cell? ⟨w.heap.size,1,none⟩=some (.bool o.plain)/\W.cell? ⟨w.heap.size,2,none⟩=some (.int .i64 o.bu)/\W.cell? ⟨w.heap.size,3,none⟩=some (.int .i64 o.d)/\W.cell? ⟨w.heap.size,4,none⟩=some (.int .i64 o.p)/\W.cell? ⟨w.heap.size,5,none⟩=some (.int .i64 o.c):=by
 have hO:=h.heap (heap_new w (.cells #[.int .i64 o.b,.bool o.plain,.int .i64 o.bu,.int .i64 o.d,.int .i64 o.p,.int .i64 o.c] 23) _ rfl)
 refine⟨?_,?_,?_,?_,?_,?_⟩ <;> (rw [cell_of_heap hO];rfl)
end Go.Proofs.YtdagmoonnbnceaaGreatDoor
