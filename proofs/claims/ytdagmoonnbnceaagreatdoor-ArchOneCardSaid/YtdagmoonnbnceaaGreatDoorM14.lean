/- Parts of the proof of ArchOne: C2 Na Nb Nc Nd Ne Nf Ng Ca Cb Cc Cd Ce O4. -/
import Derived.Test.YtdagmoonnbnceaaGreatDoorM13
import Derived.Test.YtdagmoonnbnceaaGreatDoorM07
import Derived.Test.YtdagmoonnbnceaaGreatDoorM11
import Derived.Test.YtdagmoonnbnceaaGreatDoorM37
set_option linter.unusedVariables false
set_option linter.unusedSectionVars false
set_option linter.unusedSimpArgs false
set_option maxHeartbeats 8000000
set_option maxRecDepth 100000
namespace Go.Proofs.YtdagmoonnbnceaaGreatDoor
open Go.RowKit Go.Fk
theorem BEqual_any(va vb:Value)(a b:List UInt8)(w:World)(ha:See w eB va a)(hb:See w eB vb b) :
  Calls Tryz.prog 135 #[va,vb] w fun e w'=>e=.returned (.bool (decide (a=b)))/\Fr w w':=by
 obtain⟨aa,ca,hva,ha1,ha2,_⟩:=ha.shape
 obtain⟨ab,cb,hvb,hb1,hb2,_⟩:=hb.shape
 subst hva hvb
 unfold maxLen at ha2 hb2
 generalize hR:decide (a=b)=R
 have HR:=hid hR
 clear hR
 go_enter Tryz.func135, Tryz.ntmps135
 by_cases hl:a.length=b.length
 · have HL:=hid hl
   rw [<- hl]
   clear hl hb1
   go_wp2_with fail
   go_loopw [13] (fun iv wr=>∃ i:Nat,i<=a.length/\iv=N i/\Hid (∀ j,j<i->a[j]? = b[j]?)/\Fr w wr) (fun iv _=>a.length - (intOf iv).toNat)
   case atStart=>exact⟨0,Nat.zero_le _,rfl,fun j h=>absurd h (Nat.not_lt_zero j),Fr.refl w⟩
   case round=>
    obtain⟨i,hi,rfl,HE,hf⟩:=hrel
    by_cases hlt:i<a.length
    · have hlb:i<b.length:=by have:=HL.out;omega
      obtain⟨b1,off1,cap1,hv1,e1⟩:=(ha.fr hf).cell1 Fk.u8 rfl i hlt
      obtain⟨b2,off2,cap2,hv2,e2⟩:=(hb.fr hf).cell1 Fk.u8 rfl i hlb
      have HA:Hid (a[i]? = some a[i]):=List.getElem?_eq_getElem hlt
      have HB:Hid (b[i]? = some b[i]):=List.getElem?_eq_getElem hlb
      generalize a[i]=x at *
      generalize b[i]=y at *
      have d1:wr.cell? ⟨b1,off1+i,none⟩=some (.int .u8 (x.toNat:Int)):=e1
      have d2:wr.cell? ⟨b2,off2+i,none⟩=some (.int .u8 (y.toNat:Int)):=e2
      clear e1 e2
      cases hv1
      cases hv2
      have i1:(0:Int)<=i:=by omega
      have i2:(i:Int)<a.length:=by omega
      by_cases hxy:x=y
      · subst hxy
        go_wp2_with fail
        go_quiet (fail)
        go_wp2_with fail
        go_roundw
        case rel => exact ⟨i + 1, by omega, by go_num, fun j hj => by
         by_cases e : j = i
         · subst e; rw [HA.out, HB.out]
         · exact HE.out j (by omega), hf.drewN _⟩
        case measure=>simp [intOf];omega
      · have hn:¬(x.toNat:Int)=y.toNat:=fun e=>hxy (UInt8.toNat_inj.1 (by omega))
        have HF:Hid (R=false):=by
         show _=_
         rw [<- HR.out]
         refine decide_eq_false fun e=>hxy ?_
         have h1:=HA.out
         rw [e,HB.out]at h1
         exact(Option.some.inj h1).symm
        clear hxy
        go_wp2_with fail
        go_quiet (fail)
        go_wp2_with fail
        go_ret
        exact⟨by rw [HF.out];rfl,hf.drewN _⟩
    · have HF:Hid (R=true):=by
        show _=_
        rw [<- HR.out]
        refine decide_eq_true (List.ext_getElem? fun j=>?_)
        by_cases hj:j<a.length
        · exact HE.out j (by omega)
        · rw [List.getElem?_eq_none (by omega),List.getElem?_eq_none (by have:=HL.out;omega)]
      obtain rfl:i=a.length:=by omega
      have hnl:¬((a.length:Int)<a.length):=by omega
      go_wp2_with fail
      go_ret
      exact⟨by rw [HF.out];rfl,hf⟩
 · have HF:Hid (R=false):=by
     show _=_
     rw [<- HR.out]
     exact decide_eq_false fun e=>hl (by rw [e])
   rw [HF.out]
   have hl':¬(a.length:Int)=b.length:=by omega
   go_wp2_with fail
   go_ret
   exact⟨rfl,Fr.refl w⟩
theorem okCut_iff(l:List UInt8)(h:4<=l.length):okCut l=decide (l.drop (l.length - 4)=tailB (sumU (l.take (l.length - 4)))):=by
 have e:putB (l.take (l.length - 4))=l.take (l.length - 4)++tailB (sumU (l.take (l.length - 4))):=rfl
 unfold okCut
 rw [decide_eq_true h,Bool.true_and,e]
 generalize tailB (sumU (l.take (l.length - 4)))=t
 rw [Bool.eq_iff_iff,decide_eq_true_eq,decide_eq_true_eq]
 constructor
 · intro h2
   have:=congrArg (List.drop (l.length - 4)) h2
   rw [List.drop_append_of_le_length (by rw [List.length_take];omega),List.drop_of_length_le (by rw [List.length_take];omega),List.nil_append]at this
   exact this.symm
 · intro h2
   rw [<- h2,List.take_append_drop]
theorem Cut_any (v : Value) (l : List UInt8) (w : World) (hs : See w eB v l) (hn : l.length ≤ 1000000) (ht : Crc w) :
    Calls Tryz.prog 95 #[v] w fun e w'=>∃ u,e=.returned (.tuple #[u,.int .i64 (errCut l:Int)])/\Ow w' w.heap.size eB u (cutB l)/\Fr w w':=by
  obtain⟨a0,cap,rfl,hc1,hc2,_⟩:=hs.shape
  unfold maxLen at hc2
  by_cases h4:l.length<4
  · have h0:okCut l=false:=by unfold okCut;rw [decide_eq_false (by omega),Bool.false_and]
    have HE:Hid (errCut l=1):=by show _=_;unfold errCut;rw [h0];simp [h4]
    have HC:Hid (cutB l=[]):=by show _=_;unfold cutB;rw [h0];simp
    rw [HC.out]
    have hw:IntKind.i64.wrap ((l.length:Int) - 4)=(l.length:Int) - 4:=IntWalk.i64_in _ (by omega)
    have hlt:(l.length:Int) - 4<0:=by omega
    rw [HE.out]
    clear h0 HE HC
    go_enter Tryz.func95, Tryz.ntmps95
    go_wp2_with fail
    go_ret2
    exact⟨_,rfl,Ow.nil,Fr.refl w⟩
  · obtain⟨n,hn4⟩:∃ n,n=l.length - 4:=⟨_,rfl⟩
    have hk:n<=l.length:=by omega
    obtain⟨f1,f2,hfr,hfs⟩:=run_from eB 27 Tryz.underlying27 hs n hk
    obtain⟨htr,hts⟩:=run_to eB 27 Tryz.underlying27 hs n hk
    have hok:=okCut_iff l (by omega)
    rw [<- hn4]at hok
    have hw:IntKind.i64.wrap ((l.length:Int) - 4)=(n:Int):=by rw [IntWalk.i64_in _ (by omega)];omega
    have hge:¬(n:Int)<0:=by omega
    have hlen:(l.take n).length=n:=by rw [List.length_take];omega
    have HS:=hid (fun W (h:Fr w W)=>Sum_any _ (l.take n) W (hts.fr h) (ht.fr h))
    have HT:=hid (tail_any (sumU (l.take n)) (sumU_lt _))
    have HQ:=hid (fun W v' (h:Fr w W) (h2:See W eB v' (tailB (sumU (l.take n))))=>BEqual_any _ v' _ _ W (hfs.fr h) h2)
    have HCl:=hid (fun W (h:Fr w W)=>BClone_any _ (l.take n) W (hts.fr h) (by rw [hlen];omega))
    have HE:Hid (errCut l=if okCut l then 0 else 5):=by show _=_;unfold errCut;simp [h4]
    have HC:Hid (cutB l=if okCut l then l.take n else []):=by show _=_;rw [hn4];rfl
    rw [<- hok]at HQ
    rw [HE.out,HC.out]
    clear HE HC hok hs hts hfs hlen hn4
    generalize sumU (l.take n)=s at *
    generalize okCut l=R at *
    generalize l.take n=q at *
    generalize l.length - n=m at *
    go_enter Tryz.func95, Tryz.ntmps95
    go_wp2_with fail
    go_region_held3 (fun _ => True) (first | trivial | go_keep) ((first
      | (go_at_call 50; refine (HS.out _ (Fr.refl w).drew).mono ?_; rintro e w1 ⟨rfl, hf1⟩)
      | (go_at_call 49; refine (HT.out _).mono ?_; rintro e w2 ⟨v2, rfl, hO2, hf2⟩)
      | (go_at_call 135; refine (HQ.out _ _ (((Fr.refl w).drew.trans hf1).trans hf2) hO2.see).mono ?_; rintro e w3 ⟨rfl, hf3⟩)))
    have hf03:Fr w w3:=(((Fr.refl w).drew.trans hf1).trans hf2).trans hf3
    clear hO2 hf1 hf2 hf3 HS HT HQ
    cases R
    · go_wp2_with fail
      go_ret2
      exact⟨_,rfl,Ow.nil,hf03⟩
    · go_wp2_with fail
      refine(HCl.out _ hf03).mono ?_
      rintro e w4 ⟨v4,rfl,hO4,hf4⟩
      obtain⟨p4,z4,rfl⟩:=hO4.shape'
      go_wp2_with fail
      go_ret2
      exact⟨_,rfl,hO4.rebase hf03.size,hf03.trans hf4⟩
structure OwB (w:World) (B base:Nat) (v:Value) (l:List UInt8):Prop where
 own:Ow w base eB v l
 top:∀ k,v.ownBlock=some k->k<B
theorem OwB.see{w:World}{B base:Nat}{v:Value}{l:List UInt8}(h:OwB w B base v l):See w eB v l:=h.own.see
theorem OwB.shape'{w:World}{B base:Nat}{v:Value}{l:List UInt8}(h:OwB w B base v l):∃ a cap,v=.slice a l.length cap:=h.own.shape'
theorem OwB.lt{w:World}{B base:Nat}{v:Value}{l:List UInt8}(h:OwB w B base v l):∀ k,v.ownBlock=some k->base<=k/\k<w.heap.size:=h.own.lt
theorem OwB.fr{w w':World}{B base:Nat}{v:Value}{l:List UInt8}(h:OwB w B base v l)(hf:Fr w w'):OwB w' B base v l:=⟨h.own.fr hf,h.top⟩
theorem OwB.chg{w w':World}{B base:Nat}{v:Value}{l:List UInt8}{G:Nat->Prop}(h:OwB w B base v l)(hg:Chg G w w')(hne:∀ k,v.ownBlock=some k->¬G k):OwB w' B base v l:=⟨h.own.chg hg hne,h.top⟩
theorem OwB.ne_cells{w:World}{B base:Nat}{v:Value}{l:List UInt8}(h:OwB w B base v l){b:Nat}{cs:Array Value}{T:TypeId}{f:Nat × Nat}(hb:w.heap[b]? = some (.cells cs T f))(hT:T≠(eB:Elt Tryz.prog UInt8).e):v.ownBlock≠some b:=h.own.ne_cells hb hT
structure CurF (w:World) (T:TypeId) (B base:Nat) (l:List UInt8) (n er:Nat):Prop where
 h:∃ v,w.heap[B]? = some (.cells #[v,N n,.int .i64 (er:Int)] T (0,0))/\OwB w B base v l
 le:n<=l.length
theorem CurF.fr{w w':World}{T:TypeId}{B base n er:Nat}{l:List UInt8}(h:CurF w T B base l n er)(hf:Fr w w'):CurF w' T B base l n er:=by
 obtain⟨⟨v,h1,h2⟩,h3⟩:=h
 exact⟨⟨v,hf.heap h1,h2.fr hf⟩,h3⟩
theorem New_any(v:Value)(l:List UInt8)(w:World)(hs:See w eB v l)(hn:l.length<=1000000) :
  Calls Tryz.prog 65 #[v] w fun e w'=>∃ B,e=.returned (.pointer (some ⟨B,0,none⟩))/\CurF w' 156 B w.heap.size l 0 0/\Fr w w'/\w.heap.size<=B:=by
 have HC:=hid (BClone_any v l w hs hn)
 obtain⟨a0,cap,rfl,_⟩:=hs.shape
 clear hs
 go_enter Tryz.func65, Tryz.ntmps65
 go_wp2_with fail
 refine(HC.out).mono ?_
 rintro e w1 ⟨u,rfl,hu,hf⟩
 obtain⟨p,z,rfl⟩:=hu.shape'
 go_wp2_with fail
 go_ret
 exact⟨w1.heap.size,rfl,⟨⟨_,heap_new _ _ _ rfl,hu.fr ((Fr.refl w1).alloc _),fun k hk=>(hu.lt k hk).2⟩,Nat.zero_le _⟩,hf.alloc _,hf.size⟩
theorem CurF.box{w w':World}{T T2:TypeId}{B base n er g:Nat}{l:List UInt8}{cs:Array Value}{f:Nat × Nat}(h:CurF w T B base l n er)(hg:w.heap[g]? = some (.cells cs T2 f))(hT:T2≠(eB:Elt Tryz.prog UInt8).e)(hgB:B≠g)(hc:Chg (fun k=>k=g) w w'):CurF w' T B base l n er:=by
 obtain⟨⟨v,h1,h2⟩,h3⟩:=h
 exact⟨⟨v,hc.heap h1 hgB,h2.chg hc (fun k hk e=>h2.ne_cells hg hT (by rw [hk,e]))⟩,h3⟩
def set6(W:World)(z:Nat)(v0 v1 v2 v3 v4 v5:Value):World:=(((((W.setCell ⟨z,0,none⟩ v0).setCell ⟨z,1,none⟩ v1).setCell ⟨z,2,none⟩ v2).setCell ⟨z,3,none⟩ v3).setCell ⟨z,4,none⟩ v4).setCell ⟨z,5,none⟩ v5
theorem set6_at{T:TypeId}{W:World}{z:Nat}{u0 u1 u2 u3 u4 u5:Value}(v0 v1 v2 v3 v4 v5:Value)(h:W.heap[z]? = some (.cells #[u0,u1,u2,u3,u4,u5] T (0,0))):(set6 W z v0 v1 v2 v3 v4 v5).heap[z]? = some (.cells #[v0,v1,v2,v3,v4,v5] T (0,0))/\Chg (fun k=>k=z) W (set6 W z v0 v1 v2 v3 v4 v5):=by
  unfold set6
  have h0:(W.setCell ⟨z,0,none⟩ v0).heap[z]? = some (.cells #[v0,u1,u2,u3,u4,u5] T (0,0)):=heap_setCell_own h 0 v0
  have c0:=setCell_chg W ⟨z,0,none⟩ v0
  generalize W.setCell ⟨z,0,none⟩ v0=W0 at *
  have h1:(W0.setCell ⟨z,1,none⟩ v1).heap[z]? = some (.cells #[v0,v1,u2,u3,u4,u5] T (0,0)):=heap_setCell_own h0 1 v1
  have c1:=setCell_chg W0 ⟨z,1,none⟩ v1
  generalize W0.setCell ⟨z,1,none⟩ v1=W1 at *
  have h2:(W1.setCell ⟨z,2,none⟩ v2).heap[z]? = some (.cells #[v0,v1,v2,u3,u4,u5] T (0,0)):=heap_setCell_own h1 2 v2
  have c2:=setCell_chg W1 ⟨z,2,none⟩ v2
  generalize W1.setCell ⟨z,2,none⟩ v2=W2 at *
  have h3:(W2.setCell ⟨z,3,none⟩ v3).heap[z]? = some (.cells #[v0,v1,v2,v3,u4,u5] T (0,0)):=heap_setCell_own h2 3 v3
  have c3:=setCell_chg W2 ⟨z,3,none⟩ v3
  generalize W2.setCell ⟨z,3,none⟩ v3=W3 at *
  have h4:(W3.setCell ⟨z,4,none⟩ v4).heap[z]? = some (.cells #[v0,v1,v2,v3,v4,u5] T (0,0)):=heap_setCell_own h3 4 v4
  have c4:=setCell_chg W3 ⟨z,4,none⟩ v4
  generalize W3.setCell ⟨z,4,none⟩ v4=W4 at *
  have h5:(W4.setCell ⟨z,5,none⟩ v5).heap[z]? = some (.cells #[v0,v1,v2,v3,v4,v5] T (0,0)):=heap_setCell_own h4 5 v5
  have c5:=setCell_chg W4 ⟨z,5,none⟩ v5
  generalize W4.setCell ⟨z,5,none⟩ v5=W5 at *
  exact⟨h5,((((c0.trans c1 fun _ _ h=>h).trans c2 fun _ _ h=>h).trans c3 fun _ _ h=>h).trans c4 fun _ _ h=>h).trans c5 fun _ _ h=>h⟩
theorem rest_any(B base n er:Nat)(l:List UInt8)(w:World)(hc:CurF w 156 B base l n er) :
  Calls Tryz.prog 143 #[.pointer (some ⟨B,0,none⟩)] w fun e w'=>∃ a cap,e=.returned (.slice a (l.length - n) cap)/\See w' eB (.slice a (l.length - n) cap) (l.drop n)/\Fr w w':=by
 obtain⟨⟨v,h1,ho⟩,hle⟩:=hc
 obtain⟨a0,cap,rfl⟩:=ho.shape'
 obtain⟨f1,f2,hfr,hfs⟩:=run_from eB 27 Tryz.underlying27 ho.see n hle
 have c0:=cellx h1 0 rfl
 have c1:=cellx h1 1 rfl
 have HS:=hid hfs
 clear h1 ho hfs
 generalize l.length - n=m at *
 go_enter Tryz.func143, Tryz.ntmps143
 go_wp2_with fail
 go_quiet (fail)
 go_wp2_with fail
 go_ret
 exact⟨_,_,rfl,HS.out.fr ((Fr.refl w).drewN _),(Fr.refl w).drewN _⟩
theorem CErr_any(B base n er:Nat)(l:List UInt8)(w:World)(hc:CurF w 156 B base l n er) :
  Calls Tryz.prog 99 #[.pointer (some ⟨B,0,none⟩)] w fun e w'=>e=.returned (.int .i64 (er:Int))/\w=w':=by
 obtain⟨⟨v,h1,ho⟩,hle⟩:=hc
 have c2:=cellx h1 2 rfl
 clear h1 ho
 go_enter Tryz.func99, Tryz.ntmps99
 go_wp2_with fail
 go_ret
 exact⟨rfl,rfl⟩
theorem take1_no(Bn Bo k:Nat)(v:Value)(l:List UInt8)(w:World)(hn:w.heap[Bn]? = some (.cells #[N k] 3 (0,0)))(hs:See w eB v l)(hk:l.length<k) :
  Calls Tryz.prog 175 #[v,.pointer (some ⟨Bn,0,none⟩),.pointer (some ⟨Bo,0,none⟩)] w fun e w'=>e=.returned (.tuple #[.int .i64 0,.int .i64 1])/\w=w':=by
 obtain⟨a0,cap,rfl,_⟩:=hs.shape
 have c0:=cellx hn 0 rfl
 have h1:¬(k:Int)<0:=by omega
 have h2:(l.length:Int)<k:=by omega
 clear hs hn
 go_enter Tryz.func175, Tryz.ntmps175
 go_wp2_with fail
 go_ret2
 exact⟨rfl,rfl⟩
theorem take1_yes(Bn Bo k:Nat)(v ov:Value)(l:List UInt8)(w:World)(hn:w.heap[Bn]? = some (.cells #[N k] 3 (0,0)))(ho:w.heap[Bo]? = some (.cells #[ov] 27 (0,0)))(hne:Bn≠Bo)(hs:See w eB v l)(hk:k<=l.length)(hl:l.length<=1000000) :
  Calls Tryz.prog 175 #[v,.pointer (some ⟨Bn,0,none⟩),.pointer (some ⟨Bo,0,none⟩)] w fun e w'=>e=.returned (.tuple #[N k,.int .i64 0])/\∃ u,w'.heap[Bo]? = some (.cells #[u] 27 (0,0))/\Ow w' w.heap.size eB u (l.take k)/\Chg (fun b=>b=Bo) w w':=by
 obtain⟨a0,cap,rfl,_⟩:=hs.shape
 obtain⟨htr,hts⟩:=run_to eB 27 Tryz.underlying27 hs k hk
 have c0:=cellx hn 0 rfl
 have h1:¬(k:Int)<0:=by omega
 have h2:¬(l.length:Int)<k:=by omega
 have HC:=hid (BClone_any _ (l.take k) w hts (by rw [List.length_take];omega))
 have hBw:Bo<w.heap.size:=(Array.getElem?_eq_some_iff.1 ho).1
 clear hs hts
 generalize l.take k=q at *
 go_enter Tryz.func175, Tryz.ntmps175
 go_wp2_with fail
 refine(HC.out).mono ?_
 rintro e w1 ⟨u,rfl,hu,hf⟩
 obtain⟨p,z,rfl⟩:=hu.shape'
 have ho1:=hf.heap ho
 have hn1:=hf.heap hn
 have d0:=cellx ho1 0 rfl
 have z0:=frozen_of_heap ho1 0
 have hst:=setCell_chg w1 ⟨Bo,0,none⟩ (.slice p q.length z)
 have ho2:=heap_setCell_own ho1 0 (.slice p q.length z)
 have hn2:=hst.heap hn1 hne
 have e0:(w1.setCell ⟨Bo,0,none⟩ (.slice p q.length z)).cell? ⟨Bn,0,none⟩=some (N k):=by rw [cell_of_heap hn2];rfl
 have hu2:=hu.chg hst (fun i hi e=>by have h8:=(hu.lt i hi).1;have e:i=Bo:=e;omega)
 have hc2:Chg (fun b=>b=Bo) w (w1.setCell ⟨Bo,0,none⟩ (.slice p q.length z)):=(hf.chg _).trans hst fun _ _ h=>h
 clear hu hst hn1 ho1 HC c0
 go_wp2_with fail
 go_ret2
 exact⟨rfl,_,ho2,hu2,hc2⟩
theorem readT_yes(B base n k Bn Bo:Nat)(ov:Value)(l:List UInt8)(w:World)(hc:CurF w 156 B base l n 0)(hn:w.heap[Bn]? = some (.cells #[N k] 3 (0,0)))(ho:w.heap[Bo]? = some (.cells #[ov] 27 (0,0)))(hne:Bn≠Bo)(hk:n+k<=l.length)(hl:l.length<=1000000)(hb:base<=w.heap.size) :
  Calls Tryz.prog 136 #[.pointer (some ⟨B,0,none⟩),.func (.func 175) #[] #[.pointer (some ⟨Bn,0,none⟩),.pointer (some ⟨Bo,0,none⟩)]] w fun e w'=>e=.returned (.bool true)/\∃ u,w'.heap[Bo]? = some (.cells #[u] 27 (0,0))/\Ow w' w.heap.size eB u ((l.drop n).take k)/\CurF w' 156 B base l (n+k) 0/\Chg (fun b=>b=Bo\/b=B) w w':=by
 have HE:=hid (CErr_any B base n 0 l w hc)
 have HR:=hid (rest_any B base n 0 l w hc)
 have hdl:(l.drop n).length=l.length - n:=List.length_drop ..
 have HT:=hid (fun W v (hf:Fr w W) (hs:See W eB v (l.drop n))=>take1_yes Bn Bo k v ov (l.drop n) W (hf.heap hn) (hf.heap ho) hne hs (by omega) (by omega))
 obtain⟨⟨v,h1,hO⟩,hle⟩:=hc
 have hBB:B≠Bo:=fun e=>by rw [e,ho]at h1;cases h1
 have hBw:B<w.heap.size:=(Array.getElem?_eq_some_iff.1 h1).1
 have hBow:Bo<w.heap.size:=(Array.getElem?_eq_some_iff.1 ho).1
 have hvB:=hO.ne_cells h1 (by decide)
 have hvBo:=hO.ne_cells ho (by decide)
 have hw1:IntKind.i64.wrap ((n:Int)+k)=(n:Int)+k:=IntWalk.i64_in _ (by omega)
 clear hn hdl
 generalize (l.drop n).take k=q at *
 generalize l.length - n=m at *
 go_enter Tryz.func136, Tryz.ntmps136
 go_wp2_with fail
 refine(HE.out).mono ?_
 rintro e w1 ⟨rfl,rfl⟩
 go_wp2_with fail
 refine(HR.out).mono ?_
 rintro e w2 ⟨a,cap,rfl,hs2,hf2⟩
 have HT2:=hid (HT.out w2 _ hf2 hs2)
 go_wp2_with fail
 refine(HT2.out).mono ?_
 rintro e w3 ⟨rfl,u,hu3,hO3,hc3⟩
 have h13:=hc3.heap (hf2.heap h1) hBB
 have hOv:=(hO.fr hf2).chg hc3 (fun i hi e=>hvBo (by rw [hi,show i=Bo from e]))
 have c1:=cellx h13 1 rfl
 have z1:=frozen_of_heap h13 1
 have hst:=setCell_chg w3 ⟨B,1,none⟩ (.int .i64 ((n:Int)+k))
 have h14:=heap_setCell_own h13 1 (.int .i64 ((n:Int)+k))
 have hu4:=hst.heap hu3 (fun e=>hBB e.symm)
 have hO4:=hO3.chg hst (fun i hi e=>(hO3.ne_cells h13 (by decide)) (by rw [hi,show i=B from e]))
 have hOv4:=hOv.chg hst (fun i hi e=>hvB (by rw [hi,show i=B from e]))
 have hcc:Chg (fun b=>b=Bo\/b=B) w (w3.setCell ⟨B,1,none⟩ (.int .i64 ((n:Int)+k))):=((hf2.chg _).trans (hc3.mono fun _ _ h=>.inl h) fun _ _ h=>h).trans hst fun _ _ h=>.inr h
 clear HE HR HT HT2 hs2 hu3 hO3 h13 hOv hst
 go_wp2_with fail
 go_ret
 exact⟨rfl,u,hu4,hO4.rebase hf2.size,⟨⟨v,h14,hOv4⟩,hk⟩,hcc⟩
theorem Take_yes(B base n k:Nat)(l:List UInt8)(w:World)(hc:CurF w 156 B base l n 0)(hk:n+k<=l.length)(hl:l.length<=1000000)(hb:base<=w.heap.size) :
  Calls Tryz.prog 139 #[.pointer (some ⟨B,0,none⟩),N k] w fun e w'=>∃ u,e=.returned u/\Ow w' w.heap.size eB u ((l.drop n).take k)/\CurF w' 156 B base l (n+k) 0/\Chg (fun b=>b=B) w w':=by
 have hmf:∀ (fn:Fn) (first cap:Array Value) (w:World),(Instr.makeFunc fn first cap).run Tryz.prog w=.ok (.func fn first cap) w:=fun _ _ _ _=>rfl
 have hBw:B<w.heap.size:=by obtain⟨⟨v,h1,_⟩,_⟩:=hc;exact(Array.getElem?_eq_some_iff.1 h1).1
 have g0:((w.alloc (.cells #[N k] 3)).alloc (.cells #[.slice none 0 0] 27)).heap[w.heap.size]? = some (.cells #[N k] 3 (0,0)):=by
  rw [heap_old _ _ _ (by simp),heap_new _ _ _ rfl]
 have g1:((w.alloc (.cells #[N k] 3)).alloc (.cells #[.slice none 0 0] 27)).heap[w.heap.size+1]? = some (.cells #[.slice none 0 0] 27 (0,0)):=heap_new _ _ _ (by simp)
 have hf:Fr w ((w.alloc (.cells #[N k] 3)).alloc (.cells #[.slice none 0 0] 27)):=((Fr.refl w).alloc _).alloc _
 have HR:=hid (readT_yes B base n k w.heap.size (w.heap.size+1) (.slice none 0 0) l _ (hc.fr hf) g0 g1 (by omega) hk hl (Nat.le_trans hb hf.size))
 have hsz:w.heap.size<=((w.alloc (.cells #[N k] 3)).alloc (.cells #[.slice none 0 0] 27)).heap.size:=hf.size
 clear g0 g1 hc
 generalize (l.drop n).take k=q at *
 go_enter Tryz.func139, Tryz.ntmps139
 go_wp2_with fail
 refine(HR.out).mono ?_
 rintro e w3 ⟨rfl,u,hu,hO,hC,hch⟩
 have c1:=cellx hu 0 rfl
 have hfin:Chg (fun b=>b=B) w w3:=(hf.chg _).trans (G':=fun b=>b=w.heap.size+1\/b=B) hch fun i hi h=>by
  rcases h with h | h
  · omega
  · exact h
 have hO2:=hO.rebase hsz
 obtain⟨p,z,rfl⟩:=hO.shape'
 clear HR hu hO hch
 go_wp2_with fail
 go_ret
 exact⟨_,rfl,hO2,hC,hfin⟩
theorem or_u64n(a b:Nat)(ha:a<18446744073709551616)(hb:b<18446744073709551616):bits .or .u64 (a:Int) (b:Int)=((a ||| b:Nat):Int):=by
 have hx:a ||| b<2 ^ 64:=Nat.or_lt_two_pow (by omega) (by omega)
 show IntKind.u64.wrap ((BitVec.ofInt 64 (a:Int) ||| BitVec.ofInt 64 (b:Int)).toNat:Int)=_
 rw [BitVec.toNat_or,of_int 64 a (by omega),of_int 64 b (by omega)]
 exact IntWalk.u64_in _ (by omega)
theorem scan_any (v : Value) (l : List UInt8) (w : World) (hs : See w eB v l) (hl : l.length ≤ 1000000) :
    Calls Tryz.prog 174 #[v] w fun e w'=>e=.returned (.tuple #[.int .u64 ((numL l).1:Int),N (numL l).2.1,.int .i64 ((numL l).2.2:Int)])/\w=w':=by
  obtain⟨a0,cap,rfl,_⟩:=hs.shape
  have HS:=hid hs
  have HN:Hid (numL l=numGo 0 0 (l.drop 0)):=rfl
  clear hs
  generalize numL l=R at *
  go_enter Tryz.func174, Tryz.ntmps174
  go_wp2_with fail
  go_loop [2,9] (fun xv iv=>∃ i x:Nat,i<=l.length/\i<=9/\iv=N i/\xv=.int .u64 (x:Int)/\Hid (x<128 ^ i)/\Hid (R=numGo i x (l.drop i))) (fun _ iv=>l.length - (intOf iv).toNat)
  case atStart=>exact⟨0,0,Nat.zero_le _,by omega,rfl,rfl,by show 0<_;decide,HN.out⟩
  case round=>
    obtain⟨i,x,hi,hi9,rfl,rfl,HX,HR⟩:=hrel
    clear HN
    by_cases hlt:i<l.length
    · obtain⟨b,off,cp,hv,c0⟩:=HS.out.cell1 Fk.u8 rfl i hlt
      cases hv
      have d0:w.cell? ⟨b,off+i,none⟩=some (.int .u8 (l[i].toNat:Int)):=c0
      have HR2:=hid (numGo_step l i x hlt)
      have hcb:=l[i].toNat_lt
      clear c0
      generalize l[i].toNat=c at *
      have i1:(i:Int)<l.length:=by omega
      have i2:(0:Int)<=i:=by omega
      by_cases hf:(i=9/\¬c=1)\/(0<i/\c=0)
      · have HE:Hid (R=(0,0,2)):=by show _=_;rw [HR.out,HR2.out,if_pos hf]
        clear HR HR2 HX
        by_cases h9:i=9
        · subst h9
          by_cases h1:c=1
          · omega
          · have k1:¬(c:Int)=1:=by omega
            clear hf h1
            go_wp2_with fail
            go_ret3
            rw [HE.out]
            exact⟨rfl,rfl⟩
        · have k0:¬(i:Int)=9:=by omega
          have k1:(0:Int)<i:=by omega
          have k2:c=0:=by omega
          subst k2
          clear hf h9
          go_wp2_with fail
          go_ret3
          rw [HE.out]
          exact⟨rfl,rfl⟩
      · have hf2:¬(i=9/\¬c=1):=fun h=>hf (.inl h)
        have hnx:=num_next i c x hi9 hcb HX.out hf2
        have hand:=andnot_u8 c hcb
        have HP:=hid (pow128_two i)
        have hm128:c % 128<128:=Nat.mod_lt _ (by omega)
        have w1:IntKind.u64.wrap ((c % 128:Nat):Int)=((c % 128:Nat):Int):=IntWalk.u64_in _ (by omega)
        have w2:IntKind.i64.wrap (7*(i:Int))=7*(i:Int):=IntWalk.i64_in _ (by omega)
        have w3:IntKind.u64.wrap (((c % 128:Nat):Int)*2 ^ (7*i))=((c % 128*128 ^ i:Nat):Int):=by
          rw [IntWalk.u64_in _ (by rw [show((c % 128:Nat):Int)*2 ^ (7*i)=((c % 128*2 ^ (7*i):Nat):Int) by simp,<- HP.out];omega),HP.out];simp
        have w4:bits .or .u64 (x:Int) ((c % 128*128 ^ i:Nat):Int)=((x+c % 128*128 ^ i:Nat):Int):=by
          rw [or_u64n _ _ (by omega) (by omega),HP.out,leN_or _ _ _ (by rw [<- HP.out];exact HX.out)]
        have s1:¬(7*(i:Int))<0:=by omega
        have s2:(7*(i:Int)).toNat=7*i:=by omega
        by_cases h9:i=9
        · have hc1:c=1:=by omega
          have hx9:=HX.out
          subst h9 hc1
          have e9:(128:Nat) ^ 9=9223372036854775808:=by decide
          rw [e9]at hx9
          have w5:bits .or .u64 (x:Int) (IntKind.u64.wrap (IntKind.u64.wrap (bits .andNot .u8 1 128)*9223372036854775808))=((x+9223372036854775808:Nat):Int):=by
            rw [show IntKind.u64.wrap (IntKind.u64.wrap (bits .andNot .u8 1 128)*9223372036854775808)=((1*2 ^ 63:Nat):Int)from by decide +kernel,or_u64n _ _ (by omega) (by decide),leN_or _ _ _ (by omega)]
          have HE:Hid (R=(x+9223372036854775808,10,0)):=by
            show _=_;rw [HR.out,HR2.out,if_neg hf,if_pos (by omega),e9]
          have HW:=hid w5
          clear w1 w2 w3 w4 w5 s1 s2 hand hm128 hnx hf hf2 HR HR2 HX hx9 e9
          go_wp2_with fail
          go_ret3
          rw [HE.out,HW.out]
          exact⟨rfl,rfl⟩
        have k0:¬(i:Int)=9:=by omega
        have HNx:=hid hnx.1
        have hi8:i<=8:=by omega
        have HR3:Hid (R=if c<128 then(x+c % 128*128 ^ i,i+1,0)else numGo (i+1) (x+c % 128*128 ^ i) (l.drop (i+1))):=by show _=_;rw [HR.out,HR2.out,if_neg hf]
        have HF:=hid hf
        clear HR HR2 hf hnx hf2 h9 hi9
        generalize c % 128*128 ^ i=y at *
        generalize hcm:c % 128=cm at *
        have HCm:=hid hcm
        clear hcm
        by_cases hi0:0<i
        · have k1:(0:Int)<i:=by omega
          have k2:¬(c:Int)=0:=by have:=HF.out;omega
          clear HF
          by_cases hc:c<128
          · have k3:(c:Int)<128:=by omega
            have HE:Hid (R=(x+y,i+1,0)):=by show _=_;rw [HR3.out,if_pos hc]
            clear HR3
            go_wp2_with fail
            go_ret3
            rw [HE.out]
            exact⟨by simp [N],rfl⟩
          · have k3:¬(c:Int)<128:=by omega
            have HE:Hid (R=numGo (i+1) (x+y) (l.drop (i+1))):=by show _=_;rw [HR3.out,if_neg hc]
            clear HR3
            go_wp2_with fail
            go_round
            case rel=>exact⟨i+1,x+y,by omega,by omega,by go_num,rfl,HNx.out,HE.out⟩
            case measure=>simp [intOf];omega
        · have k1:¬(0:Int)<i:=by omega
          clear HF
          by_cases hc:c<128
          · have k3:(c:Int)<128:=by omega
            have HE:Hid (R=(x+y,i+1,0)):=by show _=_;rw [HR3.out,if_pos hc]
            clear HR3
            go_wp2_with fail
            go_ret3
            rw [HE.out]
            exact⟨by simp [N],rfl⟩
          · have k3:¬(c:Int)<128:=by omega
            have HE:Hid (R=numGo (i+1) (x+y) (l.drop (i+1))):=by show _=_;rw [HR3.out,if_neg hc]
            clear HR3
            go_wp2_with fail
            go_round
            case rel=>exact⟨i+1,x+y,by omega,by omega,by go_num,rfl,HNx.out,HE.out⟩
            case measure=>simp [intOf];omega
    · obtain rfl:i=l.length:=by omega
      have hnl:¬((l.length:Int)<l.length):=by omega
      have HE:Hid (R=(0,0,1)):=by show _=_;rw [HR.out,numGo_end l _ x (Nat.le_refl _)]
      clear HR HX
      go_wp2_with fail
      go_ret3
      rw [HE.out]
      exact⟨rfl,rfl⟩
theorem read_no(fv:Value)(B base n er:Nat)(l:List UInt8)(w:World)(hc:CurF w 156 B base l n er)(he:¬er=0) :
  Calls Tryz.prog 136 #[.pointer (some ⟨B,0,none⟩),fv] w fun e w'=>e=.returned (.bool false)/\w=w':=by
 have HE:=hid (CErr_any B base n er l w hc)
 have h1:¬(er:Int)=0:=by omega
 clear hc
 go_enter Tryz.func136, Tryz.ntmps136
 go_wp2_with fail
 refine(HE.out).mono ?_
 rintro e w1 ⟨rfl,rfl⟩
 go_wp2_with fail
 go_ret
 exact⟨rfl,rfl⟩
theorem read_at(fn:Nat)(cap:List Value)(hfn:(fn=236/\∃ a,cap=[a])\/(fn=137/\∃ a b,cap=[a,b])\/(fn=175/\∃ a b,cap=[a,b])\/(fn=237/\∃ a b,cap=[a,b]))(G:Nat->Prop)(Q:World->Prop)(B base n k er:Nat)(l:List UInt8)(w:World)(hc:CurF w 156 B base l n 0)
  (HT:Hid (∀ W v,Fr w W->See W eB v (l.drop n)->Calls Tryz.prog fn (v::cap).toArray W fun e w'=>e=.returned (.tuple #[N k,.int .i64 (er:Int)])/\Q w'/\Chg G W w'))
  (hk:er=0->n+k<=l.length) (hG:∀ g,G g->g≠B/\∃ cs T f,w.heap[g]? = some (.cells cs T f)/\T≠5) (hl:l.length<=1000000) :
  Calls Tryz.prog 136 #[.pointer (some ⟨B,0,none⟩),.func (.func fn) #[] cap.toArray] w fun e w'=>e=.returned (.bool (decide (er=0)))/\∃ w3,Q w3/\Chg G w w3/\Chg (fun b=>b=B) w3 w'/\CurF w' 156 B base l (if er=0 then n+k else n) er:=by
 have HE:=hid (CErr_any B base n 0 l w hc)
 have HR:=hid (rest_any B base n 0 l w hc)
 obtain⟨⟨v,h1,hO⟩,hle⟩:=hc
 have hBG:¬G B:=fun h=>(hG B h).1 rfl
 have hvG:∀ i,v.ownBlock=some i->¬G i:=fun i hi h=>by
  obtain⟨_,cs,T,f,h2,h3⟩:=hG i h
  exact hO.ne_cells h2 h3 hi
 have hvB:=hO.ne_cells h1 (by decide)
 clear hG
 generalize l.length - n=m at *
 go_enter Tryz.func136, Tryz.ntmps136
 go_wp2_with fail
 refine(HE.out).mono ?_
 rintro e w1 ⟨rfl,rfl⟩
 go_wp2_with fail
 refine(HR.out).mono ?_
 rintro e w2 ⟨a,cp,rfl,hs2,hf2⟩
 have HX:Hid (Calls Tryz.prog fn (.slice a m cp::cap).toArray w2 (fun e w'=>e=.returned (.tuple #[N k,.int .i64 (er:Int)])/\Q w'/\Chg G w2 w')):=HT.out w2 _ hf2 hs2
 rcases hfn with⟨rfl,c1,rfl⟩ | ⟨rfl,c1,c2,rfl⟩ | ⟨rfl,c1,c2,rfl⟩ | ⟨rfl,c1,c2,rfl⟩
 all_goals go_wp2_with fail
 all_goals refine(HX.out).mono ?_
 all_goals rintro e w3 ⟨rfl,hq,hc3⟩
 all_goals
  have h13:=hc3.heap (hf2.heap h1) hBG
  have hOv:=(hO.fr hf2).chg hc3 hvG
  have hcc:Chg G w w3:=(hf2.chg _).trans hc3 fun _ _ h=>h
  clear HE HR HT HX hs2
  by_cases he:er=0
  · subst he
    have hk1:=hk rfl
    have hw1:IntKind.i64.wrap ((n:Int)+k)=(n:Int)+k:=IntWalk.i64_in _ (by omega)
    have c1:=cellx h13 1 rfl
    have z1:=frozen_of_heap h13 1
    have hst:=setCell_chg w3 ⟨B,1,none⟩ (.int .i64 ((n:Int)+k))
    have h14:=heap_setCell_own h13 1 (.int .i64 ((n:Int)+k))
    have hOv4:=hOv.chg hst (fun i hi e=>hvB (by rw [hi,show i=B from e]))
    clear hOv
    go_wp2_with fail
    go_ret
    exact⟨rfl,w3,hq,hcc,hst,⟨v,h14,hOv4⟩,hk1⟩
  · have he1:¬(er:Int)=0:=by omega
    have c1:=cellx h13 2 rfl
    have z1:=frozen_of_heap h13 2
    have hst:=setCell_chg w3 ⟨B,2,none⟩ (.int .i64 (er:Int))
    have h14:=heap_setCell_own h13 2 (.int .i64 (er:Int))
    have hOv4:=hOv.chg hst (fun i hi e=>hvB (by rw [hi,show i=B from e]))
    clear hOv
    go_wp2_with fail
    go_ret
    exact⟨rfl,w3,hq,hcc,hst,⟨v,h14,hOv4⟩,hle⟩
theorem read_any(fn:Nat)(cap:List Value)(hfn:(fn=236/\∃ a,cap=[a])\/(fn=137/\∃ a b,cap=[a,b])\/(fn=175/\∃ a b,cap=[a,b])\/(fn=237/\∃ a b,cap=[a,b]))(G:Nat->Prop)(Q:World->Prop)(B base:Nat)(s:Cs)(r:Nat × Nat × Nat)(l:List UInt8)(w:World)(hc:CurF w 156 B base l s.at_ s.er)
  (HT:Hid (∀ W v,Fr w W->See W eB v (l.drop s.at_)->Calls Tryz.prog fn (v::cap).toArray W fun e w'=>e=.returned (.tuple #[N r.2.1,.int .i64 (r.2.2:Int)])/\Q w'/\Chg G W w'))
  (hk:r.2.2=0->s.at_+r.2.1<=l.length) (hG:∀ g,G g->g≠B/\∃ cs T f,w.heap[g]? = some (.cells cs T f)/\T≠5) (hl:l.length<=1000000) :
  Calls Tryz.prog 136 #[.pointer (some ⟨B,0,none⟩),.func (.func fn) #[] cap.toArray] w fun e w'=>e=.returned (.bool (decide (s.er=0/\r.2.2=0)))/\(¬s.er=0->w=w')/\∃ w3,(s.er=0->Q w3)/\Chg G w w3/\Chg (fun b=>b=B) w3 w'/\CurF w' 156 B base l (s.step r).at_ (s.step r).er:=by
 by_cases h0:s.er=0
 · rw [h0]at hc
   refine(read_at fn cap hfn G Q B base s.at_ r.2.1 r.2.2 l w hc HT hk hG hl).mono ?_
   rintro e w1 ⟨rfl,w3,hq,h1,h2,h3⟩
   refine⟨by simp [h0],fun h=>absurd h0 h,w3,fun _=>hq,h1,h2,?_⟩
   unfold Cs.step
   rw [if_pos h0]
   by_cases hr:r.2.2=0
   · rw [if_pos hr]at h3 ⊢;rw [hr]at h3;exact h3
   · rw [if_neg hr]at h3 ⊢;exact h3
 · refine(read_no _ B base s.at_ s.er l w hc h0).mono ?_
   rintro e w1 ⟨rfl,rfl⟩
   refine⟨by simp [h0],fun _=>rfl,w,fun h=>absurd h h0,Chg.refl _ _,Chg.refl _ _,?_⟩
   unfold Cs.step
   rw [if_neg h0];exact hc
theorem limited_any(most:Nat)(hm:most<9223372036854775808)(v:Value)(l:List UInt8)(w:World)(hs:See w eB v l)(hl:l.length<=1000000) :
  Calls Tryz.prog 138 #[v,N most] w fun e w'=>e=.returned (.tuple #[N (limL most l).1,N (limL most l).2.1,.int .i64 ((limL most l).2.2:Int)])/\w=w':=by
 have HS:=hid (scan_any v l w hs hl)
 have hlt:=numL_lt l
 have HL:Hid (limL most l=if(numL l).2.2=0 then(if most<(numL l).1 then(0,0,6)else numL l)else(0,0,(numL l).2.2)):=rfl
 obtain⟨a0,cap,rfl,_⟩:=hs.shape
 clear hs
 generalize limL most l=R at *
 generalize numL l=q at *
 obtain⟨x,n,er⟩:=q
 by_cases h0:er=0
 · subst h0
   have h1:¬(most:Int)<0:=by omega
   by_cases h2:most<x
   · have HE:Hid (R=(0,0,6)):=by show _=_;rw [HL.out,if_pos rfl,if_pos h2]
     have h3:(most:Int)<x:=by omega
     have HM:=hid hm
     have hw1:IntKind.u64.wrap (most:Int)=(most:Int):=IntWalk.u64_in _ (by omega)
     clear HL
     go_enter Tryz.func138, Tryz.ntmps138
     go_wp2_with fail
     refine(HS.out).mono ?_
     rintro e w1 ⟨rfl,rfl⟩
     go_wp2_with fail
     go_ret3
     rw [HE.out]
     exact⟨rfl,rfl⟩
   · have HE:Hid (R=(x,n,0)):=by show _=_;rw [HL.out,if_pos rfl,if_neg h2]
     have h3:¬(most:Int)<x:=by omega
     have hw1:IntKind.u64.wrap (most:Int)=(most:Int):=IntWalk.u64_in _ (by omega)
     have hw2:IntKind.i64.wrap (x:Int)=(x:Int):=IntWalk.i64_in _ (by omega)
     clear HL
     go_enter Tryz.func138, Tryz.ntmps138
     go_wp2_with fail
     refine(HS.out).mono ?_
     rintro e w1 ⟨rfl,rfl⟩
     go_wp2_with fail
     go_ret3
     rw [HE.out]
     exact⟨rfl,rfl⟩
 · have HE:Hid (R=(0,0,er)):=by show _=_;rw [HL.out];simp only;rw [if_neg h0]
   have h3:¬(er:Int)=0:=by omega
   clear HL
   go_enter Tryz.func138, Tryz.ntmps138
   go_wp2_with fail
   refine(HS.out).mono ?_
   rintro e w1 ⟨rfl,rfl⟩
   go_wp2_with fail
   go_ret3
   rw [HE.out]
   exact⟨rfl,rfl⟩
theorem num1_any(Bx:Nat)(xv v:Value)(l:List UInt8)(w:World)(hx:w.heap[Bx]? = some (.cells #[xv] 34 (0,0)))(hs:See w eB v l)(hl:l.length<=1000000) :
  Calls Tryz.prog 236 #[v,.pointer (some ⟨Bx,0,none⟩)] w fun e w'=>e=.returned (.tuple #[N (numL l).2.1,.int .i64 ((numL l).2.2:Int)])/\w'.heap[Bx]? = some (.cells #[.int .u64 ((numL l).1:Int)] 34 (0,0))/\Chg (fun b=>b=Bx) w w':=by
 have HS:=hid (scan_any v l w hs hl)
 have c0:=cellx hx 0 rfl
 have z0:=frozen_of_heap hx 0
 have hst:=setCell_chg w ⟨Bx,0,none⟩ (.int .u64 ((numL l).1:Int))
 have h1:=heap_setCell_own hx 0 (.int .u64 ((numL l).1:Int))
 obtain⟨a0,cap,rfl,_⟩:=hs.shape
 clear hs
 generalize numL l=q at *
 go_enter Tryz.func236, Tryz.ntmps236
 go_wp2_with fail
 refine(HS.out).mono ?_
 rintro e w1 ⟨rfl,rfl⟩
 go_wp2_with fail
 go_ret2
 exact⟨rfl,h1,hst⟩
theorem int1_any(most:Nat)(hm:most<9223372036854775808)(Bm Bx:Nat)(xv v:Value)(l:List UInt8)(w:World)(hmo:w.heap[Bm]? = some (.cells #[N most] 3 (0,0)))(hx:w.heap[Bx]? = some (.cells #[xv] 3 (0,0)))(hs:See w eB v l)(hl:l.length<=1000000) :
  Calls Tryz.prog 137 #[v,.pointer (some ⟨Bm,0,none⟩),.pointer (some ⟨Bx,0,none⟩)] w fun e w'=>e=.returned (.tuple #[N (limL most l).2.1,.int .i64 ((limL most l).2.2:Int)])/\w'.heap[Bx]? = some (.cells #[N (limL most l).1] 3 (0,0))/\Chg (fun b=>b=Bx) w w':=by
 have HS:=hid (limited_any most hm v l w hs hl)
 have m0:=cellx hmo 0 rfl
 have c0:=cellx hx 0 rfl
 have z0:=frozen_of_heap hx 0
 have hst:=setCell_chg w ⟨Bx,0,none⟩ (N (limL most l).1)
 have h1:=heap_setCell_own hx 0 (N (limL most l).1)
 obtain⟨a0,cap,rfl,_⟩:=hs.shape
 clear hs
 generalize limL most l=q at *
 go_enter Tryz.func137, Tryz.ntmps137
 go_wp2_with fail
 refine(HS.out).mono ?_
 rintro e w1 ⟨rfl,rfl⟩
 go_wp2_with fail
 go_ret2
 exact⟨rfl,h1,hst⟩
theorem Num_cur(B base:Nat)(s:Cs)(l:List UInt8)(w:World)(hc:CurF w 156 B base l s.at_ s.er)(hl:l.length<=1000000) :
  Calls Tryz.prog 211 #[.pointer (some ⟨B,0,none⟩)] w fun e w'=>e=.returned (.int .u64 ((s.num l).1:Int))/\CurF w' 156 B base l (s.num l).2.at_ (s.num l).2.er/\Chg (fun b=>b=B) w w':=by
 have hmf:∀ (fn:Fn) (first cap:Array Value) (w:World),(Instr.makeFunc fn first cap).run Tryz.prog w=.ok (.func fn first cap) w:=fun _ _ _ _=>rfl
 have hBw:B<w.heap.size:=by obtain⟨⟨v,h1,_⟩,_⟩:=hc;exact(Array.getElem?_eq_some_iff.1 h1).1
 have g0:(w.alloc (.cells #[.int .u64 0] 34)).heap[w.heap.size]? = some (.cells #[.int .u64 0] 34 (0,0)):=heap_new _ _ _ rfl
 have hf:Fr w (w.alloc (.cells #[.int .u64 0] 34)):=(Fr.refl w).alloc _
 have hdl:(l.drop s.at_).length<=1000000:=by rw [List.length_drop];omega
 have hle:s.at_<=l.length:=hc.le
 have HR := hid (read_any 236 [.pointer (some ⟨w.heap.size, 0, none⟩)] (.inl ⟨rfl, _, rfl⟩) (fun b => b = w.heap.size) (fun W => W.heap[w.heap.size]? = some (.cells #[.int .u64 ((numL (l.drop s.at_)).1 : Int)] 34 (0, 0))) B base s (numL (l.drop s.at_)) l _ (hc.fr hf)
  (hid fun W v hW hs => (num1_any w.heap.size _ v _ W (hW.heap g0) hs hdl)) (fun h => by have := numL_ok _ h; rw [List.length_drop] at this; omega)
  (by intro g hg; obtain rfl : g = w.heap.size := hg; exact ⟨by omega, _, _, _, g0, by decide⟩) hl)
 have HN:Hid (s.num l=(s.val (numL (l.drop s.at_)),s.step (numL (l.drop s.at_)))):=rfl
 have HV:Hid (s.val (numL (l.drop s.at_))=if s.er=0/\(numL (l.drop s.at_)).2.2=0 then(numL (l.drop s.at_)).1 else 0):=rfl
 rw [HN.out]
 clear g0 hc hdl hle HN
 generalize s.step (numL (l.drop s.at_))=s2 at *
 generalize s.val (numL (l.drop s.at_))=x2 at *
 generalize numL (l.drop s.at_)=q at *
 by_cases hk:s.er=0/\q.2.2=0
 · rw [decide_eq_true hk]at HR
   rw [if_pos hk]at HV
   have h0:=hid hk.1
   clear hk
   go_enter Tryz.func211, Tryz.ntmps211
   go_wp2_with fail
   refine(HR.out).mono ?_
   rintro e w3 ⟨rfl,_,w2,hQ,hg1,hg2,hC⟩
   have hx:=hg2.heap (hQ h0.out) (by omega)
   have c1:=cellx hx 0 rfl
   have hfin:Chg (fun b=>b=B) w w3:=((hf.chg _).trans (G':=fun b=>b=w.heap.size) hg1 fun i hi h=>by omega).trans hg2 fun i _ h=>h
   clear HR hg1 hg2 hQ hx
   go_wp2_with fail
   go_ret
   rw [HV.out]
   exact⟨rfl,hC,hfin⟩
 · rw [decide_eq_false hk]at HR
   rw [if_neg hk]at HV
   clear hk
   go_enter Tryz.func211, Tryz.ntmps211
   go_wp2_with fail
   refine(HR.out).mono ?_
   rintro e w3 ⟨rfl,_,w2,hQ,hg1,hg2,hC⟩
   have hfin:Chg (fun b=>b=B) w w3:=((hf.chg _).trans (G':=fun b=>b=w.heap.size) hg1 fun i hi h=>by omega).trans hg2 fun i _ h=>h
   clear HR hg1 hg2 hQ
   go_wp2_with fail
   go_ret
   rw [HV.out]
   exact⟨rfl,hC,hfin⟩
theorem Int_cur(most:Nat)(hm:most<9223372036854775808)(B base:Nat)(s:Cs)(l:List UInt8)(w:World)(hc:CurF w 156 B base l s.at_ s.er)(hl:l.length<=1000000) :
  Calls Tryz.prog 96 #[.pointer (some ⟨B,0,none⟩),N most] w fun e w'=>e=.returned (N (s.int l most).1)/\CurF w' 156 B base l (s.int l most).2.at_ (s.int l most).2.er/\Chg (fun b=>b=B) w w':=by
 have hmf:∀ (fn:Fn) (first cap:Array Value) (w:World),(Instr.makeFunc fn first cap).run Tryz.prog w=.ok (.func fn first cap) w:=fun _ _ _ _=>rfl
 have hBw:B<w.heap.size:=by obtain⟨⟨v,h1,_⟩,_⟩:=hc;exact(Array.getElem?_eq_some_iff.1 h1).1
 have g0:((w.alloc (.cells #[N most] 3)).alloc (.cells #[.int .i64 0] 3)).heap[w.heap.size]? = some (.cells #[N most] 3 (0,0)):=by
  rw [heap_old _ _ _ (by simp),heap_new _ _ _ rfl]
 have g1:((w.alloc (.cells #[N most] 3)).alloc (.cells #[.int .i64 0] 3)).heap[w.heap.size+1]? = some (.cells #[.int .i64 0] 3 (0,0)):=heap_new _ _ _ (by simp)
 have hf:Fr w ((w.alloc (.cells #[N most] 3)).alloc (.cells #[.int .i64 0] 3)):=((Fr.refl w).alloc _).alloc _
 have hdl:(l.drop s.at_).length<=1000000:=by rw [List.length_drop];omega
 have hle:s.at_<=l.length:=hc.le
 have HR := hid (read_any 137 [.pointer (some ⟨w.heap.size, 0, none⟩), .pointer (some ⟨w.heap.size + 1, 0, none⟩)] (.inr (.inl ⟨rfl, _, _, rfl⟩)) (fun b => b = w.heap.size + 1) (fun W => W.heap[w.heap.size + 1]? = some (.cells #[N (limL most (l.drop s.at_)).1] 3 (0, 0))) B base s (limL most (l.drop s.at_)) l _ (hc.fr hf)
  (hid fun W v hW hs => (int1_any most hm w.heap.size (w.heap.size + 1) _ v _ W (hW.heap g0) (hW.heap g1) hs hdl)) (fun h => by have := limL_ok _ _ h; rw [List.length_drop] at this; omega)
  (by intro g hg; obtain rfl : g = w.heap.size + 1 := hg; exact ⟨by omega, _, _, _, g1, by decide⟩) hl)
 have HN:Hid (s.int l most=(s.val (limL most (l.drop s.at_)),s.step (limL most (l.drop s.at_)))):=rfl
 have HV:Hid (s.val (limL most (l.drop s.at_))=if s.er=0/\(limL most (l.drop s.at_)).2.2=0 then(limL most (l.drop s.at_)).1 else 0):=rfl
 rw [HN.out]
 clear g0 g1 hc hdl hle HN
 generalize s.step (limL most (l.drop s.at_))=s2 at *
 generalize s.val (limL most (l.drop s.at_))=x2 at *
 generalize limL most (l.drop s.at_)=q at *
 by_cases hk:s.er=0/\q.2.2=0
 · rw [decide_eq_true hk]at HR
   rw [if_pos hk]at HV
   have h0:=hid hk.1
   clear hk
   go_enter Tryz.func96, Tryz.ntmps96
   go_wp2_with fail
   refine(HR.out).mono ?_
   rintro e w3 ⟨rfl,_,w2,hQ,hg1,hg2,hC⟩
   have hx:=hg2.heap (hQ h0.out) (by omega)
   have c1:=cellx hx 0 rfl
   have hfin:Chg (fun b=>b=B) w w3:=((hf.chg _).trans (G':=fun b=>b=w.heap.size+1) hg1 fun i hi h=>by omega).trans hg2 fun i _ h=>h
   clear HR hg1 hg2 hQ hx
   go_wp2_with fail
   go_ret
   rw [HV.out]
   exact⟨rfl,hC,hfin⟩
 · rw [decide_eq_false hk]at HR
   rw [if_neg hk]at HV
   clear hk
   go_enter Tryz.func96, Tryz.ntmps96
   go_wp2_with fail
   refine(HR.out).mono ?_
   rintro e w3 ⟨rfl,_,w2,hQ,hg1,hg2,hC⟩
   have hfin:Chg (fun b=>b=B) w w3:=((hf.chg _).trans (G':=fun b=>b=w.heap.size+1) hg1 fun i hi h=>by omega).trans hg2 fun i _ h=>h
   clear HR hg1 hg2 hQ
   go_wp2_with fail
   go_ret
   rw [HV.out]
   exact⟨rfl,hC,hfin⟩
theorem text1_any (most : Nat) (hm : most < 9223372036854775808) (Bm Bx : Nat) (v : Value) (l : List UInt8) (w : World) (hmo : w.heap[Bm]? = some (.cells #[N most] 3 (0, 0))) (hx : w.heap[Bx]? = some (.cells #[S []] 9 (0, 0))) (hs : See w eB v l) (hl : l.length ≤ 1000000) :
    Calls Tryz.prog 237 #[v,.pointer (some ⟨Bm,0,none⟩),.pointer (some ⟨Bx,0,none⟩)] w fun e w'=>e=.returned (.tuple #[N (txtL most l).2.1,.int .i64 ((txtL most l).2.2:Int)])/\w'.heap[Bx]? = some (.cells #[S (txtL most l).1] 9 (0,0))/\Chg (fun b=>b=Bx) w w':=by
  have HS:=hid (limited_any most hm v l w hs hl)
  have m0:=cellx hmo 0 rfl
  have c0:=cellx hx 0 rfl
  have z0:=frozen_of_heap hx 0
  have HD:Hid (txtL most l=if(limL most l).2.2=0 then(if l.length<(limL most l).2.1+(limL most l).1 then([],0,1)else((l.drop (limL most l).2.1).take (limL most l).1,(limL most l).2.1+(limL most l).1,0))else([],0,(limL most l).2.2)):=rfl
  have hok:=limL_ok most l
  obtain⟨a0,cap,rfl,_⟩:=hs.shape
  generalize txtL most l=T at *
  by_cases h0:(limL most l).2.2=0
  · have hq:=hok h0
    rw [if_pos h0]at HD
    have hw1:IntKind.i64.wrap ((l.length:Int) - ((limL most l).2.1:Int))=(l.length:Int) - ((limL most l).2.1:Int):=IntWalk.i64_in _ (by omega)
    by_cases h1:l.length<(limL most l).2.1+(limL most l).1
    · rw [if_pos h1]at HD
      have h2:(l.length:Int) - ((limL most l).2.1:Int)<((limL most l).1:Int):=by omega
      clear hs hok hq h1
      rw [h0]at HS
      clear h0
      generalize (limL most l).1=x at *
      generalize (limL most l).2.1=n at *
      go_enter Tryz.func237, Tryz.ntmps237
      go_wp2_with fail
      refine(HS.out).mono ?_
      rintro e w1 ⟨rfl,rfl⟩
      go_wp2_with fail
      go_ret2
      rw [HD.out]
      exact⟨rfl,hx,Chg.refl _ _⟩
    · rw [if_neg h1]at HD
      have h2:¬(l.length:Int) - ((limL most l).2.1:Int)<((limL most l).1:Int):=by omega
      have hqe:(l.take ((limL most l).2.1+(limL most l).1)).drop (limL most l).2.1=(l.drop (limL most l).2.1).take (limL most l).1:=by rw [List.drop_take,Nat.add_sub_cancel_left]
      obtain⟨f1,f2,hmid,hms⟩:=run_mid eB 27 Tryz.underlying27 hs (limL most l).2.1 ((limL most l).2.1+(limL most l).1) (by omega) (by omega)
      rw [hqe,Nat.add_sub_cancel_left]at *
      have hmid2:∀ W,(Instr.slice 27 (.slice a0 l.length cap) (some (.int .i64 ((limL most l).2.1:Int))) (some (.int .i64 (((limL most l).2.1:Int)+((limL most l).1:Int)))) none).run Tryz.prog W=.ok (.slice f1 (limL most l).1 f2) W:=hmid
      have hcv:=conv_at _ _ w hms
      have hw2:IntKind.i64.wrap (((limL most l).2.1:Int)+((limL most l).1:Int))=((limL most l).2.1:Int)+((limL most l).1:Int):=IntWalk.i64_in _ (by omega)
      have hst:=setCell_chg w ⟨Bx,0,none⟩ (S ((l.drop (limL most l).2.1).take (limL most l).1))
      have hx1:=heap_setCell_own hx 0 (S ((l.drop (limL most l).2.1).take (limL most l).1))
      clear hs hok hq h1 hms hmid hqe
      rw [h0]at HS
      clear h0
      generalize (l.drop (limL most l).2.1).take (limL most l).1=q at *
      generalize (limL most l).1=x at *
      generalize (limL most l).2.1=n at *
      go_enter Tryz.func237, Tryz.ntmps237
      go_wp2_with fail
      refine(HS.out).mono ?_
      rintro e w1 ⟨rfl,rfl⟩
      go_wp2_with fail
      go_ret2
      rw [HD.out]
      exact⟨by simp,hx1,hst⟩
  · rw [if_neg h0]at HD
    have h1:¬((limL most l).2.2:Int)=0:=by omega
    clear hs hok h0
    generalize (limL most l).2.2=er at *
    go_enter Tryz.func237, Tryz.ntmps237
    go_wp2_with fail
    refine(HS.out).mono ?_
    rintro e w1 ⟨rfl,rfl⟩
    go_wp2_with fail
    go_ret2
    rw [HD.out]
    exact⟨rfl,hx,Chg.refl _ _⟩
theorem Text_cur(most:Nat)(hm:most<9223372036854775808)(B base:Nat)(s:Cs)(l:List UInt8)(w:World)(hc:CurF w 156 B base l s.at_ s.er)(hl:l.length<=1000000) :
  Calls Tryz.prog 212 #[.pointer (some ⟨B,0,none⟩),N most] w fun e w'=>e=.returned (S (s.text l most).1)/\CurF w' 156 B base l (s.text l most).2.at_ (s.text l most).2.er/\Chg (fun b=>b=B) w w':=by
 have hmf:∀ (fn:Fn) (first cap:Array Value) (w:World),(Instr.makeFunc fn first cap).run Tryz.prog w=.ok (.func fn first cap) w:=fun _ _ _ _=>rfl
 have hBw:B<w.heap.size:=by obtain⟨⟨v,h1,_⟩,_⟩:=hc;exact(Array.getElem?_eq_some_iff.1 h1).1
 obtain⟨W0,hW0⟩:∃ W0,W0=(w.alloc (.cells #[N most] 3)).alloc (.cells #[S []] 9):=⟨_,rfl⟩
 have g0:W0.heap[w.heap.size]? = some (.cells #[N most] 3 (0,0)):=by
  rw [hW0,heap_old _ _ _ (by simp),heap_new _ _ _ rfl]
 have g1:W0.heap[w.heap.size+1]? = some (.cells #[S []] 9 (0,0)):=by rw [hW0];exact heap_new _ _ _ (by simp)
 have hf:Fr w W0:=by rw [hW0];exact((Fr.refl w).alloc _).alloc _
 have hdl:(l.drop s.at_).length<=1000000:=by rw [List.length_drop];omega
 have hle:s.at_<=l.length:=hc.le
 have HR := hid (read_any 237 [.pointer (some ⟨w.heap.size, 0, none⟩), .pointer (some ⟨w.heap.size + 1, 0, none⟩)] (.inr (.inr (.inr ⟨rfl, _, _, rfl⟩))) (fun b => b = w.heap.size + 1) (fun W => W.heap[w.heap.size + 1]? = some (.cells #[S (txtL most (l.drop s.at_)).1] 9 (0, 0))) B base s (0, (txtL most (l.drop s.at_)).2) l W0 (hc.fr hf)
  (hid fun W v hW hs => (text1_any most hm w.heap.size (w.heap.size + 1) v _ W (hW.heap g0) (hW.heap g1) hs hdl)) (fun h => by have := (txtL_ok _ _ h).2.1; rw [List.length_drop] at this; show s.at_ + (txtL most (l.drop s.at_)).2.1 ≤ _; omega)
  (by intro g hg; obtain rfl : g = w.heap.size + 1 := hg; exact ⟨by omega, _, _, _, g1, by decide⟩) hl)
 have HN:Hid (s.text l most=(if s.er=0 then(txtL most (l.drop s.at_)).1 else [],s.step (0,(txtL most (l.drop s.at_)).2))):=rfl
 rw [HN.out]
 clear g0 hc hdl hle HN
 generalize s.step (0,(txtL most (l.drop s.at_)).2)=s2 at *
 generalize decide (s.er=0/\(0,(txtL most (l.drop s.at_)).2).2.2=0)=ok at *
 generalize (txtL most (l.drop s.at_)).1=q at *
 have HG:=hid g1
 obtain⟨q2,hq2⟩:∃ q2,q2=(if s.er=0 then q else []):=⟨_,rfl⟩
 rw [<- hq2]
 have HQ2:=hid hq2
 clear hq2
 clear g1
 go_enter Tryz.func212, Tryz.ntmps212
 go_wp2_with fail
 rw [<- hW0]
 refine(HR.out).mono ?_
 rintro e w3 ⟨rfl,hno,w2,hQ,hg1,hg2,hC⟩
 have hfin:Chg (fun b=>b=B) w w3:=((hf.chg _).trans (G':=fun b=>b=w.heap.size+1) hg1 fun i hi h=>by omega).trans hg2 fun i _ h=>h
 have hx:w3.heap[w.heap.size+1]? = some (.cells #[S q2] 9 (0,0)):=by
  rw [HQ2.out]
  by_cases h:s.er=0
  · rw [if_pos h];exact hg2.heap (hQ h) (by omega)
  · rw [if_neg h,<- hno h];exact HG.out
 have c1:=cellx hx 0 rfl
 clear HR hg1 hg2 hQ hx hno HG hW0
 go_wp2_with fail
 go_ret
 exact⟨rfl,hC,hfin⟩
theorem Take_no(B base k:Nat)(s:Cs)(l:List UInt8)(w:World)(hc:CurF w 156 B base l s.at_ s.er)(hk:¬s.er=0\/l.length<s.at_+k)(hl:l.length<=1000000) :
  Calls Tryz.prog 139 #[.pointer (some ⟨B,0,none⟩),N k] w fun e w'=>e=.returned (.slice none 0 0)/\CurF w' 156 B base l (s.step (0,0,1)).at_ (s.step (0,0,1)).er/\Chg (fun b=>b=B) w w':=by
 have hmf:∀ (fn:Fn) (first cap:Array Value) (w:World),(Instr.makeFunc fn first cap).run Tryz.prog w=.ok (.func fn first cap) w:=fun _ _ _ _=>rfl
 have hBw:B<w.heap.size:=by obtain⟨⟨v,h1,_⟩,_⟩:=hc;exact(Array.getElem?_eq_some_iff.1 h1).1
 obtain⟨W0,hW0⟩:∃ W0,W0=(w.alloc (.cells #[N k] 3)).alloc (.cells #[.slice none 0 0] 27):=⟨_,rfl⟩
 have g0:W0.heap[w.heap.size]? = some (.cells #[N k] 3 (0,0)):=by
  rw [hW0,heap_old _ _ _ (by simp),heap_new _ _ _ rfl]
 have g1:W0.heap[w.heap.size+1]? = some (.cells #[.slice none 0 0] 27 (0,0)):=by rw [hW0];exact heap_new _ _ _ (by simp)
 have hf:Fr w W0:=by rw [hW0];exact((Fr.refl w).alloc _).alloc _
 have hdl:(l.drop s.at_).length=l.length - s.at_:=by rw [List.length_drop]
 have HX:Hid (∃ R:Ending->World->Prop,Calls Tryz.prog 136 #[.pointer (some ⟨B,0,none⟩),.func (.func 175) #[] #[.pointer (some ⟨w.heap.size,0,none⟩),.pointer (some ⟨w.heap.size+1,0,none⟩)]] W0 R/\∀ e w',R e w'->(∃ b,e=.returned (.bool b))/\Chg (fun b=>b=B) W0 w'/\CurF w' 156 B base l (s.step (0,0,1)).at_ (s.step (0,0,1)).er):=by
  by_cases h0:s.er=0
  · have HT:Hid (∀ W v,Fr W0 W->See W eB v (l.drop s.at_)->Calls Tryz.prog 175 (v::[.pointer (some ⟨w.heap.size,0,none⟩),.pointer (some ⟨w.heap.size+1,0,none⟩)]).toArray W fun e w'=>e=.returned (.tuple #[N (0:Nat),.int .i64 ((1:Nat):Int)])/\True/\Chg (fun _=>False) W w'):=fun W v hW hs=>(take1_no w.heap.size (w.heap.size+1) k v _ W (hW.heap g0) hs (by rw [hdl];have:=hc.le;omega)).mono (by rintro e w' ⟨rfl,rfl⟩;exact⟨rfl,trivial,Chg.refl _ _⟩)
    refine⟨_,read_any 175 [.pointer (some ⟨w.heap.size,0,none⟩),.pointer (some ⟨w.heap.size+1,0,none⟩)] (.inr (.inr (.inl ⟨rfl,_,_,rfl⟩))) (fun _=>False) (fun _=>True) B base s (0,0,1) l W0 (hc.fr hf) HT (fun h=>by cases h) (fun g h=>h.elim) hl,?_⟩
    rintro e w' ⟨rfl,_,w3,_,h1,h2,h3⟩
    exact⟨⟨_,rfl⟩,(h1.mono fun _ _ h=>h.elim).trans h2 fun _ _ h=>h,h3⟩
  · refine⟨_,read_no _ B base s.at_ s.er l W0 (hc.fr hf) h0,?_⟩
    rintro e w' ⟨rfl,rfl⟩
    refine⟨⟨_,rfl⟩,Chg.refl _ _,?_⟩
    unfold Cs.step
    rw [if_neg h0];exact hc.fr hf
 obtain⟨R,HR0,HR1⟩:=HX.out
 have HR:=hid HR0
 have HQ:=hid HR1
 have HG:=hid g1
 clear HX HR0 HR1 g0 g1 hdl hk
 generalize s.step (0,0,1)=s2 at *
 go_enter Tryz.func139, Tryz.ntmps139
 go_wp2_with fail
 rw [<- hW0]
 refine(HR.out).mono ?_
 intro e w3 hr
 obtain⟨⟨b,rfl⟩,hg,hC⟩:=HQ.out e w3 hr
 have hx:=hg.heap HG.out (by omega)
 have c1:=cellx hx 0 rfl
 have hfin:Chg (fun b=>b=B) w w3:=(hf.chg _).trans hg fun _ _ h=>h
 clear HR HQ HG hr hx hg hW0
 go_wp2_with fail
 go_ret
 exact⟨rfl,hC,hfin⟩
theorem Take_cur(B base k:Nat)(s:Cs)(l:List UInt8)(w:World)(hc:CurF w 156 B base l s.at_ s.er)(hl:l.length<=1000000)(hb:base<=w.heap.size) :
  Calls Tryz.prog 139 #[.pointer (some ⟨B,0,none⟩),N k] w fun e w'=>∃ u,e=.returned u/\Ow w' w.heap.size eB u (s.take l k).1/\CurF w' 156 B base l (s.take l k).2.at_ (s.take l k).2.er/\Chg (fun b=>b=B) w w':=by
 by_cases h0:s.er=0
 · by_cases h1:l.length<s.at_+k
   · refine(Take_no B base k s l w hc (.inr h1) hl).mono ?_
     rintro e w' ⟨rfl,hC,hg⟩
     have h2:s.take l k=([],⟨s.at_,1⟩):=by unfold Cs.take;rw [if_pos h0,if_pos h1]
     have h3:s.step (0,0,1)=⟨s.at_,1⟩:=by unfold Cs.step;rw [if_pos h0,if_neg (by decide)]
     rw [h2];rw [h3]at hC
     exact⟨_,rfl,Ow.nil,hC,hg⟩
   · rw [h0]at hc
     refine(Take_yes B base s.at_ k l w hc (by omega) hl hb).mono ?_
     rintro e w' ⟨u,rfl,hO,hC,hg⟩
     have h2:s.take l k=((l.drop s.at_).take k,⟨s.at_+k,0⟩):=by unfold Cs.take;rw [if_pos h0,if_neg h1]
     rw [h2]
     exact⟨u,rfl,hO,hC,hg⟩
 · refine(Take_no B base k s l w hc (.inl h0) hl).mono ?_
   rintro e w' ⟨rfl,hC,hg⟩
   have h2:s.take l k=([],s):=by unfold Cs.take;rw [if_neg h0]
   have h3:s.step (0,0,1)=s:=by unfold Cs.step;rw [if_neg h0]
   rw [h2];rw [h3]at hC
   exact⟨_,rfl,Ow.nil,hC,hg⟩
theorem take1_len(s:Cs)(l:List UInt8):(s.take l 1).1=[]\/∃ x,(s.take l 1).1=[x]:=by
 unfold Cs.take
 split
 · split
   · exact .inl rfl
   · show(l.drop s.at_).take 1=[]\/∃ x,(l.drop s.at_).take 1=[x]
     cases l.drop s.at_ with
     | nil=>exact .inl rfl
     | cons x t=>exact .inr ⟨x,rfl⟩
 · exact .inl rfl
theorem Byte_cur (B base : Nat) (s : Cs) (l : List UInt8) (w : World) (hc : CurF w 156 B base l s.at_ s.er) (hl : l.length ≤ 1000000) (hb : base ≤ w.heap.size) :
    Calls Tryz.prog 97 #[.pointer (some ⟨B,0,none⟩)] w fun e w'=>e=.returned (.int .u8 ((s.byte l).1:Int))/\CurF w' 156 B base l (s.byte l).2.at_ (s.byte l).2.er/\Chg (fun b=>b=B) w w':=by
  have HT:=hid (Take_cur B base 1 s l w hc hl hb)
  have HB:Hid (s.byte l=((((s.take l 1).1).getD 0 0).toNat,(s.take l 1).2)):=rfl
  rw [HB.out]
  have h1:=take1_len s l
  clear hc HB
  generalize (s.take l 1).1=q at *
  generalize (s.take l 1).2=s2 at *
  rcases h1 with rfl | ⟨x,rfl⟩
  · go_enter Tryz.func97, Tryz.ntmps97
    go_wp2_with fail
    refine(HT.out).mono ?_
    rintro e w1 ⟨u,rfl,hO,hC,hch⟩
    obtain⟨p,z,rfl⟩:=hO.shape'
    clear HT hO
    go_wp2_with fail
    go_ret
    exact⟨rfl,hC,hch⟩
  · go_enter Tryz.func97, Tryz.ntmps97
    go_wp2_with fail
    refine(HT.out).mono ?_
    rintro e w1 ⟨u,rfl,hO,hC,hch⟩
    obtain⟨b,off,cp,rfl,c0⟩:=hO.see.cell1 Fk.u8 rfl 0 (by simp)
    have d0:w1.cell? ⟨b,off,none⟩=some (.int .u8 (x.toNat:Int)):=c0
    clear hO c0 HT
    go_wp2_with fail
    go_ret
    exact⟨rfl,hC,hch⟩
theorem Left_cur(B base n er:Nat)(l:List UInt8)(w:World)(hc:CurF w 156 B base l n er) :
  Calls Tryz.prog 101 #[.pointer (some ⟨B,0,none⟩)] w fun e w'=>e=.returned (N (l.length - n))/\Fr w w':=by
 have HR:=hid (rest_any B base n er l w hc)
 clear hc
 generalize l.length - n=m at *
 go_enter Tryz.func101, Tryz.ntmps101
 go_wp2_with fail
 refine(HR.out).mono ?_
 rintro e w1 ⟨a,cp,rfl,_,hf⟩
 clear HR
 go_wp2_with fail
 go_ret
 exact⟨rfl,hf⟩
theorem At_cur(B base n er:Nat)(l:List UInt8)(w:World)(hc:CurF w 156 B base l n er) :
  Calls Tryz.prog 141 #[.pointer (some ⟨B,0,none⟩)] w fun e w'=>e=.returned (N n)/\w=w':=by
 obtain⟨⟨v,h1,ho⟩,hle⟩:=hc
 have c1:=cellx h1 1 rfl
 clear h1 ho
 go_enter Tryz.func141, Tryz.ntmps141
 go_wp2_with fail
 go_ret
 exact⟨rfl,rfl⟩
theorem Fail_cur(er:Nat)(B base:Nat)(s:Cs)(l:List UInt8)(w:World)(hc:CurF w 156 B base l s.at_ s.er) :
  Calls Tryz.prog 98 #[.pointer (some ⟨B,0,none⟩),.int .i64 (er:Int)] w fun e w'=>e=.returned (.tuple #[])/\CurF w' 156 B base l (s.fail er).at_ (s.fail er).er/\Chg (fun b=>b=B) w w':=by
 obtain⟨⟨v,h1,hO⟩,hle⟩:=hc
 have c2:=cellx h1 2 rfl
 by_cases h0:s.er=0
 · have HF:Hid (s.fail er=⟨s.at_,er⟩):=by show _=_;unfold Cs.fail;rw [if_pos h0]
   rw [h0]at c2
   have z1:=frozen_of_heap h1 2
   have hvB:=hO.ne_cells h1 (by decide)
   have hst:=setCell_chg w ⟨B,2,none⟩ (.int .i64 (er:Int))
   have h14:=heap_setCell_own h1 2 (.int .i64 (er:Int))
   have hOv4:=hO.chg hst (fun i hi e=>hvB (by rw [hi,show i=B from e]))
   clear hO h0
   go_enter Tryz.func98, Tryz.ntmps98
   go_wp2_with fail
   go_end0
   rw [HF.out]
   exact⟨rfl,⟨⟨v,h14,hOv4⟩,hle⟩,hst⟩
 · have HF:Hid (s.fail er=s):=by show _=_;unfold Cs.fail;rw [if_neg h0]
   have h2:¬(s.er:Int)=0:=by omega
   have HC:=hid (CurF.mk ⟨v,h1,hO⟩ hle)
   clear h1 hO h0
   go_enter Tryz.func98, Tryz.ntmps98
   go_wp2_with fail
   go_end0
   rw [HF.out]
   exact⟨rfl,HC.out,Chg.refl _ _⟩
theorem mark_short(l:List UInt8)(h:l.length<=4):markV l=(0,1):=by unfold markV;rw [if_pos h]
theorem mark_magic(l:List UInt8)(h:¬l.length<=4)(h2:¬l.take 4=[70,73,82,75]):markV l=(0,3):=by unfold markV;rw [if_neg h,if_neg h2]
theorem mark_yes(l:List UInt8)(h:¬l.length<=4)(h2:l.take 4=[70,73,82,75])(h3:1<=(l.getD 4 0).toNat/\(l.getD 4 0).toNat<=3):markV l=((l.getD 4 0).toNat,0):=by unfold markV;rw [if_neg h,if_pos h2,if_pos h3]
theorem mark_no(l:List UInt8)(h:¬l.length<=4)(h2:l.take 4=[70,73,82,75])(h3:¬(1<=(l.getD 4 0).toNat/\(l.getD 4 0).toNat<=3)):markV l=(0,4):=by unfold markV;rw [if_neg h,if_pos h2,if_neg h3]
theorem OMarked_any(v:Value)(l:List UInt8)(w:World)(hs:See w eB v l) :
  Calls Tryz.prog 19 #[v] w fun e w'=>e=.returned (.tuple #[N (markV l).1,.int .i64 ((markV l).2:Int)])/\Fr w w':=by
 obtain⟨a0,cap,rfl,hc1,hc2,_⟩:=hs.shape
 unfold maxLen at hc2
 by_cases h4:l.length<=4
 · have h4':(l.length:Int)<=4:=by omega
   have HE:=hid (mark_short l h4)
   rw [HE.out]
   go_enter Tryz.func19, Tryz.ntmps19
   go_wp2_with fail
   go_ret2
   exact⟨rfl,Fr.refl w⟩
 · have h4':¬(l.length:Int)<=4:=by omega
   obtain⟨htr,hts⟩:=run_to eB 27 Tryz.underlying27 hs 4 (by omega)
   have hconv:=fun W (h:Fr w W)=>conv_at _ (l.take 4) W (hts.fr h)
   have HCv:=hid hconv
   have hcw:=hconv w (Fr.refl w)
   clear hconv
   have i1:(4:Int)<l.length:=by omega
   by_cases hm:l.take 4=[70,73,82,75]
   · rw [hm]at hcw
     obtain⟨b,off,cp,hv9,e9⟩:=hs.cell1 Fk.u8 rfl 4 (by omega)
     simp only [Value.slice.injEq]at hv9
     obtain⟨rfl,hk,rfl⟩:=hv9
     clear hk
     rw [<- getD_at l 4 0 (by omega)]at e9
     have e10:w.cell? ⟨b,off+4,none⟩=some (.int .u8 ((l.getD 4 0).toNat:Int)):=e9
     have HMy:=hid (mark_yes l h4 hm)
     have HMn:=hid (mark_no l h4 hm)
     have HW:=hid (fun x=>ow_any x 1 3)
     have hxl:=(l.getD 4 0).toNat_lt
     generalize (l.getD 4 0).toNat=x at *
     generalize markV l=mv at *
     have hw1:IntKind.i64.wrap (x:Int)=(x:Int):=wrap_i64 _ (by omega)
     clear e9 hts hm
     go_enter Tryz.func19, Tryz.ntmps19
     go_wp2_with fail
     refine((HW.out _) _).mono ?_
     rintro e w1 ⟨rfl,rfl⟩
     by_cases hx:1<=x/\x<=3
     · have HE:=hid (HMy.out hx)
       have hdx:decide ((1:Int)<=(x:Int)/\(x:Int)<=3)=true:=decide_eq_true (by omega)
       rw [hdx]
       go_wp2_with fail
       go_ret2
       exact⟨by rw [HE.out];rfl,Fr.refl w⟩
     · have HE:=hid (HMn.out hx)
       have hdx:decide ((1:Int)<=(x:Int)/\(x:Int)<=3)=false:=decide_eq_false (by omega)
       rw [hdx]
       go_wp2_with fail
       go_ret2
       exact⟨by rw [HE.out];rfl,Fr.refl w⟩
   · have HE:=hid (mark_magic l h4 hm)
     rw [HE.out]
     have hne2:¬(⟨(l.take 4).toArray⟩:ByteArray)=⟨#[70,73,82,75]⟩:=by
      intro e
      have:=congrArg (fun b:ByteArray=>b.data.toList) e
      exact hm (by simpa using this)
     have hb1:(l.take 4 == [70,73,82,75])=false:=by simpa using hm
     have hb5:¬(l.take 4).toArray=#[70,73,82,75]:=fun e=>hm (by simpa using congrArg Array.toList e)
     go_enter Tryz.func19, Tryz.ntmps19
     go_wp2_with fail
     go_ret2
     exact⟨rfl,Fr.refl w⟩
end Go.Proofs.YtdagmoonnbnceaaGreatDoor
