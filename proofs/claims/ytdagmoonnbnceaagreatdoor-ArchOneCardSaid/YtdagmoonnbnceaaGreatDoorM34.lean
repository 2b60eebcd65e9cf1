/- Parts of the proof of ArchOne: Wd2 Wd3 Wd4 We1 We2. -/
import Derived.Test.YtdagmoonnbnceaaGreatDoorM01
import Derived.Test.YtdagmoonnbnceaaGreatDoorM33
import Derived.Test.YtdagmoonnbnceaaGreatDoorM16
import Derived.Test.YtdagmoonnbnceaaGreatDoorM13
import Derived.Test.YtdagmoonnbnceaaGreatDoorM31
set_option linter.unusedVariables false
set_option linter.unusedSectionVars false
set_option linter.unusedSimpArgs false
set_option maxHeartbeats 8000000
set_option maxRecDepth 100000
namespace Go.Proofs.YtdagmoonnbnceaaGreatDoor
open Go.RowKit Go.Fk
def atW(l:List UInt8):List UInt8:=64::l
theorem terms1_any(Bo:Nat)(pre ws:List (List UInt8))(F:Nat->Prop)(x:List UInt8)(w:World)(h:OutI Bo pre asIs ws F w)(hp:pre.length<=1)(hlen:ws.length<=2000000000) :
  Calls Tryz.prog 124 #[S x,.pointer (some ⟨Bo,0,none⟩)] w fun e w'=>e=.returned (.tuple #[]) /\
   ∃ F',OutI Bo pre asIs (ws++[x]) F' w'/\Chg F w w'/\(∀ b,F' b->F b\/w.heap.size<=b):=by
 obtain⟨ov,h1,h2,h3⟩:=h
 have c0:=cellx h1 0 rfl
 have hsz:Bo<w.heap.size:=(Array.getElem?_eq_some_iff.1 h1).1
 have H1:=hid h1
 clear h1
 go_enter Tryz.func124, Tryz.ntmps124
 go_wp2_with (at_builtin;refine wpList_app1 eS rfl (.tmp 3) (.tmp 5) 92 rfl Tryz.underlying92 (Bo+1) rfl h2 [asIs x] _ _ _ rfl rfl rfl ?c1 ?c2 ?_)
 case c1=>simp;omega
 case c2=>omega
 intro v' w1 ha
 have hne:=h2.ne_cells H1.out (by decide)
 have HH:=hid (ha.chg'.heap H1.out hne)
 have d1:w1.cell? ⟨Bo,0,none⟩=some ov:=by rw [cell_of_heap HH.out];rfl
 have e1:w1.frozen? ⟨Bo,0,none⟩=false:=frozen_of_heap HH.out 0
 obtain⟨a,n',cap,rfl⟩:=ha.own.shape
 go_wp2_with fail
 go_end0
 obtain⟨F',r1,r2,r3⟩:=OutI.put (g:=asIs) (x:=x) H1.out h2 (by rw [List.append_assoc];exact ha)
 refine⟨rfl,F',r1,r2.mono (fun b _ hb=>(h3 b).2 hb),fun b hb=>(r3 b hb).imp (fun h=>(h3 b).2 h) id⟩
theorem terms1_sink(Bo:Nat):Sink 124 #[.pointer (some ⟨Bo,0,none⟩)] (OutI Bo [] asIs):=
 ⟨fun h hc hn=>h.loc hc hn,fun h=>h.bd,fun x h _ hl=>terms1_any Bo [] _ _ x _ h (by simp) hl⟩
theorem terms2_any(Bo:Nat)(pre ws:List (List UInt8))(F:Nat->Prop)(x:List UInt8)(w:World)(h:OutI Bo pre atW ws F w)(hp:pre.length<=1000000)(hlen:ws.length<=2000000000)(hx:x.length<=24) :
  Calls Tryz.prog 125 #[S x,.pointer (some ⟨Bo,0,none⟩)] w fun e w'=>e=.returned (.tuple #[]) /\
   ∃ F',OutI Bo pre atW (ws++[x]) F' w'/\Chg F w w'/\(∀ b,F' b->F b\/w.heap.size<=b):=by
 obtain⟨ov,h1,h2,h3⟩:=h
 have c0:=cellx h1 0 rfl
 have hsz:Bo<w.heap.size:=(Array.getElem?_eq_some_iff.1 h1).1
 have H1:=hid h1
 have hax:(⟨#[64]⟩:ByteArray)++(⟨x.toArray⟩:ByteArray)=⟨(64::x).toArray⟩:=by
  exact ByteArray.ext (by simp [ByteArray.data_append])
 clear h1
 have hb1:¬(9223372036854775807:Int)<1+x.length:=by omega
 go_enter Tryz.func125, Tryz.ntmps125
 go_wp2_with (at_builtin;refine wpList_app1 eS rfl (.tmp 3) (.tmp 6) 92 rfl Tryz.underlying92 (Bo+1) rfl h2 [atW x] _ _ _ ?c0 rfl rfl ?c1 ?c2 ?_)
 case c0=>first | rfl | (simp [hax,atW];rfl)
 case c1=>omega
 case c2=>omega
 intro v' w1 ha
 have hne:=h2.ne_cells H1.out (by decide)
 have HH:=hid (ha.chg'.heap H1.out hne)
 have d1:w1.cell? ⟨Bo,0,none⟩=some ov:=by rw [cell_of_heap HH.out];rfl
 have e1:w1.frozen? ⟨Bo,0,none⟩=false:=frozen_of_heap HH.out 0
 obtain⟨a,n',cap,rfl⟩:=ha.own.shape
 go_wp2_with fail
 go_end0
 obtain⟨F',r1,r2,r3⟩:=OutI.put (g:=atW) (x:=x) H1.out h2 (by rw [List.append_assoc];exact ha)
 refine⟨rfl,F',r1,r2.mono (fun b _ hb=>(h3 b).2 hb),fun b hb=>(r3 b hb).imp (fun h=>(h3 b).2 h) id⟩
theorem terms2_sink(Bo:Nat)(pre:List (List UInt8))(hp:pre.length<=1000000):Sink 125 #[.pointer (some ⟨Bo,0,none⟩)] (OutI Bo pre atW):=
 ⟨fun h hc hn=>h.loc hc hn,fun h=>h.bd,fun x h hx hl=>terms2_any Bo pre _ _ x _ h hp hl hx⟩
theorem terms_sorted(a b:List UInt8):compS ((wordsOf a++(wordsOf b).map atW).mergeSort fun x y=>decide (x<=y))=termsL a b:=by
 refine comp_puts _ _ ?_ (List.mergeSort_perm _ _)
 have h:=List.pairwise_mergeSort (le:=fun(x y:List UInt8)=>decide (x<=y)) (fun a b c h1 h2=>by simp only [decide_eq_true_eq]at *;exact List.le_trans h1 h2) (fun a b=>by simp only [Bool.or_eq_true,decide_eq_true_eq];exact List.le_total a b) (wordsOf a++(wordsOf b).map atW)
 exact h.imp (fun h=>by simpa using h)
theorem Terms_any(r:Rec)(w:World)(h1:r.text.length<=1000000)(h2:r.source.length<=1000000) :
  Calls Tryz.prog 83 #[recV r] w fun e w'=>∃ v,e=.returned v/\Ow w' w.heap.size eS v (termsL r.text r.source)/\Fr w w':=by
 have hmf:∀ (fn:Fn) (first cap:Array Value) (w:World),(Instr.makeFunc fn first cap).run Tryz.prog w=.ok (.func fn first cap) w:=fun _ _ _ _=>rfl
 have HTs:=hid (terms_sorted r.text r.source)
 have hwt:=wordsOf_len r.text
 have hws:=wordsOf_len r.source
 generalize termsL r.text r.source=T at *
 go_enter Tryz.func83, Tryz.ntmps83
 go_wp2_with fail
 have hb0:(w.alloc (.cells #[.int .u64 r.time.toNat,Fk.u8 r.level,S r.source,S r.text] 36)).heap.size=w.heap.size+1:=size_alloc _ _
 have hf0:Fr w ((w.alloc (.cells #[.int .u64 r.time.toNat,Fk.u8 r.level,S r.source,S r.text] 36)).alloc (.cells #[.slice none 0 0] 92)):=((Fr.refl w).alloc _).alloc _
 have hr0:((w.alloc (.cells #[.int .u64 r.time.toNat,Fk.u8 r.level,S r.source,S r.text] 36)).alloc (.cells #[.slice none 0 0] 92)).heap[w.heap.size]? = some (.cells #[.int .u64 r.time.toNat,Fk.u8 r.level,S r.source,S r.text] 36 (0,0)):=by
  rw [heap_old _ _ _ (by rw [hb0];omega)];exact heap_new _ _ _ rfl
 have ho0:((w.alloc (.cells #[.int .u64 r.time.toNat,Fk.u8 r.level,S r.source,S r.text] 36)).alloc (.cells #[.slice none 0 0] 92)).heap[w.heap.size+1]? = some (.cells #[.slice none 0 0] 92 (0,0)):=heap_new _ _ _ hb0.symm
 refine(split_any (terms1_sink (w.heap.size+1)) (enters Tryz.func124 (by kernel_rfl) rfl) r.text [] (fun b=>b=w.heap.size+1) _ ?h (by simp;omega)).mono ?_
 case h=>exact⟨_,ho0,Ow.nil,fun b=>by simp [Value.ownBlock]⟩
 rintro e w1 ⟨rfl,F1,⟨ov,h1o,h2o,h3o⟩,hc1,hF1⟩
 have hr1:=hc1.heap hr0 (by omega)
 have hf1:Fr w w1:=Chg.below hf0 hc1 hf0.size (fun i e=>by omega)
 have k2:=cellx hr1 2 rfl
 have e1:([]:List (List UInt8))++(([]:List (List UInt8))++wordsOf r.text).map asIs=wordsOf r.text:=List.map_id _
 rw [e1]at h2o
 clear e1 hr0 ho0 hf0 hb0 hc1
 go_wp2_with fail
 refine(split_any (terms2_sink (w.heap.size+1) (wordsOf r.text) (by omega)) (enters Tryz.func125 (by kernel_rfl) rfl) r.source [] (fun b=>b=w.heap.size+1\/ov.ownBlock=some b) _ ?h (by simp;omega)).mono ?_
 case h=>exact⟨ov,h1o,by simpa using h2o,fun b=>Iff.rfl⟩
 rintro e w2 ⟨rfl,F2,⟨ov2,h1p,h2p,h3p⟩,hc2,hF2⟩
 have hf2 : Fr w w2 := Chg.below hf1 hc2 hf1.size (fun i e => by
  rcases e with e | e
  · omega
  · have := (h2o.lt i e).1; omega)
 have e1:([]:List (List UInt8))++wordsOf r.source=wordsOf r.source:=rfl
 rw [e1]at h2p
 obtain⟨L,hL⟩:∃ L,L=wordsOf r.text++(wordsOf r.source).map atW:=⟨_,rfl⟩
 have hLl:L.length<=2000000:=by rw [hL];simp;omega
 rw [<- hL]at h2p HTs
 have hvx:=cellx h1p 0 rfl
 have hH:=hid h1p
 have HSo:=hid (SSort_any ov2 L _ w2 h2p (by omega))
 have hne:=h2p.ne_cells h1p (by decide)
 have hlt:=h2p.lt
 clear e1 hL h1p h2o h1o hc2 k2 hr1 hf1 h2p
 go_wp2_with fail
 refine HSo.out.mono ?_
 rintro e w3 ⟨rfl,hS3,hg3⟩
 have hH3:=(grown_chg hg3).heap hH.out hne
 have hvx3:=cellx hH3 0 rfl
 have hf3:Fr w w3:=hf2.own hg3 (fun k e=>by have:=(hlt k e).1;omega)
 have HCo:=hid (SCompact_any ov2 _ _ w3 hS3 (by rw [List.length_mergeSort];omega))
 rw [HTs.out]at HCo
 clear hS3 HSo
 go_wp2_with fail
 refine HCo.out.mono ?_
 rintro e w4 ⟨v4,rfl,hO4,hg4⟩
 go_wp2_with fail
 go_ret
 exact⟨_,rfl,hO4.rebase (by omega),hf3.own hg4 (fun k e=>by have:=(hlt k e).1;omega)⟩
def prevL(s:List UInt8)(i:Nat):Bool:=decide (0<i) && (match s[i - 1]? with | some c=>isL c | none=>false)
theorem strAt{w:World}{v:Value}{l:List (List UInt8)}(h:See w eS v l)(k:Nat)(hk:k<l.length):∃ b off cap,v=.slice (some ⟨b,off,none⟩) l.length cap/\w.cell? ⟨b,off+k,none⟩=some (S l[k]):=h.cell1 S rfl k hk
def txtOk(l:List (List UInt8)):Prop:=RisS l/\(∀ s∈l,1<=s.length/\s.length<=25)/\l.length<=1000000
theorem less_false{a b:List UInt8}(h:¬a<b):Op.bytesLess a b=false:=by rw [Go.Proofs.bytesLess_eq];exact decide_eq_false h
theorem dmay_any(was s:List UInt8)(w:World)(h1:1<=s.length)(h2:s.length<=25)(h3:was<s) :
  Calls Tryz.prog 163 #[S was,S s] w fun e w'=>e=.returned (.bool true)/\w=w':=by
 have hl1:=less_false (fun h=>List.lt_irrefl _ (List.lt_trans h h3):¬s<was)
 have he:(s == was)=false:=by
  rw [beq_eq_false_iff_ne];rintro rfl;exact List.lt_irrefl _ h3
 have hne:s.isEmpty=false:=by cases s <;> simp_all
 have hne2:(s == [])=false:=by cases s <;> simp_all
 have hne3:(s != [])=true:=by cases s <;> simp_all
 have i1:(s.length:Int)<=25:=by omega
 clear h3
 go_enter Tryz.func163, Tryz.ntmps163
 go_wp2_with fail
 go_ret
 exact⟨by first | rfl | simp,rfl⟩
theorem drises_any(v:Value)(l:List (List UInt8))(w:World)(hs:See w eS v l)(hk:txtOk l) :
  Calls Tryz.prog 115 #[v] w fun e w'=>e=.returned (.bool true)/\w=w':=by
 obtain⟨hr,h25,hn⟩:=hk
 have HS:=hid (fun k hk=>strAt hs k hk)
 have HB:=hid h25
 have HM:=hid (fun a s W h1 h2 h3=>dmay_any a s W h1 h2 h3)
 have HR:Hid (∀ k (h:k+1<l.length),l[k]<l[k+1]):=fun k h=>List.pairwise_iff_getElem.1 hr k (k+1) (by omega) h (by omega)
 obtain⟨a0,cap,rfl,hcap1,hcap2,hnone⟩:=hs.shape
 clear hr h25
 go_enter Tryz.func115, Tryz.ntmps115
 go_wp2_with fail
 go_loopw [3,8] (fun sv iv wr=>∃ (k:Nat) (was:List UInt8),k<=l.length/\iv=N k/\sv=S was/\Hid ((k=0/\was=[])\/∃ j,∃ h:j<l.length,k=j+1/\was=l[j])/\w=wr) (fun _ iv _=>l.length - (intOf iv).toNat)
 case atStart=>exact⟨0,[],Nat.zero_le _,rfl,rfl,.inl ⟨rfl,rfl⟩,rfl⟩
 case round=>
  obtain⟨k,was,hk,rfl,rfl,HW,rfl⟩:=hrel
  by_cases hlt:k<l.length
  · obtain⟨b,off,cap',hv,c0⟩:=HS.out k hlt
    cases hv
    have hbk:=HB.out _ (List.getElem_mem hlt)
    have hwl:was<l[k]:=by
     rcases HW.out with⟨h1,h2⟩ | ⟨j,hj,h1,h2⟩
     · subst h2
       cases hx:l[k]with
       | nil=>rw [hx]at hbk;simp at hbk
       | cons c x=>exact List.nil_lt_cons c x
     · subst h1 h2;exact HR.out j hlt
    have HW2:Hid ((k+1=0/\l[k]=[])\/∃ j,∃ h:j<l.length,k+1=j+1/\l[k]=l[j]):=.inr ⟨k,hlt,rfl,rfl⟩
    have HM1:=hid (HM.out was l[k] w hbk.1 hbk.2 hwl)
    clear HM hbk hwl
    generalize l[k]=x at *
    have i1:(0:Int)<=k:=by omega
    have i2:(k:Int)<l.length:=by omega
    go_wp2_with fail
    refine HM1.out.mono ?_
    rintro e w1 ⟨rfl,rfl⟩
    go_wp2_with fail
    exact⟨⟨k+1,x,by omega,by go_num,rfl,HW2,by first | rfl | trivial⟩,by simp [intOf];omega⟩
  · obtain rfl:k=l.length:=by omega
    have hnl:¬(l.length:Int)<l.length:=by omega
    have hle:(l.length:Int)<=1048576:=by omega
    go_wp2_with fail
    go_ret
    exact⟨by first | rfl | simp,rfl⟩
theorem byte_at(a:List UInt8)(k:Nat)(h1:k<a.length):∃ x,a[k]=x/\(⟨a.toArray⟩:ByteArray)[k]'(by simpa [ByteArray.size] using h1)=x:=⟨_,rfl,rfl⟩
theorem nat_ne(x y:UInt8)(h:¬x=y):((x.toNat:Int) == (y.toNat:Int))=false:=
 beq_eq_false_iff_ne.2 fun hh=>h (UInt8.toNat_inj.1 (by omega))
theorem dsame_any(a b:List UInt8)(hal:a.length<=1000000000)(w:World) :
  Calls Tryz.prog 165 #[S a,S b] w fun e w'=>e=.returned (N (sameN a b))/\Fr w w':=by
 have HE:=hid (sameN_eq a b)
 generalize sameN a b=Z at *
 go_enter Tryz.func165, Tryz.ntmps165
 go_wp2_with fail
 go_loopw [5] (fun iv wr=>∃ k:Nat,k<=a.length/\k<=b.length/\iv=N k/\Hid (∀ i,i<k->a[i]? = b[i]?)/\Fr w wr) (fun iv _=>a.length - (intOf iv).toNat)
 case atStart=>exact⟨0,Nat.zero_le _,Nat.zero_le _,rfl,hid (fun i h=>by omega),Fr.refl w⟩
 case round=>
  obtain⟨k,hka,hkb,rfl,HA,hf⟩:=hrel
  have i0:(0:Int)<=k:=by omega
  by_cases h1:k<a.length
  · have i1:(k:Int)<a.length:=by omega
    by_cases h2:k<b.length
    · have i2:(k:Int)<b.length:=by omega
      by_cases h3:a[k]=b[k]
      · have HA2:Hid (∀ i,i<k+1->a[i]? = b[i]?):=fun i hi=>by
          by_cases e:i=k
          · subst e;rw [List.getElem?_eq_getElem h1,List.getElem?_eq_getElem h2,h3]
          · exact HA.out i (by omega)
        obtain⟨x,hx,hax⟩:=byte_at a k h1
        obtain⟨y,hy,hby⟩:=byte_at b k h2
        obtain rfl:x=y:=by rw [<- hx,<- hy,h3]
        clear hx hy h3
        go_upto_region 2 with fail
        go_quiet (fail)
        go_wp2_with fail
        exact⟨⟨k+1,by omega,by omega,by go_num,HA2,hf.drewN _⟩,by simp [intOf];omega⟩
      · have hZ:Hid (Z=k):=HE.out k hka hkb HA.out (fun _ _=>by rw [List.getElem?_eq_getElem h1,List.getElem?_eq_getElem h2];simpa using h3)
        obtain⟨x,hx,hax⟩:=byte_at a k h1
        obtain⟨y,hy,hby⟩:=byte_at b k h2
        have hne:=nat_ne x y (by rw [<- hx,<- hy];exact h3)
        clear hx hy h3
        go_upto_region 2 with fail
        go_quiet (fail)
        go_wp2_with fail
        go_ret
        exact⟨by rw [hZ.out];rfl,hf.drewN _⟩
    · have i2:¬(k:Int)<b.length:=by omega
      have hZ:Hid (Z=k):=HE.out k hka hkb HA.out (fun _ h=>absurd h h2)
      go_upto_region 2 with fail
      go_quiet (fail)
      go_wp2_with fail
      go_ret
      exact⟨by rw [hZ.out];rfl,hf.drewN _⟩
  · have i1:¬(k:Int)<a.length:=by omega
    have hZ:Hid (Z=k):=HE.out k hka hkb HA.out (fun h _=>absurd h h1)
    go_upto_region 2 with fail
    go_quiet (fail)
    go_wp2_with fail
    go_ret
    exact⟨by rw [hZ.out];rfl,hf.drewN _⟩
theorem str_from(s:List UInt8)(n:Nat):(⟨s.toArray⟩:ByteArray).extract n s.length=⟨(s.drop n).toArray⟩:=extract_from s n s.length (Nat.le_refl _)
theorem bucket_any(v:Value)(l:List (List UInt8))(w:World)(hs:See w eS v l)(h0:l≠[])(hb:∀ s∈l,s.length<=25)(hn:l.length<=64) :
  Calls Tryz.prog 117 #[v] w fun e w'=>∃ u,e=.returned u/\Ow w' w.heap.size eB u (bktB l)/\Fr w w':=by
 have hpos:0<l.length:=List.length_pos_iff.2 h0
 have HS:=hid (fun W (h:Fr w W) k hk=>strAt (hs.fr h) k hk)
 have HB:=hid hb
 have HTx:=hid (fun s (h:s.length<=1000000000) W=>Text_any s h W)
 have HNm:=hid (fun n (h:n<18446744073709551616) W=>Num_any n h W)
 have HSm:=hid (fun a b h W=>dsame_any a b h W)
 have HSnoc:=hid (fun k h1 h2=>bktB_snoc l k h1 h2)
 have HLen:Hid (∀ k,(bktB (l.take k)).length<=64*45):=fun k=>by
  have h1:=bktB_len 25 (by omega) (l.take k) (fun s hs=>hb s (List.mem_of_mem_take hs))
  have h2:(l.take k).length<=64:=by rw [List.length_take];omega
  have h3:(l.take k).length*(25+20)<=64*45:=Nat.mul_le_mul h2 (Nat.le_refl _)
  omega
 have HOne:Hid (bktB (l.take 1)=textB l[0]):=by
  show _=_
  cases l with
  | nil=>exact absurd rfl h0
  | cons x l=>simp [bktB,bktGo]
 have HAl:Hid (bktB (l.take l.length)=bktB l):=by show _=_;rw [List.take_length]
 obtain⟨b0,off0,cap0,hv0,c00⟩:=HS.out w (Fr.refl w) 0 hpos
 rw [Nat.add_zero]at c00
 obtain⟨a0,cap,hv,hcap1,hcap2,hnone⟩:=hs.shape
 obtain⟨fa,fc,hfrom0,hsfrom⟩:=run_from eS 92 Tryz.underlying92 (by rw [hv]at hs;exact hs) 1 (by omega)
 have hfrom:∀ W,(Instr.slice 92 (.slice a0 l.length cap) (some (.int .i64 1)) none none).run Tryz.prog W=.ok (.slice fa (l.length - 1) fc) W:=hfrom0
 have HF:=hid (fun W (h:Fr w W) k hk=>strAt (hsfrom.fr h) k hk)
 have h0l:l[0].length<=25:=hb _ (List.getElem_mem hpos)
 have HT0:=hid (HTx.out l[0] (by omega) w)
 generalize l[0]=x0 at *
 rw [hv]at hv0
 cases hv0
 subst hv
 clear hfrom0 hsfrom hb hs hnone h0
 go_enter Tryz.func117, Tryz.ntmps117
 go_wp2_with fail
 refine HT0.out.mono ?_
 rintro e w1 ⟨v1,rfl,hO1,hf1⟩
 rw [<- HOne.out]at hO1
 go_wp2_with fail
 go_loopw [3,14] (fun ov iv wr=>∃ k:Nat,k+1<=l.length/\iv=N k/\Ow wr w.heap.size eB ov (bktB (l.take (k+1)))/\Fr w wr) (fun _ iv _=>l.length - (intOf iv).toNat)
 case atStart=>exact⟨0,by omega,rfl,hO1,hf1⟩
 case round=>
  clear hO1 hf1
  obtain⟨k,hk,rfl,hO,hf⟩:=hrel
  have hol:=HLen.out (k+1)
  by_cases hlt:k+1<l.length
  · obtain⟨b,off,cap',hv,c0⟩:=HS.out wr hf k (by omega)
    cases hv
    have hdl:(l.drop 1).length=l.length - 1:=by simp
    obtain⟨b',off',cap'',hv,d0⟩:=HF.out wr hf k (by omega)
    rw [hdl]at hv
    cases hv
    have e1:(l.drop 1)[k]'(by omega)=l[k+1]:=by rw [List.getElem_drop];congr 1;omega
    rw [e1]at d0
    have HN:=hid (HSnoc.out (k+1) (by omega) hlt)
    have hx25:=HB.out _ (List.getElem_mem (show k<l.length by omega))
    have hy25:=HB.out _ (List.getElem_mem hlt)
    have hol2:=HLen.out (k+2)
    have e2:k+1 - 1=k:=by omega
    simp only [e2]at HN
    generalize bktB (l.take (k+1))=m at *
    generalize hm2:bktB (l.take (k+1+1))=m2 at *
    have HM2:=hid hm2
    clear hm2
    generalize l[k]=x at *
    generalize l[k+1]=y at *
    have hsl:=(sameN_le x y).2
    have HSa:=hid (HSm.out x y (by omega) wr)
    generalize sameN x y=n at *
    have hdy:(y.drop n).length<=25:=by simp;omega
    have hex:=str_from y n
    have htl:=textB_len (y.drop n) (by omega)
    have hnl:=numB_le n (by omega)
    have HNn:=hid (HNm.out n (by omega))
    have HTy:=hid (HTx.out (y.drop n) (by omega))
    have HAll:=hid (fun W v0 v1 v2 s0 s1 s2=>all3 W v0 v1 v2 m (numB n) (textB (y.drop n)) s0 s1 s2 (by omega))
    rw [<- HN.out]at HAll
    generalize y.drop n=z at *
    have i1:(0:Int)<=k:=by omega
    have i2:(k:Int)<((l.length - 1:Nat):Int):=by omega
    have i3:(k:Int)<l.length:=by omega
    have i4:(0:Int)<=n:=by omega
    have i5:(n:Int)<=y.length:=by omega
    obtain⟨oa,oc,rfl⟩:=hO.shape'
    go_wp2_with fail
    refine HSa.out.mono ?_
    rintro e w2 ⟨rfl,hf2⟩
    have hO2:=hO.fr hf2
    have hw1:IntKind.u64.wrap (n:Int)=(n:Int):=IntWalk.u64_in _ (by omega)
    go_upto_region 6 with fail
    go_region_with
     ((first
      | (go_at_call 27; refine (HNn.out _).mono ?_; rintro e w3 ⟨v3, rfl, hO3, hf3⟩; obtain ⟨q3, z3, hq3⟩ := hO3.shape'; subst hq3)
      | (go_at_call 75; refine (HTy.out _).mono ?_; rintro e w4 ⟨v4, rfl, hO4, hf4⟩; obtain ⟨q4, z4, hq4⟩ := hO4.shape'; subst hq4)
      | (go_at_call 26; refine (HAll.out _ _ _ _ (hO2.see.fr ((Fr.refl w2).drew.trans (hf3.trans hf4))) (hO3.see.fr hf4) hO4.see).mono ?_; rintro e w5 ⟨v5, rfl, hO5, hf5⟩)))
    all_goals
     have hf4':Fr w w4:=hf.trans (hf2.trans ((Fr.refl w2).drew.trans (hf3.trans hf4)))
     obtain⟨q5,z5,rfl⟩:=hO5.shape'
     go_wp2_with fail
     exact⟨⟨k+1,by omega,by go_num,by rw [HM2.out];exact hO5.rebase hf4'.size,hf4'.trans hf5⟩,by simp [intOf];omega⟩
  · obtain rfl:k=l.length - 1:=by omega
    have hnl:¬((l.length - 1:Nat):Int)<((l.length - 1:Nat):Int):=by omega
    have e1:l.length - 1+1=l.length:=by omega
    rw [e1,HAl.out]at hO
    clear e1
    go_wp2_with fail
    go_ret
    exact⟨_,rfl,hO,hf⟩
end Go.Proofs.YtdagmoonnbnceaaGreatDoor
