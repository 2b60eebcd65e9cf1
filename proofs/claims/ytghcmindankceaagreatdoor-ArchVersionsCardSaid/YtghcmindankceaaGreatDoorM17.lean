/- Parts of the proof of ArchVersions: Q1 Q2 Q3 Q4 E2 E3 E4 L3. -/
import Derived.Test.YtghcmindankceaaGreatDoorM11
import Derived.Test.YtghcmindankceaaGreatDoorM01
import Derived.Test.YtghcmindankceaaGreatDoorM06
import Derived.Test.YtghcmindankceaaGreatDoorM16
import Derived.Test.YtghcmindankceaaGreatDoorM05
import Derived.Test.YtghcmindankceaaGreatDoorM33
import Derived.Test.YtghcmindankceaaGreatDoorM08
set_option linter.unusedVariables false
set_option linter.unusedSectionVars false
set_option linter.unusedSimpArgs false
set_option maxHeartbeats 8000000
namespace Go.Proofs.YtghcmindankceaaGreatDoor
open Go.RowKit Go.Fk
def wt1(r:Rec):Nat:=16+r.source.length+r.text.length
def longR(r:Rec):Bool:=decide (4000<r.source.length) || decide (4000<r.text.length)
def okLog(l:List Rec):Bool:=decide (l.length<=20000) && (l.all fun r=>!longR r) && decide (wtS wt1 l<=1048576)
abbrev recV(r:Rec):Value:=.agg #[.int .u64 r.time.toNat,Fk.u8 r.level,S r.source,S r.text]
set_option maxRecDepth 100000
theorem long_any(r:Rec)(w:World):Calls Tryz.prog 91 #[recV r] w fun e w'=>e=.returned (.bool (longR r))/\Fr w w':=by
 have HR:Hid (longR r=(decide (4000<r.source.length) || decide (4000<r.text.length))):=rfl
 by_cases h1:4000<r.source.length
 · have h1':(4000:Int)<r.source.length:=by omega
   have HE:Hid (longR r=true):=by show _=_;rw [HR.out,decide_eq_true h1];rfl
   go_enter Tryz.func91, Tryz.ntmps91
   go_wp2_with fail
   go_ret
   exact⟨by rw [HE.out];rfl,(Fr.refl w).alloc _⟩
 · have h1':¬(4000:Int)<r.source.length:=by omega
   by_cases h2:4000<r.text.length
   · have h2':(4000:Int)<r.text.length:=by omega
     have HE:Hid (longR r=true):=by show _=_;rw [HR.out,decide_eq_true h2];simp
     go_enter Tryz.func91, Tryz.ntmps91
     go_wp2_with fail
     go_ret
     exact⟨by rw [HE.out];rfl,(Fr.refl w).alloc _⟩
   · have h2':¬(4000:Int)<r.text.length:=by omega
     have HE:Hid (longR r=false):=by show _=_;rw [HR.out,decide_eq_false h1,decide_eq_false h2];rfl
     go_enter Tryz.func91, Tryz.ntmps91
     go_wp2_with fail
     go_ret
     exact⟨by rw [HE.out];rfl,(Fr.refl w).alloc _⟩
theorem QWeight_any(v:Value)(l:List Rec)(w:World)(hs:See w eR v l)(hl:l.length<=20000)(hb:∀ r∈l,wt1 r<=8016) :
  Calls Tryz.prog 92 #[v] w fun e w'=>e=.returned (N (wtS wt1 l))/\Fr w w':=by
 obtain⟨a,cap,hv,hcap1,hcap2,hnone⟩:=hs.shape
 subst hv
 have HTk:=hid (fun k=>wtS_le wt1 8016 (l.take k) (fun x hx=>hb x (List.mem_of_mem_take hx)))
 have HB:=hid hb
 clear hb
 go_enter Tryz.func92, Tryz.ntmps92
 go_wp2_with fail
 go_loopw [3,8] (fun sv iv wr=>∃ k:Nat,k<=l.length/\iv=N k/\sv=N (wtS wt1 (l.take k))/\Fr w wr) (fun _ iv _=>l.length - (intOf iv).toNat)
 case atStart=>exact⟨0,Nat.zero_le _,rfl,rfl,Fr.refl w⟩
 case round=>
  obtain⟨k,hk,rfl,rfl,hf⟩:=hrel
  have hbd:=HTk.out k
  rw [List.length_take,Nat.min_eq_left hk]at hbd
  have hbd2:wtS wt1 (l.take k)<=20000*8016:=Nat.le_trans hbd (Nat.mul_le_mul (by omega) (Nat.le_refl _))
  clear hbd
  by_cases hlt:k<l.length
  · obtain⟨b,off,cap',hv,c0,c1,c2,c3⟩:=recAt (hs.fr hf) k hlt
    have HN:=hid (wtS_snoc wt1 l k hlt)
    have h1:wt1 l[k]<=8016:=HB.out _ (List.getElem_mem hlt)
    generalize wtS wt1 (l.take k)=sum at *
    generalize l[k]=r at *
    cases hv
    unfold wt1 at h1
    have i1:(0:Int)<=k:=by omega
    have i2:(k:Int)<l.length:=by omega
    go_wp2_with fail
    exact⟨⟨k+1,by omega,by go_num,by rw [HN.out];unfold wt1;go_num,hf.alloc _⟩,by simp [intOf];omega⟩
  · obtain rfl:k=l.length:=by omega
    have hnl:¬((l.length:Int)<l.length):=by omega
    rw [List.take_length]at *
    go_wp2_with fail
    go_ret
    exact⟨rfl,hf⟩
theorem indexLong_any(v:Value)(l:List Rec)(w:World)(hs:See w eR v l) :
  Calls Tryz.prog 159 #[v,.func (.func 91) #[] #[]] w fun e w'=>∃ x:Int,e=.returned (.int .i64 x)/\Hid (decide (0<=x)=l.any longR)/\Fr w w':=by
 obtain⟨a,cap,hv,hcap1,hcap2,hnone⟩:=hs.shape
 subst hv
 unfold maxLen at hcap2
 have HL:=hid long_any
 go_enter Tryz.func159, Tryz.ntmps159
 go_wp2_with fail
 go_loopw [8] (fun iv wr=>∃ k:Nat,k<=l.length/\iv=N k/\Hid ((l.take k).any longR=false)/\Fr w wr) (fun iv _=>l.length - (intOf iv).toNat)
 case atStart=>exact⟨0,Nat.zero_le _,rfl,rfl,Fr.refl w⟩
 case round=>
  obtain⟨k,hk,rfl,HA,hf⟩:=hrel
  by_cases hlt:k<l.length
  · obtain⟨b,off,cap',hv,c0,c1,c2,c3⟩:=recAt (hs.fr hf) k hlt
    have HN:Hid ((l.take (k+1)).any longR=longR l[k]):=by
     show _=_;rw [List.take_succ_eq_append_getElem hlt,List.any_append,HA.out];simp
    have HX:Hid (longR l[k]=true->l.any longR=true):=fun h=>List.any_eq_true.2 ⟨_,List.getElem_mem hlt,h⟩
    generalize l[k]=r at *
    cases hv
    have HR:=hid (HL.out r)
    have i1:(0:Int)<=k:=by omega
    have i2:(k:Int)<l.length:=by omega
    cases hr:longR r
    · rw [hr]at HR HN HX
      clear hr
      go_wp2_with fail
      refine(HR.out _).mono ?_
      rintro e w1 ⟨rfl,hf1⟩
      go_wp2_with fail
      exact⟨⟨k+1,by omega,by go_num,HN.out,hf.trans hf1⟩,by simp [intOf];omega⟩
    · have HX2:=hid (HX.out hr)
      rw [hr]at HR HN
      clear hr HX
      go_wp2_with fail
      refine(HR.out _).mono ?_
      rintro e w1 ⟨rfl,hf1⟩
      go_wp2_with fail
      go_ret
      exact⟨_,rfl,by show _=_;rw [HX2.out];simp,hf.trans hf1⟩
  · obtain rfl:k=l.length:=by omega
    have hnl:¬((l.length:Int)<l.length):=by omega
    rw [List.take_length]at HA
    go_wp2_with fail
    go_ret
    exact⟨_,rfl,by show _=_;rw [HA.out];rfl,hf⟩
theorem hasLong_any(v:Value)(l:List Rec)(w:World)(hs:See w eR v l) :
  Calls Tryz.prog 90 #[v,.func (.func 91) #[] #[]] w fun e w'=>e=.returned (.bool (l.any longR))/\Fr w w':=by
 obtain⟨a,cap,hv,hcap1,hcap2,hnone⟩:=hs.shape
 have HI:=hid (indexLong_any v l w hs)
 subst hv
 go_enter Tryz.func90, Tryz.ntmps90
 go_wp2_with fail
 refine HI.out.mono ?_
 rintro e w1 ⟨x,rfl,HX,hf⟩
 go_wp2_with fail
 go_ret
 exact⟨by rw [<- HX.out];rfl,hf⟩
theorem QCheck_any(v:Value)(l:List Rec)(w:World)(hs:See w eR v l) :
  Calls Tryz.prog 41 #[v] w fun e w'=>e=.returned (.int .i64 (if okLog l then 0 else 6))/\Fr w w':=by
 obtain⟨a,cap,hv,hcap1,hcap2,hnone⟩:=hs.shape
 have HL:=hid (fun W h=>hasLong_any v l W h)
 have HW:=hid (fun W h=>QWeight_any v l W h)
 have HR:Hid ((if okLog l then(0:Int)else 6)=if(decide (l.length<=20000) && (l.all fun r=>!longR r) && decide (wtS wt1 l<=1048576))=true then 0 else 6):=rfl
 have HAll:Hid ((l.all fun r=>!longR r) = !(l.any longR)):=by show _=_;rw [List.not_any_eq_all_not]
 generalize (if okLog l then(0:Int)else 6)=R at *
 rw [HAll.out]at HR
 subst hv
 unfold maxLen at hcap2
 by_cases h1:l.length<=20000
 · have h1':¬(20000:Int)<l.length:=by omega
   rw [decide_eq_true h1]at HR
   cases ha:l.any longR
   · have hb:∀ r∈l,wt1 r<=8016:=by
       intro r hr
       have h2:longR r=false:=by
        cases hx:longR r
        · rfl
        · rw [List.any_eq_true.2 ⟨r,hr,hx⟩]at ha;cases ha
       unfold longR at h2
       simp only [Bool.or_eq_false_iff,decide_eq_false_iff_not]at h2
       unfold wt1;omega
     rw [ha]at HR HL
     have HW2:=hid (fun W h=>HW.out W h h1 hb)
     clear HAll HW hb ha
     by_cases h3:wtS wt1 l<=1048576
     · rw [decide_eq_true h3]at HR
       have h3':¬(1048576:Int)<wtS wt1 l:=by omega
       have HE:Hid (R=0):=by show _=_;rw [HR.out];rfl
       generalize wtS wt1 l=wt at *
       go_enter Tryz.func41, Tryz.ntmps41
       go_wp2_with fail
       refine(HL.out _ hs).mono ?_
       rintro e w1 ⟨rfl,hf1⟩
       go_wp2_with fail
       refine(HW2.out _ (hs.fr hf1)).mono ?_
       rintro e w2 ⟨rfl,hf2⟩
       go_wp2_with fail
       go_ret
       exact⟨by rw [HE.out];rfl,hf1.trans hf2⟩
     · rw [decide_eq_false h3]at HR
       have h3':(1048576:Int)<wtS wt1 l:=by omega
       have HE:Hid (R=6):=by show _=_;rw [HR.out];rfl
       generalize wtS wt1 l=wt at *
       go_enter Tryz.func41, Tryz.ntmps41
       go_wp2_with fail
       refine(HL.out _ hs).mono ?_
       rintro e w1 ⟨rfl,hf1⟩
       go_wp2_with fail
       refine(HW2.out _ (hs.fr hf1)).mono ?_
       rintro e w2 ⟨rfl,hf2⟩
       go_wp2_with fail
       go_ret
       exact⟨by rw [HE.out];rfl,hf1.trans hf2⟩
   · rw [ha]at HR HL
     have HE:Hid (R=6):=by show _=_;rw [HR.out];rfl
     clear HAll ha
     go_enter Tryz.func41, Tryz.ntmps41
     go_wp2_with fail
     refine(HL.out _ hs).mono ?_
     rintro e w1 ⟨rfl,hf1⟩
     go_wp2_with fail
     go_ret
     exact⟨by rw [HE.out];rfl,hf1⟩
 · have h1':(20000:Int)<l.length:=by omega
   rw [decide_eq_false h1]at HR
   have HE:Hid (R=6):=by show _=_;rw [HR.out];rfl
   go_enter Tryz.func41, Tryz.ntmps41
   go_wp2_with fail
   go_ret
   exact⟨by rw [HE.out];rfl,Fr.refl w⟩
set_option maxRecDepth 512
def oneB(whole:Bool)(r:Rec):List UInt8:=(if whole then numB r.time.toNat++[r.level]else [])++(textB r.source++textB r.text)
theorem textB_len(s:List UInt8)(h:s.length<18446744073709551616):(textB s).length<=s.length+10:=by
 unfold textB;have:=numB_le s.length h;rw [List.length_append];omega
theorem oneB_len(b:Bool)(r:Rec)(hs:r.source.length<=100000)(ht:r.text.length<=100000):(oneB b r).length<=r.source.length+r.text.length+31:=by
 have h1:=textB_len r.source (by omega)
 have h2:=textB_len r.text (by omega)
 have h3:=numB_le r.time.toNat (UInt64.toNat_lt _)
 unfold oneB
 cases b
 · simp only [List.length_append];simp;omega
 · simp only [List.length_append,if_true];simp;omega
theorem sees3(w:World)(h0 h1 h2:Hd)(p0 p1 p2:List UInt8)(s0:See w eB h0.v p0)(s1:See w eB h1.v p1)(s2:See w eB h2.v p2) :
  Sees2 (w.alloc (.cells #[h0.v,h1.v,h2.v] 22)) eHB eB (.slice (some ⟨w.heap.size,0,none⟩) 3 3) [h0,h1,h2] [p0,p1,p2]:=by
 refine⟨see_new eHB w [h0,h1,h2] _ _ 3 rfl rfl (by simp [maxLen]),rfl,fun i a b=>?_⟩
 have hf:=(Fr.refl w).alloc (.cells #[h0.v,h1.v,h2.v] 22)
 have:i=0\/i=1\/i=2:=by simp at a;omega
 rcases this with rfl | rfl | rfl
 · exact s0.fr hf
 · exact s1.fr hf
 · exact s2.fr hf
theorem see_hd{w:World}{v:Value}{p:List UInt8}(h:See w eB v p):∃ x:Hd,v=x.v:=by
 obtain⟨a,c,hv,_⟩:=h.shape
 exact⟨⟨a,p.length,c⟩,hv⟩
theorem all3(W:World)(v0 v1 v2:Value)(p0 p1 p2:List UInt8)(s0:See W eB v0 p0)(s1:See W eB v1 p1)(s2:See W eB v2 p2)(hn:p0.length+p1.length+p2.length<=1000000) :
  Calls Tryz.prog 67 #[.slice (some ⟨W.heap.size,0,none⟩) 3 3] (W.alloc (.cells #[v0,v1,v2] 22)) fun e w'=>∃ v,e=.returned v/\Ow w' W.heap.size eB v (p0++(p1++p2))/\Fr W w':=by
 obtain⟨h0,rfl⟩:=see_hd s0
 obtain⟨h1,rfl⟩:=see_hd s1
 obtain⟨h2,rfl⟩:=see_hd s2
 refine(All_any _ _ _ _ (sees3 W h0 h1 h2 p0 p1 p2 s0 s1 s2) (by simp;omega)).mono ?_
 rintro e w' ⟨v,he,ho,hf⟩
 exact⟨v,he,by simpa using ho.rebase (by simp),((Fr.refl W).alloc _).trans hf⟩
def bytesB(b:Bool)(l:List Rec):List UInt8:=(l.map (oneB b)).flatten
theorem bytesB_snoc(b:Bool)(l:List Rec)(k:Nat)(h:k<l.length):bytesB b (l.take (k+1))=bytesB b (l.take k)++oneB b l[k]:=flat_map_snoc _ l k h
theorem bytesB_take(b:Bool)(l:List Rec)(k:Nat):(bytesB b (l.take k)).length<=(bytesB b l).length:=by
 unfold bytesB;rw [flat_len,flat_len];exact wtS_take_le _ l k
set_option maxRecDepth 100000
theorem BytesG_any(wh:Bool)(H1:Hid (∀ (r:Rec) (W:World),r.source.length<=100000->r.text.length<=100000->Calls Tryz.prog 124 #[.bool wh,recV r] W fun e w'=>∃ v,e=.returned v/\Ow w' W.heap.size eB v (oneB wh r)/\Fr W w'))(v:Value)(l:List Rec)(w:World)(hs:See w eR v l)(hl:(bytesB wh l).length<=1000000)(hb:∀ r∈l,r.source.length<=100000/\r.text.length<=100000) :
  Calls Tryz.prog 61 #[.bool wh,v] w fun e w'=>∃ v,e=.returned v/\Ow w' w.heap.size eB v (bytesB wh l)/\Fr w w':=by
 obtain⟨a,cap,hv,hcap1,hcap2,hnone⟩:=hs.shape
 subst hv
 unfold maxLen at hcap2
 have HB:=hid hb
 clear hb
 go_enter Tryz.func61, Tryz.ntmps61
 go_wp2_with fail
 go_loopw [5,10] (fun ov iv wr=>∃ k:Nat,k<=l.length/\iv=N k/\Ow wr w.heap.size eB ov (bytesB wh (l.take k))/\Fr w wr) (fun _ iv _=>l.length - (intOf iv).toNat)
 case atStart=>exact⟨0,Nat.zero_le _,rfl,Ow.nil,Fr.refl w⟩
 case round=>
  obtain⟨k,hk,rfl,hout,hf⟩:=hrel
  by_cases hlt:k<l.length
  · obtain⟨b,off,cap',hv,c0,c1,c2,c3⟩:=recAt (hs.fr hf) k hlt
    have HN:=hid (bytesB_snoc wh l k hlt)
    have hle:=bytesB_take wh l (k+1)
    rw [HN.out,List.length_append]at hle
    have hbk:=HB.out _ (List.getElem_mem hlt)
    have HO:=hid (fun W=>H1.out l[k] W hbk.1 hbk.2)
    generalize l[k]=r at *
    cases hv
    have i1:(0:Int)<=k:=by omega
    have i2:(k:Int)<l.length:=by omega
    go_wp2_with fail
    refine(HO.out _).mono ?_
    rintro e w1 ⟨v1,rfl,hown1,hf1⟩
    have hf0:=hf.alloc (.cells #[.int .u64 r.time.toNat,Fk.u8 r.level,S r.source,S r.text] 63)
    have hout1:=(hout.fr ((Fr.refl wr).alloc (.cells #[.int .u64 r.time.toNat,Fk.u8 r.level,S r.source,S r.text] 63))).fr hf1
    go_wp2_with (at_builtin;refine wpList_app eB rfl (.tmp 14) (.tmp 17) 22 rfl Tryz.underlying22 w.heap.size rfl hout1 _ _ rfl hown1.see (by omega) (hf0.trans hf1).size ?_)
    intro v' w4 hap
    go_wp2_with fail
    exact⟨⟨k+1,by omega,by go_num,by rw [HN.out];exact hap.own,hap.below hout1 (hf0.trans hf1) (Nat.le_refl _) (hf0.trans hf1).size⟩,by simp [intOf];omega⟩
  · obtain rfl:k=l.length:=by omega
    have hnl:¬((l.length:Int)<l.length):=by omega
    rw [List.take_length]at hout
    go_wp2_with fail
    go_ret
    exact⟨_,rfl,hout,hf⟩
set_option maxRecDepth 512
def lenR(b:Bool)(r:Rec):Nat:=(oneB b r).length
theorem set_last(m:List Nat)(x y:Nat):(m++[x]).set m.length y=m++[y]:=by
 rw [List.set_append_right _ _ (Nat.le_refl _),Nat.sub_self];rfl
set_option maxRecDepth 100000
theorem GroupsG_any(wh:Bool)(H1:Hid (∀ (r:Rec) (W:World),r.source.length<=100000->r.text.length<=100000->Calls Tryz.prog 124 #[.bool wh,recV r] W fun e w'=>∃ v,e=.returned v/\Ow w' W.heap.size eB v (oneB wh r)/\Fr W w'))(sz:Nat)(hsz:2<=sz)(hsz2:sz<=1000000)(v:Value)(l:List Rec)(w:World)(hs:See w eR v l)(hl:l.length<=1000000)(hb:∀ r∈l,r.source.length<=100000/\r.text.length<=100000) :
  Calls Tryz.prog 59 #[N sz,.bool wh,v] w fun e w'=>∃ v,e=.returned v/\Ow w' w.heap.size eJ v (groupsL sz (lenR wh) l)/\Fr w w':=by
 obtain⟨a,cap,hv,hcap1,hcap2,hnone⟩:=hs.shape
 subst hv
 unfold maxLen at hcap2
 have HB:=hid hb
 clear hb
 have hs1:(1:Int)<sz:=by omega
 go_enter Tryz.func59, Tryz.ntmps59
 go_wp2_with fail
 go_loopw [7,8,14] (fun ov hv iv wr=>∃ (k h:Nat) (m:List Nat),k<=l.length/\iv=N k/\hv=N h/\h<=1000000+300000/\m.length<=k/\Ow wr w.heap.size eJ ov m/\Hid ((k=0/\m=[]/\h=0)\/∃ c d,m=d++[c]/\c<=k/\groupsL sz (lenR wh) l=d++grpGo sz (lenR wh) c h (l.drop k))/\Fr w wr) (fun _ _ iv _=>l.length - (intOf iv).toNat)
 case atStart=>exact⟨0,0,[],Nat.zero_le _,rfl,rfl,by omega,Nat.le_refl _,Ow.nil,.inl ⟨rfl,rfl,rfl⟩,Fr.refl w⟩
 case round=>
  obtain⟨k,h,m,hk,rfl,rfl,hh,hmk,hout,HI,hf⟩:=hrel
  by_cases hlt:k<l.length
  · obtain⟨b,off,cap',hv,c0,c1,c2,c3⟩:=recAt (hs.fr hf) k hlt
    have hbk:=HB.out _ (List.getElem_mem hlt)
    have HO:=hid (fun W=>H1.out l[k] W hbk.1 hbk.2)
    have hol:lenR wh l[k]<=200031:=by have:=oneB_len wh l[k] hbk.1 hbk.2;unfold lenR;omega
    have HDr:=hid (List.drop_eq_getElem_cons hlt)
    have HG0:Hid (k=0->groupsL sz (lenR wh) l=grpGo sz (lenR wh) 1 (lenR wh l[k]) (l.drop (k+1))):=by
     intro h0;subst h0
     cases l with
     | nil=>simp at hlt
     | cons r l=>rfl
    have HLn:Hid (lenR wh l[k]=(oneB wh l[k]).length):=rfl
    generalize hnr:lenR wh l[k]=n at *
    generalize l[k]=r at *
    have HNr:=hid hnr
    clear hnr
    cases hv
    have i1:(0:Int)<=k:=by omega
    have i2:(k:Int)<l.length:=by omega
    have hf0:=hf.alloc (.cells #[.int .u64 r.time.toNat,Fk.u8 r.level,S r.source,S r.text] 63)
    have hout0:=hout.fr ((Fr.refl wr).alloc (.cells #[.int .u64 r.time.toNat,Fk.u8 r.level,S r.source,S r.text] 63))
    have hwh:IntKind.i64.wrap ((h:Int)+n)=(h:Int)+n:=IntWalk.i64_in _ (by omega)
    go_wp2_with fail
    refine(HO.out _).mono ?_
    rintro e w1 ⟨v1,rfl,hown1,hf1⟩
    obtain⟨v1a,v1c,hv1⟩:=hown1.shape'
    rw [<- HLn.out]at hv1
    subst hv1
    have hout1:=hout0.fr hf1
    have hf01:=hf0.trans hf1
    clear hout hout0 hown1 HLn
    by_cases hk0:k=0
    · have hI0:m=[]/\h=0:=by
        rcases HI.out with⟨_,h1,h2⟩ | ⟨c,d,h1,_⟩
        · exact⟨h1,h2⟩
        · rw [h1]at hmk;simp at hmk;omega
      obtain⟨rfl,rfl⟩:=hI0
      have HE:=hid (HG0.out hk0)
      clear HI HG0 HDr
      obtain⟨oa,oc,hov⟩:=hout1.shape'
      rw [List.length_nil]at hov
      subst hov
      go_wp2_with (at_builtin;refine wpList_app1 eJ rfl (.tmp 33) (.tmp 34) 49 rfl Tryz.underlying49 w.heap.size rfl hout1 [0] _ _ _ rfl rfl rfl (by simp) hf01.size ?_)
      intro v' w4 hap
      have hown4:=hap.own
      have hf4:=hap.below hout1 hf01 (Nat.le_refl _) hf01.size
      try rw [List.nil_append]at hown4
      obtain⟨g,gc,hvg,hg1,hg2,_,_⟩:=hown4.atHead (by simp)
      rw [show([(0:Nat)]).length=1 from by simp]at hvg
      subst hvg
      obtain⟨z1,z2⟩:=hown4.cellAt (fun n=>N n) rfl 0 (by simp)
      have hs4:=hown4.set (fun n=>N n) rfl 0 (by simp) 1 (.int .i64 1) rfl
      rw [show([(0:Nat)])[0]'(by simp)=0 from by simp]at z1
      rw [show([(0:Nat)]).set 0 1=[1]from rfl]at hs4
      have hf5:=set_below (i:=0) (u:=.int .i64 1) hf4 hg1 (Fr.size hf4)
      have HS4:=hid hs4
      have HF5:=hid hf5
      clear hown4 hs4 hf5 hf4
      go_wp2_with fail
      exact⟨⟨k+1,0+n,[1],by omega,by go_num,by go_num,by omega,by simp,HS4.out,(by subst hk0;exact .inr ⟨1,[],rfl,by omega,by rw [HE.out];simp⟩),HF5.out⟩,by simp [intOf];omega⟩
    · obtain⟨c,d,rfl,hck,HG⟩:∃ c d,m=d++[c]/\c<=k/\groupsL sz (lenR wh) l=d++grpGo sz (lenR wh) c h (l.drop k):=by
        rcases HI.out with⟨h0,_⟩ | h1
        · exact absurd h0 hk0
        · exact h1
      rw [HDr.out,grpGo,HNr.out]at HG
      have HGh:=hid HG
      clear HI HG0 HG HDr
      obtain⟨oa,oc,hov⟩:=hout1.shape'
      rw [show(d++[c]).length=d.length+1 from by simp]at hov hmk
      subst hov
      have hm0:((d.length:Int)+1 == 0)=false:=by simp;omega
      by_cases hgt:h+n<=sz
      · have hgt':decide ((sz:Int)<(h:Int)+n)=false:=by simp;omega
        have hown4:=hout1
        have hf4:=hf01
        rw [if_pos hgt]at HGh
        have hcb:(c:Int)<=1000000:=by omega
        have hcb0:(0:Int)<=c:=by omega
        obtain⟨g,gc,hvg,hg1,hg2,_,_⟩:=hown4.atHead (by simp)
        rw [show(d++[c]).length=d.length+1 from by simp]at hvg
        cases hvg
        obtain⟨z1,z2⟩:=hown4.cellAt (fun n=>N n) rfl d.length (by simp)
        have hs4:=hown4.set (fun n=>N n) rfl d.length (by simp) (c+1) (.int .i64 ((c:Int)+1)) rfl
        rw [show(d++[c])[d.length]'(by simp)=c from by simp]at z1
        rw [show(d++[c]).set d.length (c+1)=(d++[c+1])from set_last d c (c+1)]at hs4
        have hf5:=set_below (i:=d.length) (u:=.int .i64 ((c:Int)+1)) hf4 hg1 (Fr.size hf4)
        have HS4:=hid hs4
        have HF5:=hid hf5
        clear hown4 hs4 hf5 hf4
        go_wp2_with fail
        exact⟨⟨k+1,h+n,(d++[c+1]),by omega,by go_num,by go_num,by omega,by simp;omega,by simpa using HS4.out,.inr ⟨c+1,d,rfl,by omega,HGh.out⟩,HF5.out⟩,by simp [intOf];omega⟩
      · have hgt':decide ((sz:Int)<(h:Int)+n)=true:=by simp;omega
        have hgt2:(sz:Int)<(h:Int)+n:=by omega
        have hgt3:¬(h:Int)+n<=sz:=by omega
        rw [if_neg hgt]at HGh
        go_wp2_with (at_builtin;refine wpList_app1 eJ rfl (.tmp 33) (.tmp 34) 49 rfl Tryz.underlying49 w.heap.size rfl hout1 [0] _ _ _ rfl rfl rfl (by simp;omega) hf01.size ?_)
        intro v' w4 hap
        have hown4:=hap.own
        have hf4:=hap.below hout1 hf01 (Nat.le_refl _) hf01.size
        have hls:(d++[c]++[0]:List Nat).length=d.length+1+1:=by simp
        have hown4:Ow w4 w.heap.size eJ v' (d++[c]++[0]):=by simpa using hown4
        clear hap
        obtain⟨g,gc,hvg,hg1,hg2,_,_⟩:=hown4.atHead (by simp)
        rw [show(d++[c]++[0]:List Nat).length=d.length+1+1 from by simp]at hvg
        subst hvg
        obtain⟨z1,z2⟩:=hown4.cellAt (fun n=>N n) rfl (d.length+1) (by simp)
        have hs4:=hown4.set (fun n=>N n) rfl (d.length+1) (by simp) 1 (.int .i64 1) rfl
        rw [show(d++[c]++[0]:List Nat)[(d.length+1)]'(by simp)=0 from by simp]at z1
        rw [show(d++[c]++[0]:List Nat).set (d.length+1) 1=(d++[c]++[1])from by simp]at hs4
        have hf5:=set_below (i:=(d.length+1)) (u:=.int .i64 1) hf4 hg1 (Fr.size hf4)
        have HS4:=hid hs4
        have HF5:=hid hf5
        clear hown4 hs4 hf5 hf4
        go_wp2_with fail
        exact⟨⟨k+1,n,(d++[c]++[1]),by omega,by go_num,by go_num,by omega,by simp;omega,by simpa using HS4.out,.inr ⟨1,d++[c],rfl,by omega,by rw [HGh.out];simp⟩,HF5.out⟩,by simp [intOf];omega⟩
  · obtain rfl:k=l.length:=by omega
    have hnl:¬((l.length:Int)<l.length):=by omega
    have HE:Hid (m=groupsL sz (lenR wh) l):=by
     show _=_
     rcases HI.out with⟨h0,rfl,_⟩ | ⟨c,d,h1,_,h2⟩
     · have:l=[]:=List.eq_nil_of_length_eq_zero h0
       subst this;rfl
     · rw [h1,h2,List.drop_length,grpGo]
    go_wp2_with fail
    go_ret
    exact⟨_,rfl,by rw [<- HE.out];exact hout,hf⟩
set_option maxRecDepth 512
def eU:Elt Tryz.prog Nat:=⟨266,1,2,0,.int .u16 0,fun n=>[.int .u16 (n:Int)],by kernel_rfl,by decide,by decide,by simp [Value.cells],fun _=>rfl,by intro x u hu;simp at hu;subst hu;rfl⟩
structure PartsT (w:World) (T:TypeId) (base g n:Nat) (hv lv:Value) (hs ls:List Nat):Prop where
 at0:w.heap[g]?=some (.cells #[N n,hv,lv] T (0,0))
 hi:Ow w base eJ hv hs
 lo:Ow w base eU lv ls
 lt:g<base
abbrev PartsAt(w:World)(base g n:Nat)(hv lv:Value)(hs ls:List Nat):Prop:=PartsT w 260 base g n hv lv hs ls
def eIt:Elt Tryz.prog It:=⟨428,2,16,⟨0,false,[]⟩,.agg #[.int .u64 0,.bool false],fun x=>[.int .u64 (x.w.toNat:Int),.bool x.leaf],by kernel_rfl,by decide,by decide,by simp [Value.cells],fun _=>rfl,by intro x u hu;simp at hu;rcases hu with rfl | rfl <;> rfl⟩
def leavesL(often syms:List Nat):List It:=syms.map fun s=>⟨UInt64.ofNat (often.getD s 0),true,[s]⟩
theorem leavesL_len(often syms:List Nat):(leavesL often syms).length=syms.length:=by simp [leavesL]
theorem leavesL_leaf(often syms:List Nat):∀ x∈leavesL often syms,x.leaf=true:=by
 intro x hx
 obtain⟨s,_,rfl⟩:=List.mem_map.1 hx
 rfl
theorem leavesL_at(often syms:List Nat)(k:Nat)(h:k<syms.length):(leavesL often syms)[k]?=some ⟨UInt64.ofNat (often.getD syms[k] 0),true,[syms[k]]⟩:=by simp [leavesL,h]
set_option maxRecDepth 100000
theorem leaves_any(va vb:Value)(often syms:List Nat)(w:World)(ha:See w eV va often)(hb:See w eJ vb syms)(hn:syms.length<=1000000)(hs:∀ s∈syms,s<often.length)(h32:∀ x∈often,x<4294967296) :
  Calls Tryz.prog 335 #[va,vb] w fun e w'=>∃ v,e=.returned v/\Ow w' w.heap.size eIt v (leavesL often syms)/\Fr w w':=by
 obtain⟨a,cap,hv,hcap1,hcap2,hnone⟩:=ha.shape
 subst hv
 obtain⟨a',cap',hv,hcap1',hcap2',hnone'⟩:=hb.shape
 subst hv
 unfold maxLen at hcap2 hcap2'
 have hmk:=made_runE eIt 423 Tryz.underlying423 .i64 .i64 syms.length (by omega)
 have HOw:=hid (made_ownE (base:=w.heap.size) eIt syms.length (by omega) w (Nat.le_refl _))
 have HF0:=hid ((Fr.refl w).alloc (.cells (madeCells eIt.z.cells (syms.length*eIt.k)) eIt.e))
 have HLe:=hid (leavesL_len often syms)
 have HAt:=hid (leavesL_at often syms)
 generalize hR:leavesL often syms=R at *
 clear hR
 generalize hT:madeCells eIt.z.cells (syms.length*eIt.k)=T0 at *
 clear hT
 go_enter Tryz.func335, Tryz.ntmps335
 go_wp2_with fail
 rw [show(eIt:Elt Tryz.prog It).e=428 from rfl]at *
 have hF0:=HF0.out
 have hsz:(w.alloc (.cells T0 428)).heap.size=w.heap.size+1:=by simp
 have hO0:=HOw.out
 clear HF0 HOw
 generalize w.alloc (.cells T0 428)=W0 at *
 have HSZ:=hid hsz
 clear hsz
 go_loopw [13] (fun iv wr=>∃ k:Nat,k<=syms.length/\iv=N k/\Ow wr w.heap.size eIt (.slice (some ⟨w.heap.size,0,none⟩) syms.length syms.length) (R.take k++List.replicate (syms.length - k) (⟨0,false,[]⟩:It))/\Fr w wr) (fun iv _=>syms.length - (intOf iv).toNat)
 case atStart=>exact⟨0,Nat.zero_le _,rfl,by simp only [List.take_zero,List.nil_append,Nat.sub_zero];exact hO0,hF0⟩
 case round=>
  clear hO0 hF0
  obtain⟨k,hk,rfl,hO,hf⟩:=hrel
  by_cases hlt:k<syms.length
  · obtain⟨b,off,cp,hv,c1⟩:=jAt (hb.fr hf) k hlt
    have HA:=HAt.out k hlt
    have hso:=hs _ (List.getElem_mem hlt)
    generalize hsy:syms[k]=s at *
    obtain⟨b2,off2,cp2,hv2,c2⟩:=vAt (ha.fr hf) s hso
    have e2:often.getD s 0=often[s]:=by rw [List.getD_eq_getElem?_getD,List.getElem?_eq_getElem hso];rfl
    have h32':=h32 _ (List.getElem_mem hso)
    rw [e2]at HA
    generalize often[s]=x at *
    cases hv
    cases hv2
    have hlen:(R.take k++List.replicate (syms.length - k) (⟨0,false,[]⟩:It)).length=syms.length:=fill_len R _ _ _ HLe.out hk
    have hx64:((UInt64.ofNat x).toNat:Int)=x:=by rw [UInt64.toNat_ofNat'];omega
    have HSet:=hid (hO.set2 (fun y=>⟨_,_,rfl⟩) k (by rw [hlen];exact hlt) (⟨UInt64.ofNat x,true,[s]⟩:It) (.int .u64 (x:Int)) (.bool true) (by show [Value.int .u64 ((UInt64.ofNat x).toNat:Int),Value.bool true]=_;rw [hx64]))
    have HFil:=hid (fill_set R (⟨0,false,[]⟩:It) syms.length k HLe.out hlt ⟨UInt64.ofNat x,true,[s]⟩ (by rw [List.getElem?_eq_getElem (by rw [HLe.out];exact hlt)]at HA;exact Option.some.inj HA))
    obtain⟨u0,v0,d1,d2,d3⟩:∃ u v,wr.cell? ⟨w.heap.size,k*2,none⟩=some u/\wr.cell? ⟨w.heap.size,k*2+1,none⟩=some v/\(∀ j,wr.frozen? ⟨w.heap.size,j,none⟩=false):=⟨_,_,hO.cell2 k (by rw [hlen];exact hlt) _ _ rfl⟩
    have d4:=d3 (k*2)
    have d5:=d3 (k*2+1)
    clear d3
    have i1:(0:Int)<=k:=by omega
    have i2:(k:Int)<syms.length:=by omega
    have i3:(0:Int)<=s:=by omega
    have i4:(s:Int)<often.length:=by omega
    have HBe:=hid hsy
    have hxw:IntKind.u64.wrap (x:Int)=(x:Int):=IntWalk.u64_in _ (by omega)
    clear hsy HA hs h32 h32' hx64
    go_wp2_with fail
    go_roundw
    case rel=>exact⟨k+1,by omega,by go_num,by rw [<- HFil.out];exact HSet.out,set_below (set_below hf (Nat.le_refl _) hf.size) (Nat.le_refl _) (by simpa [World.setCell] using hf.size)⟩
    case measure=>simp [intOf];omega
  · obtain rfl:k=syms.length:=by omega
    have hnl:¬((syms.length:Int)<syms.length):=by omega
    have e:R.take syms.length++List.replicate (syms.length - syms.length) (⟨0,false,[]⟩:It)=R:=by rw [Nat.sub_self,List.replicate_zero,List.append_nil,<- HLe.out,List.take_length]
    rw [e]at hO
    go_wp2_with fail
    go_ret
    exact⟨_,rfl,hO,hf⟩
set_option maxRecDepth 512
end Go.Proofs.YtghcmindankceaaGreatDoor
