/- Parts of the proof of ThreeOpens: Wd2 Wd3 Wd4 We1 Co Cp Cq Cr7. -/
import Derived.Test.YtijghcbpfcjjnaaGreatDoorM01
import Derived.Test.YtijghcbpfcjjnaaGreatDoorM14
import Derived.Test.YtijghcbpfcjjnaaGreatDoorM16
import Derived.Test.YtijghcbpfcjjnaaGreatDoorM11
import Derived.Test.YtijghcbpfcjjnaaGreatDoorM13
import Derived.Test.YtijghcbpfcjjnaaGreatDoorM05
set_option linter.unusedVariables false
set_option linter.unusedSectionVars false
set_option linter.unusedSimpArgs false
set_option maxHeartbeats 8000000
namespace Go.Proofs.YtijghcbpfcjjnaaGreatDoor
open Go.RowKit Go.Fk
def atW(l:List UInt8):List UInt8:=64::l
def prevL(s:List UInt8)(i:Nat):Bool:=decide (0<i) && (match s[i - 1]? with | some c=>isL c | none=>false)
theorem bne_of{x y:Int}{b:Bool}(h:(x == y)=b):(x != y) = !b:=by rw [bne,h]
def txtOk(l:List (List UInt8)):Prop:=RisS l/\(∀ s∈l,1<=s.length/\s.length<=25)/\l.length<=1000000
theorem less_true{a b:List UInt8}(h:a<b):Op.bytesLess a b=true:=by rw [Go.Proofs.bytesLess_eq];exact decide_eq_true h
theorem less_false{a b:List UInt8}(h:¬a<b):Op.bytesLess a b=false:=by rw [Go.Proofs.bytesLess_eq];exact decide_eq_false h
theorem dmay_any(was s:List UInt8)(w:World)(h1:1<=s.length)(h2:s.length<=25)(h3:was<s) :
  Calls Tryz.prog 206 #[S was,S s] w fun e w'=>e=.returned (.bool true)/\w=w':=by
 have hl1:=less_false (fun h=>List.lt_irrefl _ (List.lt_trans h h3):¬s<was)
 have he:(s == was)=false:=by
  rw [beq_eq_false_iff_ne];rintro rfl;exact List.lt_irrefl _ h3
 have hne:s.isEmpty=false:=by cases s <;> simp_all
 have hne2:(s == [])=false:=by cases s <;> simp_all
 have hne3:(s != [])=true:=by cases s <;> simp_all
 have i1:(s.length:Int)<=25:=by omega
 clear h3
 go_enter Tryz.func206, Tryz.ntmps206
 go_wp2_with fail
 go_ret
 exact⟨by first | rfl | simp,rfl⟩
theorem byte_at(a:List UInt8)(k:Nat)(h1:k<a.length):∃ x,a[k]=x/\(⟨a.toArray⟩:ByteArray)[k]'(by simpa [ByteArray.size] using h1)=x:=⟨_,rfl,rfl⟩
theorem nat_ne(x y:UInt8)(h:¬x=y):((x.toNat:Int) == (y.toNat:Int))=false:=
 beq_eq_false_iff_ne.2 fun hh=>h (UInt8.toNat_inj.1 (by omega))
theorem dsame_any(a b:List UInt8)(hal:a.length<=1000000000)(w:World) :
  Calls Tryz.prog 208 #[S a,S b] w fun e w'=>e=.returned (N (sameN a b))/\Fr w w':=by
 have HE:=hid (sameN_eq a b)
 generalize sameN a b=Z at *
 go_enter Tryz.func208, Tryz.ntmps208
 go_wp2_with fail
 go_loopw [5] (fun iv wr=>∃ k:Nat,k<=a.length/\k<=b.length/\iv=N k/\Hid (∀ i,i<k->a[i]?=b[i]?)/\Fr w wr) (fun iv _=>a.length - (intOf iv).toNat)
 case atStart=>exact⟨0,Nat.zero_le _,Nat.zero_le _,rfl,hid (fun i h=>by omega),Fr.refl w⟩
 case round=>
  obtain⟨k,hka,hkb,rfl,HA,hf⟩:=hrel
  have i0:(0:Int)<=k:=by omega
  by_cases h1:k<a.length
  · have i1:(k:Int)<a.length:=by omega
    by_cases h2:k<b.length
    · have i2:(k:Int)<b.length:=by omega
      by_cases h3:a[k]=b[k]
      · have HA2:Hid (∀ i,i<k+1->a[i]?=b[i]?):=fun i hi=>by
          by_cases e:i=k
          · subst e;rw [List.getElem?_eq_getElem h1,List.getElem?_eq_getElem h2,h3]
          · exact HA.out i (by omega)
        obtain⟨x,hx,hax⟩:=byte_at a k h1
        obtain⟨y,hy,hby⟩:=byte_at b k h2
        obtain rfl:x=y:=by rw [<- hx,<- hy,h3]
        clear hx hy h3
        go_upto_region 2 with fail
        go_quiet (fail)
        go_wp2_with fail
        exact⟨⟨k+1,by omega,by omega,by go_num,HA2,hf.drewN _⟩,by simp [intOf];omega⟩
      · have hZ:Hid (Z=k):=HE.out k hka hkb HA.out (fun _ _=>by rw [List.getElem?_eq_getElem h1,List.getElem?_eq_getElem h2];simpa using h3)
        obtain⟨x,hx,hax⟩:=byte_at a k h1
        obtain⟨y,hy,hby⟩:=byte_at b k h2
        have hne:=nat_ne x y (by rw [<- hx,<- hy];exact h3)
        clear hx hy h3
        go_upto_region 2 with fail
        go_quiet (fail)
        go_wp2_with fail
        go_ret
        exact⟨by rw [hZ.out];rfl,hf.drewN _⟩
    · have i2:¬(k:Int)<b.length:=by omega
      have hZ:Hid (Z=k):=HE.out k hka hkb HA.out (fun _ h=>absurd h h2)
      go_upto_region 2 with fail
      go_quiet (fail)
      go_wp2_with fail
      go_ret
      exact⟨by rw [hZ.out];rfl,hf.drewN _⟩
  · have i1:¬(k:Int)<a.length:=by omega
    have hZ:Hid (Z=k):=HE.out k hka hkb HA.out (fun h _=>absurd h h1)
    go_upto_region 2 with fail
    go_quiet (fail)
    go_wp2_with fail
    go_ret
    exact⟨by rw [hZ.out];rfl,hf.drewN _⟩
theorem RAlike16_any(a b:List UInt8)(hal:a.length<=1000000000)(w:World) :
  Calls Tryz.prog 149 #[S a,S b] w fun e w'=>e=.returned (N (sameN a b))/\Fr w w':=by
 have HE:=hid (sameN_eq a b)
 generalize sameN a b=Z at *
 go_enter Tryz.func149, Tryz.ntmps149
 go_wp2_with fail
 go_loopw [5] (fun iv wr=>∃ k:Nat,k<=a.length/\k<=b.length/\iv=N k/\Hid (∀ i,i<k->a[i]?=b[i]?)/\Fr w wr) (fun iv _=>a.length - (intOf iv).toNat)
 case atStart=>exact⟨0,Nat.zero_le _,Nat.zero_le _,rfl,hid (fun i h=>by omega),Fr.refl w⟩
 case round=>
  obtain⟨k,hka,hkb,rfl,HA,hf⟩:=hrel
  have i0:(0:Int)<=k:=by omega
  by_cases h1:k<a.length
  · have i1:(k:Int)<a.length:=by omega
    by_cases h2:k<b.length
    · have i2:(k:Int)<b.length:=by omega
      have i3:¬(b.length:Int)<=k:=by omega
      by_cases h3:a[k]=b[k]
      · have HA2:Hid (∀ i,i<k+1->a[i]?=b[i]?):=fun i hi=>by
          by_cases e:i=k
          · subst e;rw [List.getElem?_eq_getElem h1,List.getElem?_eq_getElem h2,h3]
          · exact HA.out i (by omega)
        obtain⟨x,hx,hax⟩:=byte_at a k h1
        obtain⟨y,hy,hby⟩:=byte_at b k h2
        obtain rfl:x=y:=by rw [<- hx,<- hy,h3]
        clear hx hy h3
        go_upto_region 4 with fail
        go_quiet (fail)
        go_wp2_with fail
        exact⟨⟨k+1,by omega,by omega,by go_num,HA2,hf.drewN _⟩,by simp [intOf];omega⟩
      · have hZ:Hid (Z=k):=HE.out k hka hkb HA.out (fun _ _=>by rw [List.getElem?_eq_getElem h1,List.getElem?_eq_getElem h2];simpa using h3)
        obtain⟨x,hx,hax⟩:=byte_at a k h1
        obtain⟨y,hy,hby⟩:=byte_at b k h2
        have hne:=nat_ne x y (by rw [<- hx,<- hy];exact h3)
        have hne2:=bne_of hne
        clear hx hy h3
        go_upto_region 4 with fail
        go_quiet (fail)
        go_wp2_with fail
        go_ret
        exact⟨by rw [hZ.out];rfl,hf.drewN _⟩
    · have i2:(b.length:Int)<=k:=by omega
      have hZ:Hid (Z=k):=HE.out k hka hkb HA.out (fun _ h=>absurd h h2)
      go_upto_region 4 with fail
      go_quiet (fail)
      go_wp2_with fail
      go_ret
      exact⟨by rw [hZ.out];rfl,hf.drewN _⟩
  · have i1:¬(k:Int)<a.length:=by omega
    obtain rfl:k=a.length:=by omega
    have hZ:Hid (Z=a.length):=HE.out _ hka hkb HA.out (fun h _=>absurd h h1)
    go_wp2_with fail
    go_ret
    exact⟨by rw [hZ.out];rfl,hf⟩
set_option maxRecDepth 100000
theorem dmayS_any(was s:List UInt8)(w:World) :
  Calls Tryz.prog 206 #[S was,S s] w fun e w'=>e=.returned (.bool (mayS was s))/\w=w':=by
 by_cases h:1<=s.length/\s.length<=25/\was<s
 · refine(dmay_any was s w h.1 h.2.1 h.2.2).mono ?_
   rintro e w' ⟨rfl,rfl⟩
   have hne:¬s=[]:=by intro e;rw [e]at h;exact absurd h.1 (by decide)
   refine⟨?_,rfl⟩
   unfold mayS
   simp [hne,h.2.1,h.2.2]
 · have HM:Hid (mayS was s=false):=by
     show _=_
     unfold mayS
     cases s with
     | nil=>simp
     | cons c t=>simp at h ⊢;exact h
   by_cases h1:s=[]
   · subst h1
     clear h
     go_enter Tryz.func206, Tryz.ntmps206
     go_wp2_with fail
     go_ret
     exact⟨by rw [HM.out];first | rfl | simp,rfl⟩
   · have hne:s.isEmpty=false:=by cases s <;> simp_all
     have hne2:(s == [])=false:=by cases s <;> simp_all
     have hne3:(s != [])=true:=by cases s <;> simp_all
     by_cases h2:s.length<=25
     · have i1:(s.length:Int)<=25:=by omega
       have hlt:¬was<s:=fun hh=>h ⟨by cases s <;> simp_all,h2,hh⟩
       clear h
       by_cases he:s=was
       · subst he
         clear hlt
         have h3:Op.bytesLess s s=false:=less_false (List.lt_irrefl _)
         go_enter Tryz.func206, Tryz.ntmps206
         go_wp2_with fail
         go_ret
         exact⟨by rw [HM.out];first | rfl | simp,rfl⟩
       · have h4:s<was:=by
           rcases Std.lt_trichotomy s was with h | h | h
           · exact h
           · exact absurd h he
           · exact absurd h hlt
         have h3:Op.bytesLess s was=true:=less_true h4
         clear hlt h4
         go_enter Tryz.func206, Tryz.ntmps206
         go_wp2_with fail
         go_ret
         exact⟨by rw [HM.out];first | rfl | simp,rfl⟩
     · have i1:¬(s.length:Int)<=25:=by omega
       clear h
       go_enter Tryz.func206, Tryz.ntmps206
       go_wp2_with fail
       go_ret
       exact⟨by rw [HM.out];first | rfl | simp,rfl⟩
set_option maxRecDepth 512
theorem j_add(a b:List UInt8):(⟨a.toArray⟩:ByteArray)++⟨b.toArray⟩=⟨(a++b).toArray⟩:=by
 apply ByteArray.ext
 simp
theorem nxM_le(d:Cs)(part was:List UInt8)(first:Bool)(h:(nxR d part was first).2.er=0):(nxM d part was first).1<=was.length:=by
 unfold nxM
 split
 · exact Nat.zero_le _
 · show Cs.val _ _<=_
   unfold Cs.val
   split
   · rename_i h;exact(limL_ok _ _ h.2).2.2
   · exact Nat.zero_le _
theorem nxR_le(d:Cs)(part was:List UInt8)(first:Bool):(nxR d part was first).1.length<=25:=by
 unfold nxR Cs.text
 split
 · by_cases h:(txtL 25 (List.drop (nxM d part was first).2.at_ part)).2.2=0
   · exact(txtL_ok _ _ h).2.2
   · rw [(txtL_no _ _ h).1];exact Nat.zero_le _
 · exact Nat.zero_le _
set_option maxRecDepth 100000
theorem dnext_any(B base:Nat)(d:Cs)(part was:List UInt8)(first:Bool)(w:World)(hc:CurF w 183 B base part d.at_ d.er)(hl:part.length<=1000000)(hw:was.length<=1000) :
  Calls Tryz.prog 192 #[.pointer (some ⟨B,0,none⟩),S was,.bool first] w fun e w'=>∃ u,e=.returned (S u)/\((nxC d part was first).er=0->u=nxS d part was first)/\CurF w' 183 B base part (nxC d part was first).at_ (nxC d part was first).er/\Chg (fun b=>b=B) w w':=by
 have HInt:=hid (Int_cur was.length (by omega) B base d part w hc hl)
 have HText:=hid (fun s W (h:CurF W 183 B base part s.at_ s.er)=>Text_cur 25 (by omega) B base s part W h hl)
 have HErr:=hid (fun n er W h=>CErr_any B base n er part W h)
 have HFail:=hid (fun s W (h:CurF W 183 B base part s.at_ s.er)=>Fail_cur 2 B base s part W h)
 have HM:Hid (nxM d part was first=if first then(0,d)else d.int part was.length):=rfl
 have HRR:Hid (nxR d part was first=(nxM d part was first).2.text part 25):=rfl
 have HC:Hid (nxC d part was first=if(nxR d part was first).2.er=0/\nxOk d part was first=false then⟨(nxR d part was first).2.at_,2⟩else(nxR d part was first).2):=rfl
 have HS:Hid (nxS d part was first=was.take (nxM d part was first).1++(nxR d part was first).1):=rfl
 have HO:Hid (nxOk d part was first=(decide (¬(nxR d part was first).1=[]) && mayS was (nxS d part was first) && (first || decide (sameN was (nxS d part was first)=(nxM d part was first).1)))):=rfl
 have HLe:=hid (nxM_le d part was first)
 have hrl:=nxR_le d part was first
 generalize nxC d part was first=C at *
 generalize nxOk d part was first=ok at *
 generalize nxS d part was first=s at *
 generalize hR:nxR d part was first=R at *
 obtain⟨rest,s2⟩:=R
 have HTx:Hid ((nxM d part was first).2.text part 25=(rest,s2)):=HRR.out.symm
 clear hR HRR
 obtain⟨M,hM⟩:∃ M,M=nxM d part was first:=⟨_,rfl⟩
 rw [<- hM]at HM HTx HO HLe
 have HS2:Hid (s=was.take M.1++rest):=by rw [hM];exact HS.out
 have HCM:=hid hc
 obtain⟨m,s1⟩:=M
 clear hM
 have HT1:=hid (HText.out s1)
 rw [HTx.out]at HT1
 clear hc HS
 go_enter Tryz.func192, Tryz.ntmps192
 go_upto_if 11 with fail
 go_cut [7]from 12 to 16 (fun nv wx=>nv=N m/\CurF wx 183 B base part s1.at_ s1.er/\Chg (fun b=>b=B) w wx)
 case first=>
  cases first
  · have h1:Hid (d.int part was.length=(m,s1)):=HM.out.symm
    rw [h1.out]at HInt
    go_wp2_with fail
    refine(HInt.out).mono ?_
    rintro e w1 ⟨rfl,hC1,hc1⟩
    go_wp2_with fail
    go_meet
    exact⟨rfl,hC1,hc1⟩
  · have h1:(m,s1)=(0,d):=HM.out
    cases h1
    go_wp2_with fail
    go_meet
    exact⟨rfl,HCM.out,Chg.refl _ _⟩
 case rest=>
  obtain⟨rfl,hC1,hc1⟩:=hcut
  have HT2:=hid (HT1.out wc hC1)
  clear HT1 HInt HCM HM hC1
  go_wp2_with fail
  refine(HT2.out).mono ?_
  rintro e w2 ⟨rfl,hC2,hc2⟩
  have hch:=hc1.trans hc2 fun _ _ h=>h
  have HE2:=hid (HErr.out _ _ w2 hC2)
  clear hc1 hc2 HT2
  by_cases he:s2.er=0
  · have hml:=HLe.out he
    rw [he]at HE2
    have hx1:=extract_head was m
    have hx2:(⟨(was.take m).toArray⟩:ByteArray)++⟨rest.toArray⟩=⟨s.toArray⟩:=by rw [j_add,HS2.out]
    have hsl:s.length<=1025:=by rw [HS2.out,List.length_append,List.length_take];have:rest.length<=25:=hrl;omega
    have m1:(m:Int)<=was.length:=by have:m<=was.length:=hml;omega
    have m0:(0:Int)<=m:=by omega
    have hrl2:rest.length<=25:=hrl
    have HMy:=hid (fun W=>dmayS_any was s W)
    have HSm:=hid (fun W=>dsame_any was s (by omega) W)
    have HOk:Hid (ok=(decide (¬rest=[]) && mayS was s && (first || decide (sameN was s=m)))):=HO.out
    have HE:=hid he
    clear he hml hrl HO HLe HS2
    generalize mayS was s=my at *
    generalize sameN was s=sm at *
    go_wp2_with fail
    refine(HE2.out).mono ?_
    rintro e w3 ⟨rfl,rfl⟩
    go_upto_region 8 with fail
    clear HE2 hx1 hx2 m1 m0 hsl hrl2
    go_cut [44]from 26 to 44 (fun cv wx=>cv=.bool (!ok)/\Fr w2 wx)
    case first=>
     by_cases h1:rest=[]
     · have hok:Hid (ok=false):=by show _=_;rw [HOk.out,h1];rfl
       subst h1
       go_wp2_with fail
       go_meet
       exact⟨by rw [hok.out];rfl,Fr.refl _⟩
     · have hne:rest.isEmpty=false:=by cases rest <;> simp_all
       have hne2:(rest == [])=false:=by cases rest <;> simp_all
       have hne3:(rest != [])=true:=by cases rest <;> simp_all
       cases my
       · have hok:Hid (ok=false):=by show _=_;rw [HOk.out];simp
         go_wp2_with fail
         refine(HMy.out w2).mono ?_
         rintro e w4 ⟨rfl,rfl⟩
         go_wp2_with fail
         go_meet
         exact⟨by rw [hok.out];rfl,Fr.refl _⟩
       · cases first
         · have hok:Hid (ok=decide (sm=m)):=by show _=_;rw [HOk.out];simp [h1]
           have hsm:((sm:Int) != m) = !(decide (sm=m)):=by
            rw [Bool.eq_iff_iff];simp;omega
           have HSM:=hid hsm
           clear hsm
           go_wp2_with fail
           refine(HMy.out w2).mono ?_
           rintro e w4 ⟨rfl,rfl⟩
           go_wp2_with fail
           refine(HSm.out w2).mono ?_
           rintro e w5 ⟨rfl,hf5⟩
           go_wp2_with fail
           go_meet
           exact⟨by rw [hok.out,<- HSM.out],hf5⟩
         · have hok:Hid (ok=true):=by show _=_;rw [HOk.out];simp [h1]
           go_wp2_with fail
           refine(HMy.out w2).mono ?_
           rintro e w4 ⟨rfl,rfl⟩
           go_wp2_with fail
           go_meet
           exact⟨by first | (rw [hok.out];done) | (rw [hok.out];rfl),Fr.refl _⟩
    case rest=>
     obtain⟨rfl,hf3⟩:=hcut
     have hC3:=hC2.fr hf3
     have hch3:=hch.trans (hf3.chg (fun b=>b=B)) fun _ _ h=>h
     have HF3:=hid (HFail.out s2 wc hC3)
     clear hC2 hch HMy HSm
     cases ok
     · have h3:Hid (C=⟨s2.at_,2⟩):=by show _=_;rw [HC.out,if_pos ⟨HE.out,rfl⟩]
       have h4:Hid (s2.fail 2=⟨s2.at_,2⟩):=by show _=_;unfold Cs.fail;rw [if_pos HE.out]
       rw [h4.out]at HF3
       go_wp2_with fail
       refine(HF3.out).mono ?_
       rintro e w4 ⟨rfl,hC4,hc4⟩
       go_wp2_with fail
       go_ret
       rw [h3.out]
       exact⟨s,rfl,fun _=>rfl,hC4,hch3.trans hc4 fun _ _ h=>h⟩
     · have h3:Hid (C=s2):=by show _=_;rw [HC.out,if_neg (fun h=>by cases h.2)]
       go_wp2_with fail
       go_ret
       rw [h3.out]
       exact⟨s,rfl,fun _=>rfl,hC3,hch3⟩
  · have h3:Hid (C=s2):=by show _=_;rw [HC.out,if_neg (fun h=>he h.1)]
    have he':¬(s2.er:Int)=0:=by omega
    go_wp2_with fail
    refine(HE2.out).mono ?_
    rintro e w3 ⟨rfl,rfl⟩
    go_wp2_with fail
    go_ret
    rw [h3.out]
    exact⟨[],rfl,fun h=>absurd h he,hC2,hch⟩
set_option maxRecDepth 512
theorem ne_sym{a b:Option Nat}(h:a=none\/a≠b):b=none\/b≠a:=by
 cases b with
 | none=>exact .inl rfl
 | some k=>
  refine .inr fun e=>?_
  rcases h with h | h
  · rw [h]at e;cases e
  · exact h e.symm
structure DictAt (w:World) (g base size:Nat) (t hs:List (List UInt8)):Prop where
 h:∃ tv hv,w.heap[g]?=some (.cells #[tv,N size,hv] 197 (0,0))/\Ow w base eS tv t/\Ow w base eS hv hs/\(tv.ownBlock=none\/tv.ownBlock≠hv.ownBlock)
 lt:g<base
theorem DictAt.fr{w w':World}{g base size:Nat}{t hs:List (List UInt8)}(h:DictAt w g base size t hs)(hf:Fr w w'):DictAt w' g base size t hs:=by
 obtain⟨⟨tv,hv,h1,h2,h3,h4⟩,h5⟩:=h
 exact⟨⟨tv,hv,hf.heap h1,h2.fr hf,h3.fr hf,h4⟩,h5⟩
theorem DictAt.beside{w w':World}{B g base size:Nat}{t hs:List (List UInt8)}{cs:Array Value}{T:TypeId}{f:Nat × Nat}(h:DictAt w g base size t hs)(hb:w.heap[B]?=some (.cells cs T f))(hT:T≠9)(hBg:B≠g)(hc:Chg (fun k=>k=B) w w'):DictAt w' g base size t hs:=by
 obtain⟨⟨tv,hv,h1,h2,h3,h4⟩,h5⟩:=h
 exact⟨⟨tv,hv,hc.heap h1 (fun e=>hBg e.symm),h2.chg hc (fun k hk e=>h2.ne_cells hb hT (by rw [hk,show k=B from e])),h3.chg hc (fun k hk e=>h3.ne_cells hb hT (by rw [hk,show k=B from e])),h4⟩,h5⟩
theorem lastD_str(l:List (List UInt8))(h:0<l.length):l.getLastD []=l[l.length - 1]:=by
 rw [List.getLastD_eq_getLast?,List.getLast?_eq_getElem?,List.getElem?_eq_getElem (by omega)];rfl
theorem lastD_le(l:List (List UInt8))(h:∀ x∈l,x.length<=25):(l.getLastD []).length<=25:=by
 rcases Nat.eq_zero_or_pos l.length with h0 | h0
 · rw [List.eq_nil_of_length_eq_zero h0];exact Nat.zero_le _
 · rw [lastD_str l h0];exact h _ (List.getElem_mem _)
theorem nxS_le(d:Cs)(part was:List UInt8)(first:Bool)(h:(nxC d part was first).er=0):(nxS d part was first).length<=25:=by
 unfold nxC at h
 split at h
 · cases h
 · rename_i h1
   have h2:nxOk d part was first=true:=by
    cases hh:nxOk d part was first
    · exact absurd ⟨h,hh⟩ h1
    · rfl
   unfold nxOk mayS at h2
   simp only [Bool.and_eq_true,decide_eq_true_eq]at h2
   exact h2.1.2.1.2
theorem fillGo_step(part:List UInt8)(n i:Nat)(d:Cs)(t:List (List UInt8))(h:i<n):fillGo part (n - i) i d t=if(nxC d part (t.getLastD []) (decide (i=0))).er=0 then fillGo part (n - (i+1)) (i+1) (nxC d part (t.getLastD []) (decide (i=0))) (t++[nxS d part (t.getLastD []) (decide (i=0))])else(t,(nxC d part (t.getLastD []) (decide (i=0))).er):=by
 rw [show n - i=(n - (i+1))+1 by omega,fillGo]
set_option maxRecDepth 100000
theorem fill_any(g base size n:Nat)(v:Value)(part:List UInt8)(t0 hs0:List (List UInt8))(w:World)(hD:DictAt w g base size t0 hs0)(hs:See w eB v part)(hl:part.length<=1000000)(hn:n<=100000)(ht:∀ x∈t0,x.length<=25)(htl:t0.length<=100000000)(hhl:hs0.length<=100000000)(hb:base<=w.heap.size) :
  Calls Tryz.prog 134 #[.pointer (some ⟨g,0,none⟩),v,N n] w fun e w'=>e=.returned (.int .i64 ((fillGo part n 0 ⟨0,0⟩ t0).2:Int))/\(∃ hs,hs.length<=hs0.length+1/\DictAt w' g base size (fillGo part n 0 ⟨0,0⟩ t0).1 hs)/\Chg (fun k=>k=g\/base<=k) w w':=by
 have HNew:=hid (New_any v part w hs hl)
 have HNx:=hid (fun B base d was first W h hw=>dnext_any B base d part was first W h hl hw)
 have HErr:=hid (fun B base n er W h=>CErr_any B base n er part W h)
 have HEnd:=hid (fun B base s W h=>End_cur B base s part W h)
 obtain⟨F,hF⟩:∃ F,F=fillGo part n 0 ⟨0,0⟩ t0:=⟨_,rfl⟩
 rw [<- hF]
 have HF:Hid (F=fillGo part (n - 0) 0 ⟨0,0⟩ t0):=hF
 clear hF
 have HSt:=hid (fillGo_step part n)
 have hgb:=hD.lt
 obtain⟨a0,cap,hv,_⟩:=hs.shape
 subst hv
 clear hs
 go_enter Tryz.func134, Tryz.ntmps134
 go_wp2_with fail
 refine(HNew.out).mono ?_
 rintro e w1 ⟨B,rfl,hC,hf1,hB⟩
 have hD1:=hD.fr hf1
 have hBg:B≠g:=by omega
 have hz1:base<=w1.heap.size:=Nat.le_trans hb hf1.size
 have hBb:base<=B:=by omega
 clear HNew hD
 go_wp2_with fail
 go_loopw [15] (fun iv wr=>∃ (i:Nat) (d:Cs) (t hs:List (List UInt8)),i<=n/\iv=N i/\Hid (d.er=0)/\Hid (∀ x∈t,x.length<=25)/\t.length<=100000000+i/\hs.length<=hs0.length+1/\Hid (i=0->hs.length<=hs0.length)/\DictAt wr g base size t hs/\CurF wr 183 B w.heap.size part d.at_ d.er/\Chg (fun k=>k=g\/base<=k) w wr/\base<=wr.heap.size/\Hid (F=fillGo part (n - i) i d t)) (fun iv _=>n - (intOf iv).toNat)
 case atStart=>exact⟨0,⟨0,0⟩,t0,hs0,Nat.zero_le _,rfl,rfl,ht,by omega,by omega,fun _=>Nat.le_refl _,hD1,hC,hf1.chg _,hz1,HF.out⟩
 case round=>
  clear hD1 hC hf1 HF
  obtain⟨i,d,t,hs,hi,rfl,HEr,H25,htl,hhl,HH0,hD,hC,hch,hz,HFk⟩:=hrel
  obtain⟨tv,hv,hG,hT,hH,hne⟩:=hD.h
  obtain⟨ta,tc,htv⟩:=hT.shape'
  subst htv
  have c0:wr.cell? ⟨g,0,none⟩=some (.slice ta t.length tc):=by rw [cell_of_heap hG];rfl
  by_cases hlt:i<n
  · have i1:(i:Int)<n:=by omega
    have HS1:=hid (HSt.out i d t hlt)
    have hwl:=lastD_le t H25.out
    have HCM:=hid hC
    have HTs:=hid hT.see
    clear hC
    go_upto_if 24 with fail
    go_cut [9]from 25 to 39 (fun wv wx=>wv=S (t.getLastD [])/\Qt wr wx)
    case first=>
     by_cases ht0:0<t.length
     · obtain⟨b5,o5,p5,hv5,e5⟩:=HTs.out.cell1 (fun s:List UInt8=>S s) rfl (t.length - 1) (by omega)
       rw [<- lastD_str t ht0]at e5
       cases hv5
       have l0:(0:Int)<t.length:=by omega
       have l1:IntKind.i64.wrap ((t.length:Int) - 1)=(t.length:Int) - 1:=IntWalk.i64_in _ (by omega)
       have l2:(0:Int)<=(t.length:Int) - 1:=by omega
       have l3:((t.length:Int) - 1).toNat=t.length - 1:=by omega
       have l4:(t.length:Int) - 1<t.length:=by omega
       generalize t.getLastD []=ls at *
       clear hT hG
       go_wp2_with fail
       go_quiet (fail)
       go_wp2_with fail
       go_meet
       exact⟨rfl,Qt.drewN _ _⟩
     · have ht00:t=[]:=List.eq_nil_of_length_eq_zero (by omega)
       subst ht00
       go_wp2_with fail
       go_meet
       exact⟨rfl,Qt.refl _⟩
    case rest=>
     obtain⟨rfl,hq⟩:=hcut
     have hfq:=hq.fr
     have hdi:decide ((i:Int)=0)=decide (i=0):=by rw [Bool.eq_iff_iff];simp
     have HN1:=hid (HNx.out B _ d (t.getLastD []) (decide (i=0)) wc (HCM.out.fr hfq) (by omega))
     have HS25:=hid (nxS_le d part (t.getLastD []) (decide (i=0)))
     generalize nxC d part (t.getLastD []) (decide (i=0))=d2 at *
     generalize nxS d part (t.getLastD []) (decide (i=0))=s at *
     generalize t.getLastD []=ls at *
     have hD2:=hD.fr hfq
     have hch2:=hch.trans (hfq.chg (fun k=>k=g\/base<=k)) fun _ _ h=>h
     have hz2:=Nat.le_trans hz hfq.size
     obtain⟨bcs,hbx⟩:=(HCM.out.fr hfq).cbox
     have HH:=hid hhl
     have HTl:=hid htl
     clear hD hch hz hG hT hH hne c0 HCM HTs hwl hfq hhl htl
     rw [<- hdi]at HN1
     go_wp2_with fail
     refine(HN1.out).mono ?_
     rintro e w5 ⟨s',rfl,hse,hC5,hc5⟩
     have hD5:=hD2.beside hbx (by decide) hBg hc5
     have hch5:=hch2.trans (G':=fun k=>k=B) hc5 fun k _ e=>.inr (by have e:k=B:=e;omega)
     have hz5:=Nat.le_trans hz2 hc5.size
     have HE5:=hid (HErr.out B _ _ _ w5 hC5)
     clear HN1 hD2 hch2 hbx hc5
     by_cases he:d2.er=0
     · rw [if_pos he]at HS1
       obtain rfl:=hse he
       rw [he]at HE5
       have HFn:Hid (F=fillGo part (n - (i+1)) (i+1) d2 (t++[s'])):=HFk.out.trans HS1.out
       have h25n:Hid (∀ x∈t++[s'],x.length<=25):=fun x hx=>by
        rcases List.mem_append.1 hx with h | h
        · exact H25.out x h
        · rw [List.mem_singleton.1 h];exact HS25.out he
       have HE2:=hid he
       obtain⟨tv,hv,hG,hT,hH,hne⟩:=hD5.h
       obtain⟨ta,tc,htv⟩:=hT.shape'
       subst htv
       have c0:w5.cell? ⟨g,0,none⟩=some (.slice ta t.length tc):=by rw [cell_of_heap hG];rfl
       have HC1:Hid (t.length+[s'].length<=2147483648):=by have:=HTl.out;show _<=_;simp;omega
       have hgb:=hD5.lt
       clear HFk HS1 he hse hD5
       go_wp2_with fail
       refine(HE5.out).mono ?_
       rintro e w6 ⟨rfl,rfl⟩
       go_wp2_with (at_builtin;refine wpList_app1 eS rfl (.tmp 54) (.tmp 56) 33 rfl Tryz.underlying33 base rfl hT [s'] _ _ _ rfl rfl rfl HC1.out hz5 ?_)
       intro v7 w7 hap
       obtain⟨va,vc,hv7⟩:=hap.own.shape'
       rw [show(t++[s']).length=t.length+1 from by simp]at hv7
       subst hv7
       have hG7:=hap.chg'.heap hG (fun e=>by have:=(hT.lt _ e).1;omega)
       have e3:w7.cell? ⟨g,0,none⟩=some (.slice ta t.length tc):=by rw [cell_of_heap hG7];rfl
       have e4:=frozen_of_heap hG7 0
       have hH7:=hap.other hH (ne_sym hne)
       have hne7:=ne_sym (hap.apart hH (ne_sym hne))
       have hC7:=hC5.app hT hap (by decide) (by decide)
       have hch7:Chg (fun k=>k=g\/base<=k) w w7:=hch5.trans hap.chg' fun k _ e=>.inr (hT.lt k e).1
       have hz7:=Nat.le_trans hz5 hap.size
       have hst:=setCell_chg w7 ⟨g,0,none⟩ (.slice va (t.length+1) vc)
       have hG8:=heap_setCell_own hG7 0 (.slice va (t.length+1) vc)
       have hT8:=own_set_other (i:=0) (u:=.slice va (t.length+1) vc) hap.own hgb
       have hH8:=own_set_other (i:=0) (u:=.slice va (t.length+1) vc) hH7 hgb
       have hC8:CurF (w7.setCell ⟨g,0,none⟩ (.slice va (t.length+1) vc)) 183 B w.heap.size part d2.at_ d2.er:=by
        obtain⟨⟨x,h1,h2⟩,h3⟩:=hC7
        exact⟨⟨x,hst.heap h1 hBg,h2.chg hst (fun k hk e=>h2.ne_cells hG7 (by decide) (by rw [hk,show k=g from e]))⟩,h3⟩
       have hch8:Chg (fun k=>k=g\/base<=k) w (w7.setCell ⟨g,0,none⟩ (.slice va (t.length+1) vc)):=hch7.trans hst fun k _ e=>.inl e
       have hz8:base<=(w7.setCell ⟨g,0,none⟩ (.slice va (t.length+1) vc)).heap.size:=Nat.le_trans hz7 hst.size
       have hTl:=HTl.out
       have HTn:Hid ((t++[s']).length<=100000000+(i+1)):=by show _<=_;simp;omega
       have hGv:(w7.setCell ⟨g,0,none⟩ (.slice va (t.length+1) vc)).heap[g]?=some (.cells #[.slice va (t.length+1) vc,N size,hv] 197 (0,0)):=hG8
       have d2c:(w7.setCell ⟨g,0,none⟩ (.slice va (t.length+1) vc)).cell? ⟨g,2,none⟩=some hv:=by rw [cell_of_heap hGv];rfl
       clear hG8 hst hC7 hch7 hz7 hH7 hap hC5 hch5 hH hT hne HE5 c0 hG hTl
       by_cases hi0:i=0
       · have k0:(i:Int)=0:=by omega
         have k1:((i:Int) == 0)=true:=by rw [beq_iff_eq];exact k0
         have HI0:=hid hi0
         have hhl:=HH.out
         have hh0:=HH0.out hi0
         have HC2:Hid (hs.length+[s'].length<=2147483648):=by show _<=_;simp;omega
         obtain⟨ha,hcp,hhv⟩:=hH8.shape'
         subst hhv
         clear hi0 k0
         go_wp2_with (at_builtin;refine wpList_app1 eS rfl (.tmp 67) (.tmp 69) 33 rfl Tryz.underlying33 base rfl hH8 [s'] _ _ _ rfl rfl (show Value.slice (some ⟨w7.heap.size,0,none⟩) 1 1=_ by simp [World.setCell]) HC2.out hz8 ?_)
         intro v9 w9 hap
         obtain⟨vb,vd,hv9⟩:=hap.own.shape'
         rw [show(hs++[s']).length=hs.length+1 from by simp]at hv9
         subst hv9
         have hG9:=hap.chg'.heap hGv (fun e=>by have:=(hH8.lt _ e).1;omega)
         have e5:w9.cell? ⟨g,2,none⟩=some (.slice ha hs.length hcp):=by rw [cell_of_heap hG9];rfl
         have e6:=frozen_of_heap hG9 2
         have hT9:=hap.other hT8 hne7
         have hne9:=hap.apart hT8 hne7
         have hC9:=hC8.app hH8 hap (by decide) (by decide)
         have hch9:Chg (fun k=>k=g\/base<=k) w w9:=hch8.trans hap.chg' fun k _ e=>.inr (hH8.lt k e).1
         have hz9:=Nat.le_trans hz8 hap.size
         have hst:=setCell_chg w9 ⟨g,2,none⟩ (.slice vb (hs.length+1) vd)
         have hGa:=heap_setCell_own hG9 2 (.slice vb (hs.length+1) vd)
         have hTa:=own_set_other (i:=2) (u:=.slice vb (hs.length+1) vd) hT9 hgb
         have hHa:=own_set_other (i:=2) (u:=.slice vb (hs.length+1) vd) hap.own hgb
         have hCa:CurF (w9.setCell ⟨g,2,none⟩ (.slice vb (hs.length+1) vd)) 183 B w.heap.size part d2.at_ d2.er:=by
          obtain⟨⟨x,h1,h2⟩,h3⟩:=hC9
          exact⟨⟨x,hst.heap h1 hBg,h2.chg hst (fun k hk e=>h2.ne_cells hG9 (by decide) (by rw [hk,show k=g from e]))⟩,h3⟩
         have hcha:Chg (fun k=>k=g\/base<=k) w (w9.setCell ⟨g,2,none⟩ (.slice vb (hs.length+1) vd)):=hch9.trans hst fun k _ e=>.inl e
         have hza:base<=(w9.setCell ⟨g,2,none⟩ (.slice vb (hs.length+1) vd)).heap.size:=Nat.le_trans hz9 hst.size
         clear hst hC9 hch9 hz9 hT9 hap hC8 hch8 hz8 hT8 hH8 hne7 hGv
         go_wp2_with fail
         go_roundw
         case rel=>exact⟨i+1,d2,t++[s'],hs++[s'],by omega,by go_num,HE2.out,h25n.out,HTn.out,by rw [List.length_append];show hs.length+1<=_;omega,fun h=>by omega,⟨⟨_,_,hGa,hTa,hHa,hne9⟩,hgb⟩,hCa,hcha,hza,HFn.out⟩
         case measure=>simp [intOf];omega
       · have k0:¬(i:Int)=0:=by omega
         have k1:((i:Int) == 0)=false:=by rw [beq_eq_false_iff_ne];exact k0
         go_wp2_with fail
         go_roundw
         case rel=>exact⟨i+1,d2,t++[s'],hs,by omega,by go_num,HE2.out,h25n.out,HTn.out,HH.out,fun h=>by omega,⟨⟨_,hv,hGv,hT8,hH8,hne7⟩,hgb⟩,hC8,hch8,hz8,HFn.out⟩
         case measure=>simp [intOf];omega
     · rw [if_neg he]at HS1
       have he':¬(d2.er:Int)=0:=by omega
       have HFe:Hid (F=(t,d2.er)):=HFk.out.trans HS1.out
       clear HFk HS1 hse
       go_wp2_with fail
       refine(HE5.out).mono ?_
       rintro e w6 ⟨rfl,rfl⟩
       go_wp2_with fail
       go_ret
       rw [HFe.out]
       exact⟨rfl,⟨hs,HH.out,hD5⟩,hch5⟩
  · obtain rfl:i=n:=by omega
    have hnl:¬((i:Int)<i):=by omega
    have HFe:Hid (F=(t,(d.fin part).er)):=by show _=_;rw [HFk.out,Nat.sub_self];rfl
    have HEn:=hid (HEnd.out B _ d wr hC)
    obtain⟨bcs,hbx⟩:=hC.cbox
    have HD:=hid hD
    clear HFk hT hH hne hD hG
    go_wp2_with fail
    refine(HEn.out).mono ?_
    rintro e w5 ⟨rfl,hC5,hc5⟩
    have hD5:=HD.out.beside hbx (by decide) hBg hc5
    have hch5:=hch.trans (G':=fun k=>k=B) hc5 fun k _ e=>.inr (by have e:k=B:=e;omega)
    go_wp2_with fail
    go_ret
    rw [HFe.out]
    exact⟨rfl,⟨hs,hhl,hD5⟩,hch5⟩
set_option maxRecDepth 512
theorem fillGo_ok(part:List UInt8)(k:Nat):∀ (i:Nat) (d:Cs) (t:List (List UInt8)),(∀ x∈t,x.length<=25)->(∀ x∈(fillGo part k i d t).1,x.length<=25)/\(fillGo part k i d t).1.length<=t.length+k:=by
 induction k with
 | zero=>intro i d t h;exact⟨h,Nat.le_refl _⟩
 | succ k ih=>
  intro i d t h
  rw [fillGo]
  split
  · rename_i h1
    have h2 := ih (i + 1) (nxC d part (t.getLastD []) (decide (i = 0))) (t ++ [nxS d part (t.getLastD []) (decide (i = 0))]) (fun x hx => by
     rcases List.mem_append.1 hx with hx | hx
     · exact h x hx
     · rw [List.mem_singleton.1 hx]; exact nxS_le _ _ _ _ h1)
    rw [List.length_append]at h2
    simp only [List.length_singleton]at h2
    exact⟨h2.1,by omega⟩
  · exact⟨h,by show t.length<=_;omega⟩
theorem take_len(s:Cs)(l:List UInt8)(k:Nat):(s.take l k).1.length<=l.length:=by
 unfold Cs.take
 split
 · split
   · exact Nat.zero_le _
   · show((l.drop s.at_).take k).length<=_
     rw [List.length_take,List.length_drop];omega
 · exact Nat.zero_le _
theorem dictGo_step(b:List UInt8)(size n:Nat)(l:List Nat)(i:Nat)(s:Cs)(t:List (List UInt8))(h:i<l.length):dictGo b size n (l.drop i) i s t=if(s.take b l[i]).2.er=0 then(if(fillGo (s.take b l[i]).1 (min size (n - i*size)) 0 ⟨0,0⟩ t).2=0 then dictGo b size n (l.drop (i+1)) (i+1) (s.take b l[i]).2 (fillGo (s.take b l[i]).1 (min size (n - i*size)) 0 ⟨0,0⟩ t).1 else([],(s.take b l[i]).2,(fillGo (s.take b l[i]).1 (min size (n - i*size)) 0 ⟨0,0⟩ t).2))else([],(s.take b l[i]).2,(s.take b l[i]).2.er):=by
 rw [List.drop_eq_getElem_cons h,dictGo]
theorem CurF.under{w w':World}{B base n er g:Nat}{T:TypeId}{l:List UInt8}(h:CurF w T B base l n er)(hBg:B<g)(hc:Chg (fun k=>k=g\/g+1<=k) w w'):CurF w' T B base l n er:=by
 obtain⟨⟨x,h1,h2⟩,h3⟩:=h
 exact⟨⟨x,hc.heap h1 (fun e=>by omega),h2.chg hc (fun k hk e=>by have:=h2.top k hk;omega)⟩,h3⟩
theorem szGo_nil(b:List UInt8)(k:Nat)(s:Cs)(l:List Nat)(h:¬s.er=0):szGo b k s l=(l,s):=by
 cases k with
 | zero=>rfl
 | succ k=>rw [szGo,if_neg h]
theorem szGo_len(b:List UInt8)(k:Nat):∀ (s:Cs) (l:List Nat),(szGo b k s l).1.length<=l.length+k:=by
 induction k with
 | zero=>intro s l;exact Nat.le_refl _
 | succ k ih=>
  intro s l
  rw [szGo]
  split
  · have:=ih (s.int b 2000).2 (l++[(s.int b 2000).1])
    rw [List.length_append]at this
    simp at this
    omega
  · show l.length<=_;omega
theorem ceil_lt(n size j:Nat)(h:1<=size):j<(n+size - 1) / size↔j*size<n:=by
 rw [Nat.lt_iff_add_one_le,Nat.le_div_iff_mul_le (by omega),Nat.succ_mul]
 omega
set_option maxRecDepth 100000
theorem DRead_any (size : Nat) (h1 : 1 ≤ size) (h2 : size ≤ 64) (v : Value) (b : List UInt8) (w : World) (hs : See w eB v b) (hl : b.length ≤ 1000000) :
    Calls Tryz.prog 85 #[N size,v] w fun e w'=>∃ pv,e=.returned (.tuple #[pv,N (dictR size b).2.1,.int .i64 ((dictR size b).2.2:Int)])/\Fr w w'/\((dictR size b).2.2=0->∃ g base hs,pv=.pointer (some ⟨g,0,none⟩)/\w.heap.size<=g/\DictAt w' g base size (dictR size b).1 hs):=by
  have HNew:=hid (New_any v b w hs hl)
  have HInt:=hid (fun most hm B base s W h=>Int_cur most hm B base s b W h hl)
  have HErr:=hid (fun B base n er W h=>CErr_any B base n er b W h)
  have HAt:=hid (fun B base n er W h=>At_cur B base n er b W h)
  have HTake:=hid (fun B base k s W h hb=>Take_cur B base k s b W h hl hb)
  have HR:Hid (dictR size b=if(dictGo b size (dictN b).1 (szGo b (((dictN b).1+size - 1) / size) (dictN b).2 []).1 0 (szGo b (((dictN b).1+size - 1) / size) (dictN b).2 []).2 []).2.2=0 then((dictGo b size (dictN b).1 (szGo b (((dictN b).1+size - 1) / size) (dictN b).2 []).1 0 (szGo b (((dictN b).1+size - 1) / size) (dictN b).2 []).2 []).1,(dictGo b size (dictN b).1 (szGo b (((dictN b).1+size - 1) / size) (dictN b).2 []).1 0 (szGo b (((dictN b).1+size - 1) / size) (dictN b).2 []).2 []).2.1.at_,0)else([],0,(dictGo b size (dictN b).1 (szGo b (((dictN b).1+size - 1) / size) (dictN b).2 []).1 0 (szGo b (((dictN b).1+size - 1) / size) (dictN b).2 []).2 []).2.2)):=rfl
  have HN:Hid (dictN b=(⟨0,0⟩:Cs).int b 1048576):=rfl
  have hnl:(dictN b).1<=1048576:=by
    show Cs.val _ _<=_
    unfold Cs.val
    split
    · rename_i h;exact(limL_ok _ _ h.2).2.2
    · exact Nat.zero_le _
  generalize dictR size b=R at *
  generalize hDN:dictN b=DN at *
  obtain⟨n,s0⟩:=DN
  have hn:n<=1048576:=hnl
  have hK:=szGo_len b ((n+size - 1) / size) s0 []
  have hce:=ceil_lt n size
  obtain⟨Z,hZ⟩:∃ Z,Z=szGo b ((n+size - 1) / size - 0) s0 []:=⟨_,rfl⟩
  have HR2:Hid (R=if(dictGo b size n Z.1 0 Z.2 []).2.2=0 then((dictGo b size n Z.1 0 Z.2 []).1,(dictGo b size n Z.1 0 Z.2 []).2.1.at_,0)else([],0,(dictGo b size n Z.1 0 Z.2 []).2.2)):=by rw [hZ];exact HR.out
  have hZl:Z.1.length<=(n+size - 1) / size:=by rw [hZ];simpa using hK
  have HZ:=hid hZ
  have HCe:=hid (hce · h1)
  have hKn:(n+size - 1) / size<=1048640:=Nat.le_trans (Nat.div_le_self _ _) (by omega)
  clear hZ hK hce hnl HR hDN
  generalize (n+size - 1) / size=K at *
  have z1:¬(size:Int)<1:=by omega
  have z2:¬(64:Int)<size:=by omega
  obtain⟨a0,cap,hv,_⟩:=hs.shape
  subst hv
  clear hs
  go_enter Tryz.func85, Tryz.ntmps85
  go_wp2_with fail
  refine(HNew.out).mono ?_
  rintro e w1 ⟨B,rfl,hC,hf1,hB⟩
  have HI1:=hid (HInt.out 1048576 (by omega) B _ ⟨0,0⟩ w1 hC)
  rw [<- HN.out]at HI1
  have hBw:=hC.lt
  have hsz1:=hf1.size
  clear HNew hC
  go_wp2_with fail
  refine(HI1.out).mono ?_
  rintro e w2 ⟨rfl,hC2,hc2⟩
  have hf2:Fr w w2:=((hf1.chg (fun b=>b=B)).trans hc2 fun _ _ h=>h).fr (fun k hk e=>by omega)
  have hs2:=hc2.size
  clear HI1 hc2
  go_upto_block 0 with fail
  go_cut [9,10]from 28 to 44 (fun zv _ wx=>∃ (l:List Nat) (s:Cs),Z=(l,s)/\Ow wx w1.heap.size eJ zv l/\CurF wx 183 B w.heap.size b s.at_ s.er/\Fr w wx/\w1.heap.size<=wx.heap.size)
  case first=>
    go_wp2_with fail
    go_loopw [9,10] (fun zv av wr=>∃ (j at_:Nat) (s:Cs) (l:List Nat),j<=K/\l.length=j/\av=N at_/\at_<=n+64/\Hid (at_=j*size)/\Ow wr w1.heap.size eJ zv l/\CurF wr 183 B w.heap.size b s.at_ s.er/\Fr w wr/\w1.heap.size<=wr.heap.size/\Hid (Z=szGo b (K - j) s l)) (fun _ av _=>n - (intOf av).toNat)
    case atStart=>exact⟨0,0,s0,[],Nat.zero_le _,rfl,rfl,by omega,by show 0=_;simp,Ow.nil,hC2,hf2,hs2,HZ.out⟩
    case round=>
      clear hC2 hf2 HZ
      obtain⟨j,at_,s,l,hj,hlj,rfl,hat,HAt_,hO,hC,hf,hz,HZk⟩:=hrel
      have HLj:=hid hlj
      obtain⟨za,zc,hzv⟩:=hO.shape'
      rw [hlj]at hzv
      subst hzv
      clear hlj
      have HE1:=hid (HErr.out B _ s.at_ s.er wr hC)
      by_cases hlt:at_<n
      · have i1:(at_:Int)<n:=by omega
        have hjK:j<K:=(HCe.out j).2 (by rw [<- HAt_.out];exact hlt)
        by_cases he:s.er=0
        · have HZ2:Hid (Z=szGo b (K - (j+1)) (s.int b 2000).2 (l++[(s.int b 2000).1])):=by
            show _=_;rw [HZk.out,show K - j=(K - (j+1))+1 by omega,szGo,if_pos he]
          have HI:=hid (HInt.out 2000 (by omega) B _ s wr hC)
          rw [he]at HE1
          have HC1:Hid (l.length+[(s.int b 2000).1].length<=2147483648):=by have:=HLj.out;show _<=_;simp;omega
          obtain⟨bcs,hbx⟩:=hC.cbox
          have HO:=hid hO
          have hnx:at_+size<=n+64:=by omega
          have HAn:Hid (at_+size=(j+1)*size):=by show _=_;rw [HAt_.out,Nat.succ_mul]
          clear hO hC he HZk
          generalize (s.int b 2000).1=x at *
          generalize (s.int b 2000).2=s2 at *
          go_wp2_with fail
          refine(HE1.out).mono ?_
          rintro e w3 ⟨rfl,rfl⟩
          go_wp2_with fail
          refine(HI.out).mono ?_
          rintro e w3 ⟨rfl,hC3,hc3⟩
          have hO3:=HO.out.chg hc3 (fun i hi e=>HO.out.ne_cells hbx (by decide) (by rw [hi,show i=B from e]))
          have hf3:Fr w w3:=((hf.chg (fun b=>b=B)).trans hc3 fun _ _ h=>h).fr (fun k hk e=>by omega)
          have hz3:=Nat.le_trans hz hc3.size
          clear HE1 HI HO hbx hc3
          go_wp2_with (at_builtin;refine wpList_app1 eJ rfl (.tmp 39) (.tmp 42) 30 rfl Tryz.underlying30 w1.heap.size rfl hO3 [x] _ _ _ rfl rfl rfl HC1.out hz3 ?_)
          intro v4 w4 hap
          have hC4:=hC3.app hO3 hap (by decide) (by decide)
          have hf4:=hap.below hO3 hf3 hsz1 hf3.size
          have hz4:=Nat.le_trans hz3 hap.size
          have hlj:=HLj.out
          go_wp2_with fail
          go_roundw
          case rel=>exact⟨j+1,at_+size,s2,l++[x],by omega,by rw [List.length_append,hlj];rfl,by go_num,hnx,HAn.out,hap.own,hC4,hf4,hz4,HZ2.out⟩
          case measure=>simp [intOf];omega
        · have HZ2:Hid (Z=(l,s)):=by show _=_;rw [HZk.out,szGo_nil _ _ _ _ he]
          have he':¬(s.er:Int)=0:=by omega
          clear HZk
          go_wp2_with fail
          refine(HE1.out).mono ?_
          rintro e w3 ⟨rfl,rfl⟩
          go_wp2_with fail
          go_meet
          exact⟨l,s,HZ2.out,hO,hC,hf,hz⟩
      · have hjK:j=K:=by
          rcases Nat.lt_or_ge j K with h | h
          · have:=(HCe.out j).1 h;rw [<- HAt_.out]at this;omega
          · omega
        have HZ2:Hid (Z=(l,s)):=by show _=_;rw [HZk.out,hjK,Nat.sub_self];rfl
        have i1:¬(at_:Int)<n:=by omega
        clear HZk hjK hj
        go_wp2_with fail
        go_meet
        exact⟨l,s,HZ2.out,hO,hC,hf,hz⟩
  case rest=>
    obtain⟨l,s,hZe,hO,hC,hf,hz⟩:=hcut
    rw [hZe]at HR2 hZl
    have hlK:l.length<=K:=hZl
    obtain⟨za,zc,hzv⟩:=hO.shape'
    subst hzv
    have hzb:∀ k,(Value.slice za l.length zc).ownBlock=some k->k<wc.heap.size:=fun k hk=>(hO.lt k hk).2
    have hg0:(wc.alloc (.cells #[.slice none 0 0,N size,.slice none 0 0] 197)).heap[wc.heap.size]?=some (.cells #[.slice none 0 0,N size,.slice none 0 0] 197 (0,0)):=heap_new _ _ _ rfl
    have hfa:Fr wc (wc.alloc (.cells #[.slice none 0 0,N size,.slice none 0 0] 197)):=(Fr.refl wc).alloc _
    have hza:wc.heap.size+1<=(wc.alloc (.cells #[.slice none 0 0,N size,.slice none 0 0] 197)).heap.size:=by simp
    have hBg:B<wc.heap.size:=hC.lt
    have hwg:w.heap.size<=wc.heap.size:=hf.size
    have hOa:=hO.fr hfa
    have hCa:=hC.fr hfa
    have hfw:=hf.trans hfa
    obtain⟨DR,hDR⟩:∃ DR,DR=dictGo b size n (l.drop 0) 0 s []:=⟨_,rfl⟩
    have HR3:Hid (R=if DR.2.2=0 then(DR.1,DR.2.1.at_,0)else([],0,DR.2.2)):=by rw [hDR];exact HR2.out
    have HD:=hid hDR
    clear hDR HR2 hZe hZl hO hC hf hz HN HInt
    go_wp2_with fail
    generalize wc.alloc (.cells #[.slice none 0 0,N size,.slice none 0 0] 197)=W0 at *
    generalize wc.heap.size=g at *
    have hD0:DictAt W0 g (g+1) size [] []:=⟨⟨_,_,hg0,Ow.nil,Ow.nil,.inl rfl⟩,by omega⟩
    go_loopw [49] (fun iv wr=>∃ (i:Nat) (s:Cs) (t hs:List (List UInt8)),i<=l.length/\iv=N i/\Hid (∀ x∈t,x.length<=25)/\t.length<=i*64/\hs.length<=i/\DictAt wr g (g+1) size t hs/\Ow wr w1.heap.size eJ (.slice za l.length zc) l/\CurF wr 183 B w.heap.size b s.at_ s.er/\Fr w wr/\g+1<=wr.heap.size/\Hid (DR=dictGo b size n (l.drop i) i s t)) (fun iv _=>l.length - (intOf iv).toNat)
    case atStart=>exact⟨0,s,[],[],Nat.zero_le _,rfl,(show ∀ x∈([]:List (List UInt8)),x.length<=25 from fun x hx=>(List.not_mem_nil hx).elim),Nat.zero_le _,Nat.zero_le _,hD0,hOa,hCa,hfw,hza,HD.out⟩
    case round=>
      clear hD0 hOa hCa hfw hza HD hg0 hfa
      obtain⟨i,s,t,hs,hi,rfl,H25,htl,hhl,hD,hO,hC,hf,hz,HDk⟩:=hrel
      by_cases hlt:i<l.length
      · have hiK:=(HCe.out i).1 (by omega)
        have HS1:=hid (dictGo_step b size n l i s t hlt)
        obtain⟨b5,o5,p5,hv5,e5⟩:=hO.see.cell1 N rfl i hlt
        cases hv5
        have e6:wr.cell? ⟨b5,o5+i,none⟩=some (N l[i]):=e5
        have HT1:=hid (HTake.out B _ l[i] s wr hC (by omega))
        have htk:=take_len s b l[i]
        have hmm:min size (n - i*size)<=64:=by omega
        have HFo:=hid (fun part=>fillGo_ok part (min size (n - i*size)) 0 ⟨0,0⟩ t H25.out)
        obtain⟨q,hq⟩:∃ q,q=i*size:=⟨_,rfl⟩
        rw [<- hq]at hiK HS1 hmm HFo
        have hnk:IntKind.i64.wrap ((i:Int)*size)=(q:Int):=by rw [show(i:Int)*size=((i*size:Nat):Int) by simp,hq];exact IntWalk.i64_in _ (by omega)
        have hnk2:IntKind.i64.wrap ((n:Int) - q)=((n - q:Nat):Int):=by rw [IntWalk.i64_in _ (by omega)];omega
        have HQq:=hid hq
        clear hq
        obtain⟨bcs,hbx⟩:=hC.cbox
        have i1:(0:Int)<=i:=by omega
        have i2:(i:Int)<l.length:=by omega
        have HO:=hid hO
        have HDd:=hid hD
        clear e5 hO hC hD
        generalize (s.take b l[i]).1=part at *
        generalize (s.take b l[i]).2=s2 at *
        generalize l[i]=k at *
        go_wp2_with fail
        refine(HT1.out).mono ?_
        rintro e w3 ⟨pv,rfl,hP3,hC3,hc3⟩
        have hD3:=HDd.out.beside hbx (by decide) (by omega) hc3
        have hO3:=HO.out.chg hc3 (fun j hj e=>HO.out.ne_cells hbx (by decide) (by rw [hj,show j=B from e]))
        have hf3:Fr w w3:=((hf.chg (fun b=>b=B)).trans hc3 fun _ _ h=>h).fr (fun k hk e=>by omega)
        have hz3:=Nat.le_trans hz hc3.size
        have HE3:=hid (HErr.out B _ s2.at_ s2.er w3 hC3)
        obtain⟨pa,pc,hpv⟩:=hP3.shape'
        subst hpv
        clear HT1 HO HDd hbx hc3 e6
        by_cases he:s2.er=0
        · rw [if_pos he]at HS1
          rw [he]at HE3
          have HF3:=hid (fill_any g (g+1) size (min size (n - q)) _ part t hs w3 hD3 hP3.see (by omega) (by omega) H25.out (by omega) (by omega) hz3)
          have HFo2:=HFo.out part
          obtain⟨mm,hmme⟩:∃ mm,mm=min size (n - q):=⟨_,rfl⟩
          rw [<- hmme]at HS1 HF3 HFo2 hmm
          have HE2:=hid he
          generalize n - q=ns at *
          have hmin:min (size:Int) (ns:Int)=(mm:Int):=by omega
          generalize fillGo part mm 0 ⟨0,0⟩ t=F at *
          have HDe:=hid (HDk.out.trans HS1.out)
          clear HDk HS1 HFo he hmme hiK
          go_wp2_with fail
          refine(HE3.out).mono ?_
          rintro e w4 ⟨rfl,rfl⟩
          go_wp2_with fail
          refine(HF3.out).mono ?_
          rintro e w5 ⟨rfl,⟨hs5,hhs5,hD5⟩,hc5⟩
          have hC5:=hC3.under hBg hc5
          have hO5:=hO3.chg hc5 (fun j hj e=>by have:=hzb j hj;omega)
          have hf5:Fr w w5:=((hf3.chg (fun k=>k=g\/g+1<=k)).trans hc5 fun _ _ h=>h).fr (fun k hk e=>by omega)
          have hz5:=Nat.le_trans hz3 hc5.size
          clear HE3 HF3 hD3 hO3 hP3 hC3 hc5
          by_cases hF:F.2=0
          · have HDn:Hid (DR=dictGo b size n (l.drop (i+1)) (i+1) s2 F.1):=by show _=_;rw [HDe.out,if_pos hF]
            have hF':((F.2:Nat):Int)=0:=by omega
            rw [hF']
            clear hF hF' HDe
            go_wp2_with fail
            go_roundw
            case rel=>exact⟨i+1,s2,F.1,hs5,by omega,by go_num,HFo2.1,by have:=HFo2.2;omega,by omega,hD5,hO5,hC5,hf5,hz5,HDn.out⟩
            case measure=>simp [intOf];omega
          · have HDn:Hid (DR=([],s2,F.2)):=by show _=_;rw [HDe.out,if_neg hF]
            have HRe:Hid (R=([],0,F.2)):=by show _=_;rw [HR3.out,HDn.out,if_neg hF]
            have hF':¬(F.2:Int)=0:=by omega
            have HF9:=hid hF
            clear HDe HR3 hF
            go_wp2_with fail
            go_ret3
            rw [HRe.out]
            exact⟨_,rfl,hf5,fun h=>absurd h HF9.out⟩
        · have HDe:Hid (DR=([],s2,s2.er)):=by show _=_;rw [HDk.out,HS1.out,if_neg he]
          have HRe:Hid (R=([],0,s2.er)):=by show _=_;rw [HR3.out,HDe.out,if_neg he]
          have he':¬(s2.er:Int)=0:=by omega
          clear HDk HS1 HR3
          go_wp2_with fail
          refine(HE3.out).mono ?_
          rintro e w4 ⟨rfl,rfl⟩
          go_wp2_with fail
          go_ret3
          rw [HRe.out]
          exact⟨_,rfl,hf3,fun h=>absurd h he⟩
      · obtain rfl:i=l.length:=by omega
        have hnl:¬((l.length:Int)<l.length):=by omega
        have HDn:Hid (DR=(t,s,s.er)):=by show _=_;rw [HDk.out,List.drop_length,dictGo]
        have HE3:=hid (HErr.out B _ s.at_ s.er wr hC)
        have HA3:=hid (HAt.out B _ s.at_ s.er wr hC)
        clear HDk hO hC
        by_cases he:s.er=0
        · have HRe:Hid (R=(t,s.at_,0)):=by show _=_;rw [HR3.out,HDn.out,if_pos he]
          rw [he]at HE3
          clear HR3 he
          go_wp2_with fail
          refine(HE3.out).mono ?_
          rintro e w4 ⟨rfl,rfl⟩
          go_wp2_with fail
          refine(HA3.out).mono ?_
          rintro e w4 ⟨rfl,rfl⟩
          go_wp2_with fail
          go_ret3
          rw [HRe.out]
          exact⟨_,rfl,hf,fun _=>⟨g,g+1,hs,rfl,hwg,hD⟩⟩
        · have HRe:Hid (R=([],0,s.er)):=by show _=_;rw [HR3.out,HDn.out,if_neg he]
          have he':¬(s.er:Int)=0:=by omega
          clear HR3
          go_wp2_with fail
          refine(HE3.out).mono ?_
          rintro e w4 ⟨rfl,rfl⟩
          go_wp2_with fail
          go_ret3
          rw [HRe.out]
          exact⟨_,rfl,hf,fun h=>absurd h he⟩
set_option maxRecDepth 512
end Go.Proofs.YtijghcbpfcjjnaaGreatDoor
namespace Go.Fk
theorem Cs.take_bad(s:Cs)(b:List UInt8)(k:Nat)(h:¬s.er=0):s.take b k=([],s):=by
 unfold Cs.take
 simp [h]
theorem dictGo_err(b:List UInt8)(size n:Nat)(l:List Nat)(i:Nat)(s:Cs)(t:List (List UInt8))(h:¬s.er=0):(dictGo b size n l i s t).2.2=s.er:=by
 cases l with
 | nil=>rfl
 | cons k r=>rw [dictGo,Cs.take_bad s b k h,if_neg h]
theorem dictR_bad(size:Nat)(b:List UInt8)(h:¬(dictZ size b).2.er=0):dictR size b=([],0,(dictZ size b).2.er):=by
 have h1:(dictK size b).2.2=(dictZ size b).2.er:=dictGo_err b size (dictN b).1 (dictZ size b).1 0 (dictZ size b).2 [] h
 unfold dictR
 rw [h1,if_neg h]
theorem dictN_bad(size:Nat)(b:List UInt8)(h:¬(dictN b).2.er=0):dictR size b=([],0,(dictN b).2.er):=by
 have h1:dictZ size b=([],(dictN b).2):=by
  unfold dictZ
  generalize ((dictN b).1+size - 1) / size=K
  cases K with
  | zero=>rfl
  | succ k=>rw [szGo,if_neg h]
 have h2:=dictR_bad size b (by rw [h1];exact h)
 rw [h2,h1]
theorem fillGo_len(part:List UInt8)(k:Nat):∀ (i:Nat) (d:Cs) (t:List (List UInt8)),(fillGo part k i d t).2=0->(fillGo part k i d t).1.length=t.length+k:=by
 induction k with
 | zero=>intro i d t _;rfl
 | succ k ih=>
  intro i d t h
  rw [fillGo]at h ⊢
  split at h
  · rename_i h1
    rw [if_pos h1,ih _ _ _ h,List.length_append]
    simp only [List.length_cons,List.length_nil]
    omega
  · rename_i h1;exact absurd h h1
theorem bucket_lt(size n i k:Nat)(h:i*size<n):(k<size/\i*size+k<n)↔k<min size (n - i*size):=by
 omega
end Go.Fk
