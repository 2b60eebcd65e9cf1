/- Parts of the proof of ArchVersions: H2 K6 U4 U5. -/
import Derived.Test.YtghcmindankceaaGreatDoorM34
import Derived.Test.YtghcmindankceaaGreatDoorM11
import Derived.Test.YtghcmindankceaaGreatDoorM25
import Derived.Test.YtghcmindankceaaGreatDoorM07
import Derived.Test.YtghcmindankceaaGreatDoorM18
import Derived.Test.YtghcmindankceaaGreatDoorM19
import Derived.Test.YtghcmindankceaaGreatDoorM24
set_option linter.unusedVariables false
set_option linter.unusedSectionVars false
set_option linter.unusedSimpArgs false
set_option maxHeartbeats 8000000
namespace Go.Proofs.YtghcmindankceaaGreatDoor
open Go.RowKit Go.Fk
set_option maxRecDepth 100000
theorem HNew_no(v:Value)(lens:List UInt8)(w:World)(hs:See w eB v lens)(hn:lens.length<=300)(h15:∀ c∈lens,c.toNat<=15)(hok:okK lens=false) :
  Calls Tryz.prog 303 #[v] w fun e w'=>e=.returned (.tuple #[.pointer none,.int .i64 7])/\Fr w w':=by
 have HC:=hid (Codes_any _ lens w hs hn h15)
 clear hs
 go_enter Tryz.func303, Tryz.ntmps303
 go_wp2_with fail
 refine HC.out.mono ?_
 rintro e w1 ⟨_,ht,hf1⟩
 obtain rfl:=ht hok
 go_wp2_with fail
 go_ret2
 exact⟨rfl,hf1⟩
theorem hlength_any(lens:List UInt8)(base g n s:Nat)(c:Nat->Value)(w:World)(h:HufAt w base g lens n c)(hn:lens.length<=300)(hs:s<=1000000) :
  Calls Tryz.prog 339 #[.pointer (some ⟨g,0,none⟩),N s] w fun e w'=>e=.returned (N (symL lens s))/\w'=w:=by
 have hs0:=h.own0.see
 obtain⟨a,cap,hv,hcap1,hcap2,hnone⟩:=hs0.shape
 have k0:=h.arr.cell 0 (by omega) hv
 unfold maxLen at hcap2
 have hs1:¬(s:Int)<0:=by omega
 by_cases hlt:s<lens.length
 · rw [hv]at hs0
   obtain⟨b,off,cap',hv',c0⟩:=bAt hs0 s hlt
   cases hv'
   rw [symL_at lens s hlt]
   generalize lens[s]=x at *
   replace c0:w.cell? ⟨b,off+s,none⟩=some (.int .u8 ((x.toNat:Nat):Int)):=c0
   have hx:x.toNat<256:=x.toNat_lt
   generalize x.toNat=cn at *
   have i2:¬(lens.length:Int)<=s:=by omega
   have i3:(s:Int)<lens.length:=by omega
   clear h hs0 hv
   go_enter Tryz.func339, Tryz.ntmps339
   go_wp2_with fail
   go_ret
   exact⟨rfl,rfl⟩
 · rw [symL_out lens s (by omega)]
   have i2:(lens.length:Int)<=s:=by omega
   clear h hs0 hv
   go_enter Tryz.func339, Tryz.ntmps339
   go_wp2_with fail
   go_ret
   exact⟨rfl,rfl⟩
theorem HLen_any(lens:List UInt8)(base g n s:Nat)(c:Nat->Value)(w:World)(h:HufAt w base g lens n c)(hn:lens.length<=300)(hs:s<=1000000) :
  Calls Tryz.prog 304 #[.pointer (some ⟨g,0,none⟩),N s] w fun e w'=>e=.returned (N (symL lens s))/\w'=w:=by
 have HL:=hid (hlength_any lens base g n s c w h hn hs)
 have k0:=h.arr.cell 0 (by omega) rfl
 clear h
 go_enter Tryz.func304, Tryz.ntmps304
 go_wp2_with fail
 refine HL.out.mono ?_
 rintro e w1 ⟨rfl,rfl⟩
 go_wp2_with fail
 go_ret
 exact⟨rfl,rfl⟩
theorem HPut_nil(x v:Value)(w:World) :
  Calls Tryz.prog 255 #[.pointer none,x,v] w fun e w'=>e=.returned (.int .i64 7)/\Fr w w':=by
 go_enter Tryz.func255, Tryz.ntmps255
 go_wp2_with fail
 go_ret
 exact⟨rfl,Fr.refl w⟩
theorem HPut_any(lens:List UInt8)(b2 g2 n s:Nat)(c:Nat->Value)(base g:Nat)(T:TypeId)(rest:List Value)(bv:Value)(l:List UInt8)(w:World)(h:HufAt w b2 g2 lens n c)(hW:WrB w base g T rest bv l)
  (hn:lens.length<=300) (h15:∀ c∈lens,c.toNat<=15) (hok:okK lens=true) (hs:s<=1000000) (hl:l.length<=900000000) (hsz:base<=w.heap.size) :
  Calls Tryz.prog 255 #[.pointer (some ⟨g2,0,none⟩),.pointer (some ⟨g,0,none⟩),N s] w fun e w'=>e=.returned (.int .i64 (if symL lens s=0 then 13 else 0))/\∃ bv',WrB w' base g T rest bv' (l++bitK lens s)/\WSt g bv bv' w w':=by
 have HL:=hid (fun W h=>HLen_any lens b2 g2 n s c W h hn hs)
 have HD:=hid (fun k=>(⟨h.arr.fr ((Fr.refl w).drewN k),h.own0.fr ((Fr.refl w).drewN k),h.own1.fr ((Fr.refl w).drewN k),h.first,h.many,fun l a b=>(h.syms l a b).fr ((Fr.refl w).drewN k),h.apart,h.up⟩:HufAt (w.drewN k) b2 g2 lens n c))
 have HPut:=hid (fun x n hn hx bv' m W hW hm hb=>bput_any x n hn hx base g T rest bv' m W hW hm hb)
 have HL0:=hid (HL.out w h)
 have HLd:=hid (fun k=>HL.out (w.drewN k) (HD.out k))
 have hs0:=h.own0.see
 have hs1:=h.own1.see
 obtain⟨a,cap,hv,hcap1,hcap2,hnone⟩:=hs0.shape
 obtain⟨a1,cap1,hv1,hcap3,hcap4,hnone1⟩:=hs1.shape
 have k0:=h.arr.cell 0 (by omega) hv
 have k1:=h.arr.cell 1 (by omega) hv1
 unfold maxLen at hcap2 hcap4
 by_cases hz:symL lens s=0
 · rw [if_pos hz,bitK_none lens s hz,List.append_nil]
   rw [hz]at HL0
   clear h HL HD HLd hs0 hs1 hv hv1
   go_enter Tryz.func255, Tryz.ntmps255
   go_upto_region 3 with fail
   go_wp2_with fail
   refine HL0.out.mono ?_
   rintro e w1 ⟨rfl,rfl⟩
   go_wp2_with fail
   go_ret
   exact⟨rfl,bv,hW,WSt.refl g bv _⟩
 · rw [if_neg hz,bitK_some lens s hz]
   have hlt:s<lens.length:=by
    by_cases h:s<lens.length
    · exact h
    · exact absurd (symL_out lens s (by omega)) hz
   have hx0:lens[s]≠0:=fun e=>hz (by rw [symL_at lens s hlt,e];rfl)
   have hcl:=code_lt lens hok h15 s hlt hx0
   have hlc:s<(codesK lens).length:=by rw [codesK_len];exact hlt
   have h16:=code16 lens s hlc
   have hl15:=h15 _ (List.getElem_mem hlt)
   rw [hv1]at hs1
   obtain⟨b1,off1,cap1',hv1',c1⟩:=hs1.cell1 (fun n=>Value.int .u16 (n:Int)) rfl s hlc
   rw [codesK_get lens s hlt]
   rw [<- symL_at lens s hlt]at hcl hl15
   generalize hq:(codesK lens)[s]=q at *
   generalize hsl:symL lens s=sl at *
   rw [codesK_len]at hv1 hv1' k1 hcap3
   cases hv1'
   replace c1:w.cell? ⟨b1,off1+s,none⟩=some (.int .u16 (q:Int)):=c1
   have i2:(s:Int)<lens.length:=by omega
   have i3:(0:Int)<=s:=by omega
   have hqw:IntKind.u64.wrap (q:Int)=(q:Int):=IntWalk.u64_in _ (by omega)
   have hz':¬(sl:Int)=0:=by omega
   have hzb:((sl:Int) == 0)=false:=by simp;omega
   have hWd:WrB w.drew base g T rest bv l:=⟨((Fr.refl w).drewN 1).heap hW.1,hW.2.1.drew,hW.2.2⟩
   have HP:=hid (HPut.out q sl (by omega) hcl bv l w.drew hWd (by omega) hsz)
   have HWS:Hid (∀ bv' w',WSt g bv bv' w.drew w'->WSt g bv bv' w w'):=fun bv' w' h=>WSt.fr ((Fr.refl w).drewN 1) h
   clear h HL hs0 hs1 hv hv1 hq hsl hWd hW
   go_enter Tryz.func255, Tryz.ntmps255
   go_upto_region 3 with fail
   go_wp2_with fail
   refine HL0.out.mono ?_
   rintro e w1 ⟨rfl,rfl⟩
   go_upto_region 5 with fail
   go_region_with (first
    | (go_at_call 304; refine ((HLd.out 1).mono ?_); rintro e w1 ⟨rfl, rfl⟩)
    | (go_at_call 194; refine HP.out.mono ?_; rintro e w1 ⟨rfl, bv', hW', hst⟩))
   all_goals go_wp2_with fail
   all_goals go_ret
   all_goals exact⟨rfl,bv',hW',HWS.out _ _ hst⟩
set_option maxRecDepth 512
set_option maxRecDepth 100000
theorem KWrite_any(v:Value)(lens:List UInt8)(b2:Nat)(base g:Nat)(T:TypeId)(hT:T≠(eB:Elt Tryz.prog UInt8).e)(rest:List Value)(bv:Value)(l:List UInt8)(w:World)(h:WrB w base g T rest bv l)
  (hs:Ow w b2 eB v lens) (hap:v.ownBlock=none\/v.ownBlock≠bv.ownBlock) (hn:lens.length<=300) (h15:∀ c∈lens,c.toNat<=15) (hok:okK lens=true) (hl:l.length<=900000000) (hsz:base<=w.heap.size) :
  Calls Tryz.prog 302 #[.pointer (some ⟨g,0,none⟩),v] w fun e w'=>e=.returned (.int .i64 0)/\∃ bv',WrB w' base g T rest bv' (l++wrGo lens)/\WSt g bv bv' w w':=by
 obtain⟨a,cap,hv,hcap1,hcap2,hnone⟩:=hs.see.shape
 subst hv
 unfold maxLen at hcap2
 have HCk:=hid (KCheck_any _ lens w hs.see hn h15)
 rw [hok]at HCk
 have hvg:=hs.ne_cells h.1 hT
 have HSee:Hid (∀ W bv',WSt g bv bv' w W->See W eB (.slice a lens.length cap) lens):=fun W bv' hst=>
  (hs.chg hst.1 fun k hk e => by
   rcases e with e | e
   · rw [e] at hk; exact hvg hk
   · rcases hap with h1 | h1
     · rw [h1] at hk; cases hk
     · exact h1 (hk.trans e.symm)).see
 have HPut:=hid (fun x n hn hx bv' m W hW hm hb=>bput_any x n hn hx base g T rest bv' m W hW hm hb)
 have HWl:=hid (wrGo_len lens.length lens (Nat.le_refl _))
 go_enter Tryz.func302, Tryz.ntmps302
 go_wp2_with fail
 refine HCk.out.mono ?_
 rintro e w1 ⟨rfl,hf1⟩
 have HSt0:Hid (WSt g bv bv w w1):=(WSt.refl g bv w).frR hf1
 have HW0:Hid (WrB w1 base g T rest bv l):=⟨hf1.heap h.1,h.2.1.fr hf1,h.2.2⟩
 clear h hs
 go_wp2_with fail
 go_loopw [6] (fun iv wr=>∃ (i:Nat) (bv':Value) (m:List UInt8),i<=lens.length/\iv=N i/\WrB wr base g T rest bv' m/\WSt g bv bv' w wr/\m.length<=l.length+10*i/\Hid (l++wrGo lens=m++wrGo (lens.drop i))) (fun iv _=>lens.length - (intOf iv).toNat)
 case atStart=>exact⟨0,bv,l,Nat.zero_le _,rfl,HW0.out,HSt0.out,by omega,rfl⟩
 case round=>
  obtain⟨i,bv',m,hi,rfl,hW,hst,hml,HE⟩:=hrel
  have hszr:=Nat.le_trans hsz hst.1.size
  by_cases hlt:i<lens.length
  · obtain⟨b,off,cap',hv,c0⟩:=bAt (HSee.out wr bv' hst) i hlt
    have h15i:=h15 _ (List.getElem_mem hlt)
    have hz:=hid (u8_zero lens[i])
    have HDr:=hid (List.drop_eq_getElem_cons hlt)
    generalize hc:lens[i]=c at *
    cases hv
    replace c0:wr.cell? ⟨b,off+i,none⟩=some (.int .u8 ((c.toNat:Nat):Int)):=c0
    have HEone:Hid (c≠0->l++wrGo lens=(m++bitsL c.toNat 4)++wrGo (lens.drop (i+1))):=fun h0=>by rw [HE.out,HDr.out,wrGo_one _ _ h0];simp
    have HEzero:Hid (c=0->l++wrGo lens=(m++bitsL 0 4)++(bitsL (zrun (lens.drop (i+1)) 63) 6++wrGo (lens.drop (i+(zrun (lens.drop (i+1)) 63+1))))):=fun h0=>by
     rw [HE.out,HDr.out,wrGo_zero _ _ h0,List.drop_drop];simp [Nat.add_assoc,Nat.add_comm]
    generalize c.toNat=cn at *
    have i1:(0:Int)<=i:=by omega
    have i2:(i:Int)<lens.length:=by omega
    have hb4:=bitsL_len cn 4
    by_cases hc0:cn=0
    · have hc0':¬(0:Int)<cn:=by omega
      have HE0:=hid (HEzero.out (hz.out.2 hc0))
      clear HEone HEzero HDr hz HE
      subst hc0
      have hb0:=bitsL_len 0 4
      go_wp2_with fail
      generalize wr=wo at *
      go_loopw [7] (fun nv wr=>∃ n:Nat,1<=n/\n<=64/\i+n<=lens.length/\nv=N n/\Hid (zrun (lens.drop (i+1)) 63+1=n+zrun (lens.drop (i+n)) (64 - n))/\∃ q,wr=wo.drewN q) (fun nv _=>64 - (intOf nv).toNat)
      case atStart=>exact⟨1,Nat.le_refl _,by omega,by omega,rfl,Nat.add_comm _ _,0,rfl⟩
      case round=>
       obtain⟨n,hn1,hn2,hn3,rfl,HZ,q,rfl⟩:=hrel
       have n1:(1:Int)<=n:=by omega
       obtain⟨Z,hZ⟩:∃ Z,Z=zrun (lens.drop (i+n)) (64 - n):=⟨_,rfl⟩
       rw [<- hZ]at HZ
       have HZZ:=hid hZ
       clear hZ
       generalize hwq:wo.drewN q=wq at *
       go_upto_region 12 with fail
       go_cut [51]from 33 to 51 (fun cv wx=>cv=.bool (decide (0<Z))/\Hid (0<Z->n<64/\i+n<lens.length/\Z=zrun (lens.drop (i+(n+1))) (64 - (n+1))+1)/\∃ q,wx=wo.drewN q)
       case first=>
        by_cases h64:n<64
        · have k1:(n:Int)<64:=by omega
          by_cases hin:i+n<lens.length
          · have k2:(i:Int)+n<lens.length:=by omega
            obtain⟨b',off',cap3,hv',c3⟩:=bAt (HSee.out wo bv' hst) (i+n) hin
            have hzz:=hid (u8_zero lens[i+n])
            have HOn:=hid (zrun_on lens (i+n) (63 - n) hin)
            have HOff:=hid (zrun_off lens (i+n) (64 - n) hin)
            generalize hc3:lens[i+n]=c' at *
            cases hv'
            replace c3:wo.cell? ⟨b,off+(i+n),none⟩=some (.int .u8 ((c'.toNat:Nat):Int)):=c3
            have c3q:wq.cell? ⟨b,off+(i+n),none⟩=some (.int .u8 ((c'.toNat:Nat):Int)):=by rw [<- hwq];exact c3
            by_cases hcz:c'=0
            · have hcn:c'.toNat=0:=by rw [hcz];rfl
              have HZ1:Hid (Z=zrun (lens.drop (i+(n+1))) (64 - (n+1))+1):=by
               show _=_
               rw [HZZ.out,show 64 - n=63 - n+1 by omega,HOn.out hcz,show 63 - n=64 - (n+1) by omega];rfl
              have HZd:Hid (decide (0<Z)=true):=decide_eq_true (by rw [HZ1.out];omega)
              generalize c'.toNat=cn' at *
              subst hcn
              clear HOn HOff
              go_wp2_with fail
              go_meet
              exact⟨by rw [HZd.out],fun _=>⟨h64,hin,HZ1.out⟩,_,hwq.symm⟩
            · have hcn:c'.toNat≠0:=fun e=>hcz (hzz.out.2 e)
              have HZ1:Hid (Z=0):=by show _=_;rw [HZZ.out,HOff.out hcz]
              have HZd:Hid (decide (0<Z)=false):=decide_eq_false (by rw [HZ1.out];omega)
              generalize c'.toNat=cn' at *
              have hcn2:decide ((cn':Int)=0)=false:=decide_eq_false (by omega)
              clear HOn HOff
              go_wp2_with fail
              go_meet
              exact⟨by rw [HZd.out];simp [hcn],fun h=>by rw [HZ1.out]at h;omega,_,hwq.symm⟩
          · have k2:¬(i:Int)+n<lens.length:=by omega
            have HZ1:Hid (Z=0):=by show _=_;rw [HZZ.out,zrun_end _ _ _ (by omega)]
            have HZd:Hid (decide (0<Z)=false):=decide_eq_false (by rw [HZ1.out];omega)
            go_wp2_with fail
            go_meet
            exact⟨by rw [HZd.out],fun h=>by rw [HZ1.out]at h;omega,_,hwq.symm⟩
        · have k1:¬(n:Int)<64:=by omega
          have HZ1:Hid (Z=0):=by show _=_;rw [HZZ.out,show 64 - n=0 by omega,zrun_zero]
          have HZd:Hid (decide (0<Z)=false):=decide_eq_false (by rw [HZ1.out];omega)
          go_wp2_with fail
          go_meet
          exact⟨by rw [HZd.out],fun h=>by rw [HZ1.out]at h;omega,_,hwq.symm⟩
       case rest=>
        obtain⟨rfl,HN,q2,rfl⟩:=hcut
        by_cases hZp:0<Z
        · have hZd:decide (0<Z)=true:=decide_eq_true hZp
          obtain⟨a1,a2,a3⟩:=HN.out hZp
          simp only [hZd]
          have HZ2:Hid (zrun (lens.drop (i+1)) 63+1=n+1+zrun (lens.drop (i+(n+1))) (64 - (n+1))):=by show _=_;rw [HZ.out,a3];omega
          clear a3 HZ HZZ HN
          go_wp2_with fail
          go_roundw
          case rel=>exact⟨n+1,by omega,by omega,by omega,by go_num,HZ2,q2,rfl⟩
          case measure=>simp [intOf];omega
        · have hZd:decide (0<Z)=false:=decide_eq_false hZp
          obtain rfl:Z=0:=by omega
          simp only [hZd]
          have HZn:Hid (zrun (lens.drop (i+1)) 63=n - 1):=by show _=_;have:=HZ.out;omega
          have HE1:Hid (l++wrGo lens=((m++bitsL 0 4)++bitsL (n - 1) 6)++wrGo (lens.drop (i+n))):=by
           show _=_
           rw [HE0.out,HZn.out,show n - 1+1=n by omega];simp
          have hWq:WrB (wo.drewN q2) base g T rest bv' m:=⟨((Fr.refl wo).drewN q2).heap hW.1,hW.2.1.fr ((Fr.refl wo).drewN q2),hW.2.2⟩
          have hstq:=hst.frR ((Fr.refl wo).drewN q2)
          have hszq:=Nat.le_trans hszr ((Fr.refl wo).drewN q2).size
          generalize wo.drewN q2=wq at *
          have HP:=hid (HPut.out 0 4 (by omega) (by omega) bv' m wq hWq (by omega) hszq)
          have h6:=bitsL_len (n - 1) 6
          have hcw:IntKind.u64.wrap ((n:Int) - 1)=((n - 1:Nat):Int):=by rw [show(n:Int) - 1=((n - 1:Nat):Int) by omega];exact IntWalk.u64_in _ (by omega)
          have hiw:IntKind.i64.wrap ((n:Int) - 1)=((n - 1:Nat):Int):=by rw [IntWalk.i64_in _ (by omega)];omega
          clear HZ HZZ HN hZd hZp HZn HE0
          go_wp2_with fail
          refine HP.out.mono ?_
          rintro e w3 ⟨rfl,bv3,hW3,hst3⟩
          have hsz3:=Nat.le_trans hszq hst3.1.size
          have hml3:(m++bitsL 0 4).length<=l.length+10*i+4:=by rw [List.length_append,hb0];omega
          have HP2:=hid (HPut.out (n - 1) 6 (by omega) (by have:(2:Nat) ^ 6=64:=rfl;omega) bv3 (m++bitsL 0 4) w3 hW3 (by omega) hsz3)
          have HML:Hid ((m++bitsL 0 4++bitsL (n - 1) 6).length<=l.length+10*(i+n)):=by show _<=_;rw [List.length_append,h6];omega
          clear hml3 h6 hb0
          go_wp2_with fail
          refine HP2.out.mono ?_
          rintro e w4 ⟨rfl,bv4,hW4,hst4⟩
          go_wp2_with fail
          go_roundw
          case rel=>exact⟨i+n,bv4,_,by omega,by go_num,hW4,(hstq.trans hst3).trans hst4,HML.out,HE1⟩
          case measure=>simp [intOf];omega
    · have hc0':(0:Int)<cn:=by omega
      have HE1:=hid (HEone.out (fun e=>hc0 (hz.out.1 e)))
      have HP:=hid (HPut.out cn 4 (by omega) (by have:(2:Nat) ^ 4=16:=rfl;omega) bv' m wr hW (by omega) hszr)
      have hcw:IntKind.u64.wrap (cn:Int)=cn:=IntWalk.u64_in _ (by omega)
      have hml2:(m++bitsL cn 4).length<=l.length+10*(i+1):=by rw [List.length_append,hb4];omega
      have HML:=hid hml2
      clear HEone HEzero HDr hz HE hml2 hb4
      go_wp2_with fail
      refine HP.out.mono ?_
      rintro e w3 ⟨rfl,bv3,hW3,hst3⟩
      go_wp2_with fail
      go_roundw
      case rel=>exact⟨i+1,bv3,_,by omega,by go_num,hW3,hst.trans hst3,HML.out,HE1⟩
      case measure=>simp [intOf];omega
  · obtain rfl:i=lens.length:=by omega
    have hnl:¬(lens.length:Int)<lens.length:=by omega
    have HE2:Hid (l++wrGo lens=m):=by show _=_;rw [HE.out,List.drop_length,wrGo_nil,List.append_nil]
    go_wp2_with fail
    go_ret
    exact⟨rfl,bv',by rw [HE2.out];exact hW,hst⟩
theorem KWrite_no(v:Value)(lens:List UInt8)(g:Nat)(w:World)(hs:See w eB v lens)(hn:lens.length<=300)(h15:∀ c∈lens,c.toNat<=15)(hok:okK lens=false) :
  Calls Tryz.prog 302 #[.pointer (some ⟨g,0,none⟩),v] w fun e w'=>e=.returned (.int .i64 7)/\Fr w w':=by
 have HCk:=hid (KCheck_any _ lens w hs hn h15)
 rw [hok]at HCk
 clear hs
 go_enter Tryz.func302, Tryz.ntmps302
 go_wp2_with fail
 refine HCk.out.mono ?_
 rintro e w1 ⟨rfl,hf1⟩
 go_wp2_with fail
 go_ret
 exact⟨rfl,hf1⟩
set_option maxRecDepth 512
abbrev rcB(t l s x:Value):Obj:=.cells #[t,l,s,x] 63 (0,0)
set_option maxRecDepth 100000
theorem recordT_any(B base:Nat)(s:Cs)(b:List UInt8)(w:World)(hc:CurF w 242 B base b s.at_ s.er)(hl:b.length<=1000000)(hb:base<=w.heap.size) :
  Calls Tryz.prog 158 #[.agg #[.pointer (some ⟨B,0,none⟩)],.bool true] w fun e w'=>e=.returned (recV (rdR true b s))/\CurF w' 242 B base b (rdX true b s).2.at_ (rdX true b s).2.er/\Chg (fun k=>k=B) w w':=by
 have HA1:Hid (∀ W,CurF W 242 B base b s.at_ s.er->Calls Tryz.prog 222 #[.pointer (some ⟨B,0,none⟩)] W fun e w'=>e=.returned (.int .u64 ((rdT true b s).1:Int))/\CurF w' 242 B base b (rdT true b s).2.at_ (rdT true b s).2.er/\Chg (fun b=>b=B) W w'):=fun W h=>Num_cur B base s b W h hl
 have HA2:Hid (∀ W,CurF W 242 B base b (rdT true b s).2.at_ (rdT true b s).2.er->base<=W.heap.size->Calls Tryz.prog 143 #[.pointer (some ⟨B,0,none⟩)] W fun e w'=>e=.returned (.int .u8 ((rdL true b s).1:Int))/\CurF w' 242 B base b (rdL true b s).2.at_ (rdL true b s).2.er/\Chg (fun b=>b=B) W w'):=fun W h h2=>Byte_cur B base (rdT true b s).2 b W h hl h2
 have HT1:Hid (∀ W,CurF W 242 B base b (rdL true b s).2.at_ (rdL true b s).2.er->Calls Tryz.prog 223 #[.pointer (some ⟨B,0,none⟩),N 4000] W fun e w'=>e=.returned (S (rdS true b s).1)/\CurF w' 242 B base b (rdS true b s).2.at_ (rdS true b s).2.er/\Chg (fun b=>b=B) W w'):=fun W h=>Text_cur 4000 (by decide) B base (rdL true b s).2 b W h hl
 have HT2:Hid (∀ W,CurF W 242 B base b (rdS true b s).2.at_ (rdS true b s).2.er->Calls Tryz.prog 223 #[.pointer (some ⟨B,0,none⟩),N 4000] W fun e w'=>e=.returned (S (rdX true b s).1)/\CurF w' 242 B base b (rdX true b s).2.at_ (rdX true b s).2.er/\Chg (fun b=>b=B) W w'):=fun W h=>Text_cur 4000 (by decide) B base (rdS true b s).2 b W h hl
 have hx1:(rdT true b s).1<18446744073709551616:=by
  show Cs.val _ _<_
  unfold Cs.val
  split
  · exact numL_lt _
  · decide
 have hx2:(rdL true b s).1<256:=UInt8.toNat_lt _
 have HR:Hid (recV (rdR true b s)=.agg #[.int .u64 ((rdT true b s).1:Int),.int .u8 ((rdL true b s).1:Int),S (rdS true b s).1,S (rdX true b s).1]):=by
  show Value.agg #[.int .u64 ((UInt64.ofNat (rdT true b s).1).toNat:Int),.int .u8 ((UInt8.ofNat (rdL true b s).1).toNat:Int),_,_]=_
  rw [UInt64.toNat_ofNat',UInt8.toNat_ofNat',Nat.mod_eq_of_lt hx1,Nat.mod_eq_of_lt hx2]
  rfl
 have hBw:=hc.lt
 obtain⟨g,hg⟩:∃ g,g=w.heap.size:=⟨_,rfl⟩
 obtain⟨W0,hW0⟩:∃ W0,W0=(w.alloc (.cells #[.pointer (some ⟨B,0,none⟩)] 215)).alloc (.cells #[.int .u64 0,.int .u8 0,.string ⟨#[]⟩,.string ⟨#[]⟩] 63):=⟨_,rfl⟩
 have hfa:Fr w (w.alloc (.cells #[.pointer (some ⟨B,0,none⟩)] 215)):=(Fr.refl w).alloc _
 have hf0:Fr w W0:=by rw [hW0];exact hfa.alloc _
 have hR0:W0.heap[g]?=some (.cells #[.pointer (some ⟨B,0,none⟩)] 215 (0,0)):=by rw [hW0,hg];exact((Fr.refl _).alloc _).heap (heap_new _ _ _ rfl)
 have hO0:W0.heap[g+1]?=some (rcB (.int .u64 0) (.int .u8 0) (.string ⟨#[]⟩) (.string ⟨#[]⟩)):=by rw [hW0,hg];exact heap_new _ _ _ (by simp)
 have hC0:=hc.fr hf0
 have hBg:B≠g:=by omega
 have hBo:B≠g+1:=by omega
 have c0:W0.cell? ⟨g,0,none⟩=some (.pointer (some ⟨B,0,none⟩)):=by rw [cell_of_heap hR0];rfl
 have HA1a:=hid (HA1.out W0 hC0)
 have hbg:base<=g:=by omega
 clear hx1 hx2
 generalize (rdT true b s).1=t1 at *
 generalize (rdT true b s).2=q1 at *
 generalize (rdL true b s).1=t2 at *
 generalize (rdL true b s).2=q2 at *
 generalize (rdS true b s).1=x1 at *
 generalize (rdS true b s).2=s1 at *
 generalize (rdX true b s).1=x2 at *
 generalize (rdX true b s).2=s2 at *
 generalize recV (rdR true b s)=RV at *
 have HG:=hid hg
 have HW:=hid hW0
 clear hc hW0 HA1
 go_enter Tryz.func158, Tryz.ntmps158
 go_upto_region 5 with fail
 rw [<- HG.out,<- HW.out]
 clear hg
 go_wp2_with fail
 refine(HA1a.out).mono ?_
 rintro e w1 ⟨rfl,hC1,hc1⟩
 have hR1:=hc1.heap hR0 (fun e=>hBg e.symm)
 have hO1:=hc1.heap hO0 (fun e=>hBo e.symm)
 have z0:=frozen_of_heap hO1 0
 have d0:w1.cell? ⟨g+1,0,none⟩=some (.int .u64 0):=by rw [cell_of_heap hO1];rfl
 have dr:w1.cell? ⟨g,0,none⟩=some (.pointer (some ⟨B,0,none⟩)):=by rw [cell_of_heap hR1];rfl
 have hst:=setCell_chg w1 ⟨g+1,0,none⟩ (.int .u64 (t1:Int))
 have hO2:(w1.setCell ⟨g+1,0,none⟩ (.int .u64 (t1:Int))).heap[g+1]?=some (rcB (.int .u64 (t1:Int)) (.int .u8 0) (.string ⟨#[]⟩) (.string ⟨#[]⟩)):=heap_setCell_own hO1 0 _
 have hR2:=hst.heap hR1 (fun e=>by have e:g=g+1:=e;omega)
 have hC2:=hC1.box hO1 (by decide) hBo hst
 have hch2:=(hc1.mono (G':=fun k=>k=B\/k=g+1) (fun k hk h=>.inl h)).trans hst (fun _ _ h=>.inr h)
 clear hC1 hc1 HA1a c0 hst
 go_upto_region 5 with fail
 generalize hW2:w1.setCell ⟨g+1,0,none⟩ (.int .u64 (t1:Int))=W2 at *
 clear hW2 z0 d0 dr hR1 hO1
 have e2:W2.cell? ⟨g,0,none⟩=some (.pointer (some ⟨B,0,none⟩)):=by rw [cell_of_heap hR2];rfl
 have hz2:base<=W2.heap.size:=by have:=(Array.getElem?_eq_some_iff.1 hO2).1;omega
 have HA2a:=hid (HA2.out W2 hC2 hz2)
 clear HA2 hC2
 go_wp2_with fail
 refine(HA2a.out).mono ?_
 rintro e w3 ⟨rfl,hC3,hc3⟩
 have hR3:=hc3.heap hR2 (fun e=>hBg e.symm)
 have hO3:=hc3.heap hO2 (fun e=>hBo e.symm)
 have z1:=frozen_of_heap hO3 1
 have d1:w3.cell? ⟨g+1,1,none⟩=some (.int .u8 0):=by rw [cell_of_heap hO3];rfl
 have dr:w3.cell? ⟨g,0,none⟩=some (.pointer (some ⟨B,0,none⟩)):=by rw [cell_of_heap hR3];rfl
 have hst:=setCell_chg w3 ⟨g+1,1,none⟩ (.int .u8 (t2:Int))
 have hO4:(w3.setCell ⟨g+1,1,none⟩ (.int .u8 (t2:Int))).heap[g+1]?=some (rcB (.int .u64 (t1:Int)) (.int .u8 (t2:Int)) (.string ⟨#[]⟩) (.string ⟨#[]⟩)):=heap_setCell_own hO3 1 _
 have hR4:=hst.heap hR3 (fun e=>by have e:g=g+1:=e;omega)
 have hC4:=hC3.box hO3 (by decide) hBo hst
 have hch4:=(hch2.trans hc3 (fun _ _ h=>.inl h)).trans hst (fun _ _ h=>.inr h)
 clear hC3 hc3 HA2a e2 hst hO2 hR2 hch2 hz2
 go_upto_region 5 with fail
 generalize hW4:w3.setCell ⟨g+1,1,none⟩ (.int .u8 (t2:Int))=W4 at *
 clear hW4 z1 d1 dr hR3 hO3
 have e4:W4.cell? ⟨g,0,none⟩=some (.pointer (some ⟨B,0,none⟩)):=by rw [cell_of_heap hR4];rfl
 have HT1a:=hid (HT1.out W4 hC4)
 clear HT1 hC4
 go_wp2_with fail
 refine(HT1a.out).mono ?_
 rintro e w5 ⟨rfl,hC5,hc5⟩
 have hR5:=hc5.heap hR4 (fun e=>hBg e.symm)
 have hO5:=hc5.heap hO4 (fun e=>hBo e.symm)
 have z2:=frozen_of_heap hO5 2
 have d2:w5.cell? ⟨g+1,2,none⟩=some (.string ⟨#[]⟩):=by rw [cell_of_heap hO5];rfl
 have dr:w5.cell? ⟨g,0,none⟩=some (.pointer (some ⟨B,0,none⟩)):=by rw [cell_of_heap hR5];rfl
 have hst:=setCell_chg w5 ⟨g+1,2,none⟩ (S x1)
 have hO6:(w5.setCell ⟨g+1,2,none⟩ (S x1)).heap[g+1]?=some (rcB (.int .u64 (t1:Int)) (.int .u8 (t2:Int)) (S x1) (.string ⟨#[]⟩)):=heap_setCell_own hO5 2 _
 have hR6:=hst.heap hR5 (fun e=>by have e:g=g+1:=e;omega)
 have hC6:=hC5.box hO5 (by decide) hBo hst
 have hch6:=(hch4.trans hc5 (fun _ _ h=>.inl h)).trans hst (fun _ _ h=>.inr h)
 clear hC5 hc5 HT1a e4 hst hO4 hR4 hch4
 go_upto_region 5 with fail
 generalize hW6:w5.setCell ⟨g+1,2,none⟩ (S x1)=W6 at *
 clear hW6 z2 d2 dr hR5 hO5
 have e6:W6.cell? ⟨g,0,none⟩=some (.pointer (some ⟨B,0,none⟩)):=by rw [cell_of_heap hR6];rfl
 have HT2a:=hid (HT2.out W6 hC6)
 clear HT2 hC6
 go_wp2_with fail
 refine(HT2a.out).mono ?_
 rintro e w7 ⟨rfl,hC7,hc7⟩
 have hO7:=hc7.heap hO6 (fun e=>hBo e.symm)
 have z3:=frozen_of_heap hO7 3
 have d3:w7.cell? ⟨g+1,3,none⟩=some (.string ⟨#[]⟩):=by rw [cell_of_heap hO7];rfl
 have hst:=setCell_chg w7 ⟨g+1,3,none⟩ (S x2)
 have hO8:(w7.setCell ⟨g+1,3,none⟩ (S x2)).heap[g+1]?=some (rcB (.int .u64 (t1:Int)) (.int .u8 (t2:Int)) (S x1) (S x2)):=heap_setCell_own hO7 3 (S x2)
 have hC8:=hC7.box hO7 (by decide) hBo hst
 have hch8:=(hch6.trans hc7 (fun _ _ h=>.inl h)).trans hst (fun _ _ h=>.inr h)
 clear hC7 hc7 HT2a e6 hst hO6 hR6 hch6
 have hinf:(Tryz.prog.info? 63).map (·.size)=some 4:=by kernel_rfl
 have hone:(#[Value.int .u64 (t1:Int),.int .u8 (t2:Int),S x1,S x2]:Array Value).all (·.oneCell')=true:=by rw [List.all_toArray];rfl
 clear hO7
 have hst9:=setRow_chg (w7.setCell ⟨g+1,3,none⟩ (S x2)) (g+1) #[Value.int .u64 (t1:Int),.int .u8 (t2:Int),S x1,S x2]
 have hC9:=hC8.box hO8 (by decide) hBo hst9
 have hO9:=setRow_heap (w7.setCell ⟨g+1,3,none⟩ (S x2)) (g+1) _ #[Value.int .u64 (t1:Int),.int .u8 (t2:Int),S x1,S x2] _ _ hO8
 have hch9:=hch8.trans hst9 (fun _ _ h=>.inr h)
 have HF:Hid (Chg (fun k=>k=B) w ((w7.setCell ⟨g+1,3,none⟩ (S x2)).setRow (g+1) #[Value.int .u64 (t1:Int),.int .u8 (t2:Int),S x1,S x2])):=(hf0.chg (fun k=>k=B)).trans hch9 (fun k hk h=>by rcases h with h | h;exact h;rw [HG.out]at h;omega)
 go_wp2_with (first | (refine wpList_load_row rfl 63 (.tmp 4) rfl (g+1) rfl 63 #[.int .u64 (t1:Int),.int .u8 (t2:Int),S x1,S x2] (0,0) _ hO8 Tryz.underlying63 rfl hinf ?_) | (refine wpList_store_row rfl 63 (.tmp 4) (.tmp 22) rfl (g+1) #[.int .u64 (t1:Int),.int .u8 (t2:Int),S x1,S x2] rfl rfl 63 _ hO8 hinf rfl hone ?_))
 go_wp2_with fail
 (try simp only [Exit.inBlock,Exit.then])
 refine bodyPost_ret (v:=.agg #[.int .u64 (t1:Int),.int .u8 (t2:Int),S x1,S x2]) (results_cell_row Tryz.results158 _ _ (g+1) 63 #[.int .u64 (t1:Int),.int .u8 (t2:Int),S x1,S x2] (0,0) _ rfl hO9 Tryz.underlying63 rfl hinf) rfl ?_
 exact⟨by rw [HR.out],hC9,HF.out⟩
set_option maxRecDepth 512
set_option maxRecDepth 100000
theorem QRead_any(wh:Bool)(HRec:Hid (∀ (B base:Nat) (s:Cs) (b:List UInt8) (W:World),CurF W 242 B base b s.at_ s.er->b.length<=1000000->base<=W.heap.size->Calls Tryz.prog 158 #[.agg #[.pointer (some ⟨B,0,none⟩)],.bool wh] W fun e w'=>e=.returned (recV (rdR wh b s))/\CurF w' 242 B base b (rdX wh b s).2.at_ (rdX wh b s).2.er/\Chg (fun k=>k=B) W w'))
  (v:Value) (b:List UInt8) (w:World) (hs:See w eB v b) (hl:b.length<=1000000) :
  Calls Tryz.prog 88 #[.bool wh,v] w fun e w'=>∃ u,e=.returned (.tuple #[u,.int .i64 ((recsL wh b).2:Int)])/\Ow w' w.heap.size eR u (recsL wh b).1/\Fr w w':=by
 have HNew:=hid (New_any v b w hs hl)
 have HRc:=hid (fun B s W h hb=>HRec.out B w.heap.size s b W h hl hb)
 have HLf:=hid (fun B n er W (h:CurF W 242 B w.heap.size b n er)=>Left_cur B w.heap.size n er b W h)
 have HEr:=hid (fun B n er W (h:CurF W 242 B w.heap.size b n er)=>CErr_any B w.heap.size n er b W h)
 have HEnd:=hid (recGo_end wh b)
 have HStep:=hid (recGo_step wh b)
 have HBad:=hid (recGo_bad wh b)
 have HUp:=hid (rd_up wh b)
 have HLe:=hid (rd_le wh b)
 have HR0:Hid (recsL wh b=recGo wh b b.length ⟨0,0⟩ []):=rfl
 generalize recsL wh b=R at *
 obtain⟨a0,cap,hv,_⟩:=hs.shape
 subst hv
 clear hs
 have hinf:(Tryz.prog.info? 63).map (·.size)=some 4:=by kernel_rfl
 go_enter Tryz.func88, Tryz.ntmps88
 go_wp2_with fail
 refine(HNew.out).mono ?_
 rintro e w1 ⟨B,rfl,hC,hf1,hB⟩
 have hBw:=hC.lt
 have hg0:(w1.alloc (.cells #[.pointer (some ⟨B,0,none⟩)] 215)).heap[w1.heap.size]?=some (.cells #[.pointer (some ⟨B,0,none⟩)] 215 (0,0)):=heap_new _ _ _ rfl
 have hfa:Fr w1 (w1.alloc (.cells #[.pointer (some ⟨B,0,none⟩)] 215)):=(Fr.refl w1).alloc _
 have hC0:=hC.fr hfa
 have hf0:=hf1.trans hfa
 have hgw:w.heap.size<=w1.heap.size:=hf1.size
 go_upto_region 4 with fail
 generalize w1.alloc (.cells #[.pointer (some ⟨B,0,none⟩)] 215)=W0 at *
 generalize w1.heap.size=g at *
 clear hC hf1 hfa HNew
 have hBg:B≠g:=by omega
 go_loopw [7] (fun ov wr=>∃ (f:Nat) (s:Cs) (out:List Rec),s.er=0/\b.length<=f+s.at_/\out.length<=s.at_/\s.at_<=b.length/\Ow wr w.heap.size eR ov out/\CurF wr 242 B w.heap.size b s.at_ s.er/\wr.heap[g]?=some (.cells #[.pointer (some ⟨B,0,none⟩)] 215 (0,0))/\Hid (R=recGo wh b f s out)/\Fr w wr) (fun ov _=>b.length - (match ov with | .slice _ m _=>m | _=>0))
 case atStart=>exact⟨b.length,⟨0,0⟩,[],rfl,Nat.le_refl _,Nat.le_refl _,Nat.zero_le _,Ow.nil,hC0,hg0,HR0.out,hf0⟩
 case round=>
  clear hg0 hC0 hf0 HR0
  obtain⟨f,s,out,he,hfu,hol,hat,hO,hC,hG,HR,hf⟩:=hrel
  have c0:wr.cell? ⟨g,0,none⟩=some (.pointer (some ⟨B,0,none⟩)):=by rw [cell_of_heap hG];rfl
  have HL1:=hid (HLf.out B _ _ wr hC)
  obtain⟨oa,oc,hov⟩:=hO.shape'
  subst hov
  by_cases hlt:s.at_<b.length
  · obtain⟨f2,rfl⟩:∃ f2,f=f2+1:=by
      cases f with
      | zero=>omega
      | succ f2=>exact⟨f2,rfl⟩
    have i1:(0:Int)<(b.length:Int) - s.at_:=by omega
    go_wp2_with fail
    refine(HL1.out).mono ?_
    rintro e w2 ⟨rfl,hf2⟩
    have hC2:=hC.fr hf2
    have hG2:=hf2.heap hG
    have hO2:=hO.fr hf2
    have c2:=hf2.cell c0
    have hf02:=hf.trans hf2
    have HRc1:=hid (HRc.out B s w2 hC2 hf02.size)
    have hr1:((b.length - s.at_:Nat):Int)=(b.length:Int) - s.at_:=by omega
    have i2:(0:Int)<((b.length - s.at_:Nat):Int):=by omega
    generalize b.length - s.at_=m at *
    clear hO hC hG c0 hf hf2 HL1 i1 hr1
    go_wp2_with fail
    refine(HRc1.out).mono ?_
    rintro e w3 ⟨rfl,hC3,hc3⟩
    have hB3:=hC3.lt
    have hG3:=hc3.heap hG2 (fun e=>hBg e.symm)
    have hb3:=hC2.cbox
    have hO3 := hO2.chg hc3 (fun i hi e => by
     obtain ⟨cs, h5⟩ := hb3
     exact hO2.ne_cells h5 (by decide) (by rw [hi, show i = B from e]))
    have hf3:Fr w w3:=Chg.below hf02 hc3 hf02.size (fun i e=>by rw [show i=B from e];exact hB)
    have c3:w3.cell? ⟨g,0,none⟩=some (.pointer (some ⟨B,0,none⟩)):=by rw [cell_of_heap hG3];rfl
    have hfb:Fr w3 (w3.alloc (.cells #[.int .u64 ((rdR wh b s).time.toNat:Int),Fk.u8 (rdR wh b s).level,S (rdR wh b s).source,S (rdR wh b s).text] 63)):=(Fr.refl w3).alloc _
    have hX4:(w3.alloc (.cells #[.int .u64 ((rdR wh b s).time.toNat:Int),Fk.u8 (rdR wh b s).level,S (rdR wh b s).source,S (rdR wh b s).text] 63)).heap[w3.heap.size]?=some (.cells #[.int .u64 ((rdR wh b s).time.toNat:Int),Fk.u8 (rdR wh b s).level,S (rdR wh b s).source,S (rdR wh b s).text] 63 (0,0)):=heap_new _ _ _ rfl
    have HU:=hid (fun h=>HUp.out s h)
    have HS1:=hid (fun h=>HStep.out f2 s out hlt h)
    have HB1:=hid (fun h=>HBad.out f2 s out hlt h)
    have HL1:=hid (HLe.out s hat)
    clear hC2 hG2 hO2 c2 hf02 hc3 hb3 HRc1
    generalize rdR wh b s=r at *
    generalize (rdX wh b s).2=s2 at *
    have hC4:=hC3.fr hfb
    have hG4:=hfb.heap hG3
    have hO4:=hO3.fr hfb
    have c4:=hfb.cell c3
    have hf4:=hf3.trans hfb
    have HE4:=hid (HEr.out B _ _ _ hC4)
    have hlo:out.length+[r].length<=2147483648:=by rw [show [r].length=1 from rfl];omega
    clear hC3 hG3 hO3 c3 hf3 hfb
    go_wp2_with fail
    refine(HE4.out).mono ?_
    rintro e w5 ⟨rfl,rfl⟩
    generalize w3.alloc (.cells #[.int .u64 (r.time.toNat:Int),Fk.u8 r.level,S r.source,S r.text] 63)=W4 at *
    generalize w3.heap.size=x3 at *
    by_cases he2:s2.er=0
    · have h0:((s2.er:Nat):Int)=0:=by omega
      have HS2:=hid (HS1.out he2)
      have hup:=(HU.out he2).2.1
      have hrs:(#[Value.int .u64 (r.time.toNat:Int),Fk.u8 r.level,S r.source,S r.text]:Array Value).size=4:=rfl
      rw [h0]
      clear HB1 HE4 h0 HU
      go_wp2_with (first | (refine wpList_load_row rfl 63 (.tmp 8) rfl x3 rfl 63 #[.int .u64 (r.time.toNat:Int),Fk.u8 r.level,S r.source,S r.text] (0,0) _ hX4 Tryz.underlying63 rfl hinf ?_) | (at_builtin;refine wpList_app1 eR rfl (.tmp 26) (.tmp 28) 26 rfl Tryz.underlying26 w.heap.size rfl hO4 [r] _ _ _ rfl rfl rfl hlo hf4.size ?_))
      intro v' w6 hap
      have hC6:=hC4.app hO4 hap (by decide) (by decide)
      have hG6:=hap.chg'.heap hG4 (hO4.ne_cells hG4 (by decide))
      have hf6:=hap.below hO4 hf4 (Nat.le_refl _) hf4.size
      have hO6:=hap.own
      obtain⟨va,vc,hv'⟩:=hO6.shape'
      rw [List.length_append,show [r].length=1 from rfl]at hv'
      subst hv'
      have HO6:=hid hO6
      clear hap hO6 hO4
      go_wp2_with fail
      go_roundw
      case rel=>exact⟨f2,s2,out++[r],he2,by omega,by rw [List.length_append];simp;omega,HL1.out,HO6.out,hC6,hG6,by show _=_;rw [HR.out,HS2.out],hf6⟩
      case measure=>simp;omega
    · have h0:¬((s2.er:Nat):Int)=0:=by omega
      have HB2:=hid (HB1.out he2)
      clear HS1 HE4 HU he2 HL1
      go_wp2_with fail
      go_ret2
      rw [HR.out,HB2.out]
      exact⟨_,rfl,Ow.nil,hf4⟩
  · have i1:¬(0:Int)<(b.length:Int) - s.at_:=by omega
    have hm:b.length - s.at_=0:=by omega
    have HE2:=hid (HEnd.out f s out (by omega) he)
    rw [hm]at HL1
    clear hm
    go_wp2_with fail
    refine(HL1.out).mono ?_
    rintro e w2 ⟨rfl,hf2⟩
    have hO2:=hO.fr hf2
    have hf02:=hf.trans hf2
    go_wp2_with fail
    go_ret2
    rw [HR.out,HE2.out]
    exact⟨_,rfl,hO2,hf02⟩
set_option maxRecDepth 512
theorem QReadT_any(v:Value)(b:List UInt8)(w:World)(hs:See w eB v b)(hl:b.length<=1000000) :
  Calls Tryz.prog 88 #[.bool true,v] w fun e w'=>∃ u,e=.returned (.tuple #[u,.int .i64 ((recsL true b).2:Int)])/\Ow w' w.heap.size eR u (recsL true b).1/\Fr w w':=
 QRead_any true (fun B base s b W h hl hb=>recordT_any B base s b W h hl hb) v b w hs hl
end Go.Proofs.YtghcmindankceaaGreatDoor
