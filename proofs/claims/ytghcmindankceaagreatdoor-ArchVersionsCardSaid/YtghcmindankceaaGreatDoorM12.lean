/- Parts of the proof of ArchVersions: C1 V0 Dr1 C3 C2 Na Nb. -/
import Derived.Test.YtghcmindankceaaGreatDoorM11
import Derived.Test.YtghcmindankceaaGreatDoorM08
import Derived.Test.YtghcmindankceaaGreatDoorM21
import Derived.Test.YtghcmindankceaaGreatDoorM01
import Derived.Test.YtghcmindankceaaGreatDoorM06
set_option linter.unusedVariables false
set_option linter.unusedSectionVars false
set_option linter.unusedSimpArgs false
set_option maxHeartbeats 8000000
namespace Go.Proofs.YtghcmindankceaaGreatDoor
open Go.RowKit Go.Fk
def Crc(w:World):Prop:=∀ i,i<16->w.cell? ⟨0,i,none⟩=some (.int .u32 ((tabU i:Nat):Int))
theorem Crc.fr{w w':World}(h:Crc w)(hf:Fr w w'):Crc w':=fun i hi=>hf.cell (h i hi)
abbrev U4(n:Nat):Value:=.int .u32 (n:Int)
theorem and15_u32(x:Nat)(h:x<4294967296):bits .and .u32 (x:Int) 15=((x % 16:Nat):Int):=by
 have:=and_u32 x 15 h (by omega)
 have e:x &&& 15=x % 16:=Nat.and_two_pow_sub_one_eq_mod x 4
 rw [e]at this
 exact this
theorem not_u32(x:Nat)(h:x<4294967296):bits .xor .u32 IntKind.u32.max (x:Int)=((4294967295 - x:Nat):Int):=by
 have e:=xor_ones 32 x h
 rw [Nat.xor_comm]at e
 have:=xor_u32 4294967295 x (by omega) h
 rw [show(4294967295:Nat) ^^^ x=4294967295 - x from e]at this
 exact this
set_option maxRecDepth 100000
theorem More_any (x : Nat) (hx : x < 4294967296) (v : Value) (hs : List Hd) (ls : List (List UInt8)) (w : World) (hv : Sees2 w eHB eB v hs ls) (ht : Crc w) :
    Calls Tryz.prog 187 #[U4 x,v] w fun e w'=>e=.returned (U4 (4294967295 - crcGo (4294967295 - x) ls.flatten))/\w=w':=by
  obtain⟨a,cap,hva,hc1,hc2,hnn⟩:=hv.1.shape
  subst hva
  unfold maxLen at hc2
  have hn1:=not_u32 x hx
  have HL:=hid hv.2.1
  go_enter Tryz.func187, Tryz.ntmps187
  go_wp2_with fail
  go_loop [5,14] (fun xv iv=>∃ k:Nat,k<=hs.length/\iv=N k/\xv=U4 (crcGo (4294967295 - x) (ls.take k).flatten)) (fun _ iv=>hs.length - (intOf iv).toNat)
  case atStart=>exact⟨0,Nat.zero_le _,rfl,rfl⟩
  case round=>
    obtain⟨k,hk,rfl,rfl⟩:=hrel
    clear hn1
    have hY:crcGo (4294967295 - x) (ls.take k).flatten<4294967296:=crcGo_lt _ _ (by omega)
    by_cases hlt:k<hs.length
    · obtain⟨b,off,cap',hv2,e0⟩:=hv.1.cell1 (fun(h:Hd)=>h.v) rfl k hlt
      have hlt2:k<ls.length:=by have:=HL.out;omega
      have hsee:=hv.2.2 k hlt hlt2
      have HF:Hid (crcGo (4294967295 - x) (ls.take (k+1)).flatten=crcGo (crcGo (4294967295 - x) (ls.take k).flatten) ls[k]):=by
        show _=_;rw [flat_snoc ls k hlt2,crcGo_app]
      obtain⟨a2,c2,hh,_⟩:=hsee.shape
      generalize hs[k]=h at *
      generalize ls[k]=p at *
      generalize crcGo (4294967295 - x) (ls.take k).flatten=Y at *
      obtain⟨ha,hn2,hcc⟩:=h
      simp only [Hd.v,Value.slice.injEq]at hh
      obtain⟨rfl,rfl,rfl⟩:=hh
      simp only [Hd.v]at e0 hsee
      cases hv2
      have i1:(0:Int)<=k:=by omega
      have i2:(k:Int)<hs.length:=by omega
      have hpm:=hsee.le
      unfold maxLen at hpm
      go_wp2_with fail
      go_loop [5,20] (fun xv jv=>∃ j:Nat,j<=p.length/\jv=N j/\xv=U4 (crcGo Y (p.take j))) (fun _ jv=>p.length - (intOf jv).toNat)
      case atStart=>exact⟨0,Nat.zero_le _,rfl,rfl⟩
      case round=>
        obtain⟨j,hj,rfl,rfl⟩:=hrel
        have hZ:crcGo Y (p.take j)<4294967296:=crcGo_lt _ _ hY
        by_cases hjl:j<p.length
        · obtain⟨b2,off2,cap2,hv3,g0⟩:=hsee.cell1 (fun c=>Fk.u8 c) rfl j hjl
          have HZ:Hid (crcGo Y (p.take (j+1))=byteU (crcGo Y (p.take j)) p[j].toNat):=crcGo_snoc Y p j hjl
          generalize p[j]=c at *
          generalize crcGo Y (p.take j)=z at *
          cases hv3
          have hcb:=c.toNat_lt
          have k1:=xor_u32 z c.toNat hZ (by omega)
          have hz1:z ^^^ c.toNat<2 ^ 32:=Nat.xor_lt_two_pow hZ (by omega)
          have HB:=hid (byte_nib z c.toNat)
          generalize z ^^^ c.toNat=z1 at *
          have k2:=and15_u32 z1 hz1
          have hi1:z1 % 16<16:=by omega
          generalize z1 % 16=i1 at *
          have t1:=ht i1 hi1
          have hT1:=tabU_lt i1 hi1
          have k3:bits .xor .u32 ((z1:Int) / 16) ((tabU i1:Nat):Int)=(((z1 / 16) ^^^ tabU i1:Nat):Int):=by
            rw [show(z1:Int) / 16=((z1 / 16:Nat):Int) by omega];exact xor_u32 (z1 / 16) (tabU i1) (by omega) hT1
          have hz2:(z1 / 16) ^^^ tabU i1<2 ^ 32:=Nat.xor_lt_two_pow (by omega) hT1
          generalize (z1 / 16) ^^^ tabU i1=z2 at *
          have k4:=and15_u32 z2 hz2
          have hi2:z2 % 16<16:=by omega
          generalize z2 % 16=i2 at *
          have t2:=ht i2 hi2
          have hT2:=tabU_lt i2 hi2
          have k5:bits .xor .u32 ((z2:Int) / 16) ((tabU i2:Nat):Int)=(((z2 / 16) ^^^ tabU i2:Nat):Int):=by
            rw [show(z2:Int) / 16=((z2 / 16:Nat):Int) by omega];exact xor_u32 (z2 / 16) (tabU i2) (by omega) hT2
          have HE:Hid (crcGo Y (p.take (j+1))=z2 / 16 ^^^ tabU i2):=by show _=_;rw [HZ.out,HB.out]
          generalize (z2 / 16) ^^^ tabU i2=z3 at *
          generalize tabU i1=y1 at *
          generalize tabU i2=y2 at *
          have l1:(0:Int)<=i1:=by omega
          have l2:(i1:Int)<16:=by omega
          have l3:(0:Int)<=i2:=by omega
          have l4:(i2:Int)<16:=by omega
          have l5:(0:Int)<=j:=by omega
          have l6:(j:Int)<p.length:=by omega
          go_wp2_with fail
          go_round
          case rel=>exact⟨j+1,by omega,by go_num,by rw [HE.out]⟩
          case measure=>simp [intOf];omega
        · obtain rfl:j=p.length:=by omega
          have hnl:¬((p.length:Int)<p.length):=by omega
          rw [List.take_length,<- HF.out]
          go_wp2_with fail
          go_round
          case rel=>exact⟨k+1,by omega,by go_num,rfl⟩
          case measure=>simp [intOf];omega
    · obtain rfl:k=hs.length:=by omega
      have hnl:¬((hs.length:Int)<hs.length):=by omega
      rw [List.take_of_length_le (by have:=HL.out;omega)]at hY ⊢
      have hn2:=not_u32 _ hY
      generalize hYe:crcGo (4294967295 - x) ls.flatten=Y at *
      have HY:=hid hYe
      clear hYe
      go_wp2_with fail
      go_ret
      exact⟨by rw [HY.out];rfl,rfl⟩
set_option maxRecDepth 512
theorem one2(w:World)(v:Value)(r:Hd)(p:List UInt8)(hr:v=r.v)(hv:See w eB v p)(cs:Array Value)(hcs:cs=#[v]):Sees2 (w.alloc (.cells cs 22)) eHB eB (.slice (some ⟨w.heap.size,0,none⟩) 1 1) [r] [p]:=by
 subst hr hcs
 refine⟨see_new eHB w [r] _ _ 1 rfl rfl (by simp [maxLen]),rfl,fun i h1 h2=>?_⟩
 have:i=0:=by simp at h1;exact h1
 subst this
 exact hv.fr ((Fr.refl w).alloc _)
set_option maxRecDepth 100000
theorem Sum_any(v:Value)(p:List UInt8)(w:World)(hv:See w eB v p)(ht:Crc w) :
  Calls Tryz.prog 128 #[v] w fun e w'=>e=.returned (U4 (sumU p))/\Fr w w':=by
 obtain⟨a,cap,hva,_⟩:=hv.shape
 have h2:=one2 w v ⟨a,p.length,cap⟩ p hva hv #[v] rfl
 subst hva
 have HM:=hid (More_any 0 (by omega) _ _ _ _ h2 (ht.fr ((Fr.refl w).alloc _)))
 have HE:Hid (4294967295 - crcGo (4294967295 - 0) [p].flatten=sumU p):=by show _=_;unfold sumU;simp
 generalize 4294967295 - crcGo (4294967295 - 0) [p].flatten=Y at *
 clear h2
 go_enter Tryz.func128, Tryz.ntmps128
 go_wp2_with fail
 refine HM.out.mono ?_
 rintro e w1 ⟨rfl,rfl⟩
 go_wp2_with fail
 go_ret
 exact⟨by rw [<- HE.out];rfl,(Fr.refl w).alloc _⟩
set_option maxRecDepth 512
def tailB(s:Nat):List UInt8:=[UInt8.ofNat (s % 256),UInt8.ofNat (s / 256 % 256),UInt8.ofNat (s / 65536 % 256),UInt8.ofNat (s / 16777216 % 256)]
set_option maxRecDepth 100000
theorem tail_any(s:Nat)(hs:s<4294967296)(w:World) :
  Calls Tryz.prog 127 #[U4 s] w fun e w'=>∃ v,e=.returned v/\Ow w' w.heap.size eB v (tailB s)/\Fr w w':=by
 have hc:∀ W:World,Ow (W.alloc (.cells #[.int .u8 ((s:Int) % 256),.int .u8 ((s:Int) / 256 % 256),.int .u8 ((s:Int) / 65536 % 256),.int .u8 ((s:Int) / 16777216)] 5)) W.heap.size eB (.slice (some ⟨W.heap.size,0,none⟩) 4 4) (tailB s):=by
  intro W
  refine own_lit eB W _ (tailB s) 4 rfl (by simp [maxLen,tailB]) (Nat.le_refl _) ?_
  rw [show(s:Int) % 256=((s % 256:Nat):Int) by omega,show(s:Int) / 256 % 256=((s / 256 % 256:Nat):Int) by omega,show(s:Int) / 65536 % 256=((s / 65536 % 256:Nat):Int) by omega,show(s:Int) / 16777216=((s / 16777216 % 256:Nat):Int) by omega]
  rw [byte_val _ (by omega),byte_val _ (by omega),byte_val _ (by omega),byte_val _ (by omega)]
  rfl
 have HC:=hid (hc w)
 clear hc
 go_enter Tryz.func127, Tryz.ntmps127
 go_wp2_with fail
 go_ret
 exact⟨_,rfl,HC.out,(Fr.refl w).alloc _⟩
theorem Put_any(v:Value)(p:List UInt8)(w:World)(hv:See w eB v p)(hn:p.length<=1000000)(ht:Crc w) :
  Calls Tryz.prog 62 #[v] w fun e w'=>∃ v',e=.returned v'/\Ow w' w.heap.size eB v' (putB p)/\Fr w w':=by
 obtain⟨a,cap,hva,_⟩:=hv.shape
 have HCl:=hid (fun W (h:See W eB v p)=>BClone_any v p W h hn)
 have HS:=hid (fun W (h:See W eB v p) (h2:Crc W)=>Sum_any v p W h h2)
 have HT:=hid (tail_any (sumU p) (sumU_lt p))
 have HE:Hid (putB p=p++tailB (sumU p)):=rfl
 generalize sumU p=s at *
 subst hva
 go_enter Tryz.func62, Tryz.ntmps62
 go_wp2_with fail
 refine(HCl.out _ hv).mono ?_
 rintro e w1 ⟨v1,rfl,hown1,hf1⟩
 go_wp2_with fail
 refine(HS.out _ (hv.fr hf1) (ht.fr hf1)).mono ?_
 rintro e w2 ⟨rfl,hf2⟩
 go_wp2_with fail
 refine(HT.out _).mono ?_
 rintro e w3 ⟨v3,rfl,hown3,hf3⟩
 have hown1':=hown1.fr (hf2.trans hf3)
 have hf03:=(hf1.trans hf2).trans hf3
 have hc1:p.length+(tailB s).length<=2147483648:=by show _+4<=_;omega
 go_wp2_with (at_builtin;refine wpList_app eB rfl (.tmp 4) (.tmp 7) 22 rfl Tryz.underlying22 w.heap.size rfl hown1' _ _ rfl hown3.see hc1 hf03.size ?_)
 intro v4 w4 hap
 go_wp2_with fail
 go_ret
 exact⟨_,rfl,by rw [HE.out];exact hap.own,hap.below hown1' hf03 (Nat.le_refl _) hf03.size⟩
theorem RBit_any (x : Nat) (hx : x < 4294967296) (w : World) :
    Calls Tryz.prog 264 #[U4 x] w fun e w'=>e=.returned (U4 (bitU x))/\w=w':=by
  by_cases h:x % 2=1
  · have HE:Hid (bitU x=(x / 2) ^^^ 3988292384):=by show _=_;unfold bitU;rw [if_pos h]
    have h1:(x:Int) % 2=1:=by omega
    have h2:bits .xor .u32 ((x:Int) / 2) 3988292384=(((x / 2) ^^^ 3988292384:Nat):Int):=by
      rw [show(x:Int) / 2=((x / 2:Nat):Int) by omega];exact xor_u32 (x / 2) 3988292384 (by omega) (by omega)
    go_enter Tryz.func264, Tryz.ntmps264
    go_wp2_with fail
    go_ret
    exact⟨by rw [HE.out];rfl,rfl⟩
  · have HE:Hid (bitU x=x / 2):=by show _=_;unfold bitU;rw [if_neg h]
    have h1:(x:Int) % 2=0:=by omega
    go_enter Tryz.func264, Tryz.ntmps264
    go_wp2_with fail
    go_ret
    exact⟨by rw [HE.out];go_num,rfl⟩
set_option maxRecDepth 512
def bitI:Nat->Nat->Nat
 | 0,x=>x
 | n+1,x=>bitU (bitI n x)
theorem bitI_lt(n x:Nat)(h:x<4294967296):bitI n x<4294967296:=by
 induction n with
 | zero=>exact h
 | succ n ih=>exact bitU_lt _ ih
set_option maxRecDepth 100000
theorem RMore_any(x:Nat)(hx:x<4294967296)(v:Value)(p:List UInt8)(w:World)(hv:See w eB v p) :
  Calls Tryz.prog 203 #[U4 x,v] w fun e w'=>e=.returned (U4 (4294967295 - crcGo (4294967295 - x) p))/\w=w':=by
 obtain⟨a,cap,hva,hc1,hc2,hnn⟩:=hv.shape
 subst hva
 unfold maxLen at hc2
 have hw1:(4294967295:Int) - x=((4294967295 - x:Nat):Int):=by omega
 have HW1:=hid hw1
 clear hw1
 go_enter Tryz.func203, Tryz.ntmps203
 go_wp2_with fail
 go_loop [5,6] (fun xv iv=>∃ k:Nat,k<=p.length/\iv=N k/\xv=U4 (crcGo (4294967295 - x) (p.take k))) (fun _ iv=>p.length - (intOf iv).toNat)
 case atStart=>exact⟨0,Nat.zero_le _,rfl,by first | rfl | (rw [HW1.out];rfl)⟩
 case round=>
  obtain⟨k,hk,rfl,rfl⟩:=hrel
  have hY:crcGo (4294967295 - x) (p.take k)<4294967296:=crcGo_lt _ _ (by omega)
  by_cases hlt:k<p.length
  · obtain⟨b,off,cap',hv2,e0⟩:=hv.cell1 (fun c=>Fk.u8 c) rfl k hlt
    have HZ:Hid (crcGo (4294967295 - x) (p.take (k+1))=bitI 8 (crcGo (4294967295 - x) (p.take k) ^^^ p[k].toNat)):=crcGo_snoc _ p k hlt
    generalize p[k]=c at *
    generalize crcGo (4294967295 - x) (p.take k)=z at *
    cases hv2
    have hcb:=c.toNat_lt
    have k1:=xor_u32 z c.toNat hY (by omega)
    have hz1:z ^^^ c.toNat<2 ^ 32:=Nat.xor_lt_two_pow hY (by omega)
    generalize z ^^^ c.toNat=z1 at *
    have i1:(0:Int)<=k:=by omega
    have i2:(k:Int)<p.length:=by omega
    go_wp2_with fail
    go_loop [5,7] (fun xv jv=>∃ j:Nat,j<=8/\jv=N j/\xv=U4 (bitI j z1)) (fun _ jv=>8 - (intOf jv).toNat)
    case atStart=>exact⟨0,by omega,rfl,rfl⟩
    case round=>
     obtain⟨j,hj,rfl,rfl⟩:=hrel
     by_cases hj8:j<8
     · have hj8':(j:Int)<8:=by omega
       have HB:=hid (RBit_any (bitI j z1) (bitI_lt j z1 hz1))
       go_wp2_with fail
       refine(HB.out _).mono ?_
       rintro e w1 ⟨rfl,rfl⟩
       go_wp2_with fail
       go_round
       case rel=>exact⟨j+1,by omega,by go_num,rfl⟩
       case measure=>simp [intOf];omega
     · obtain rfl:j=8:=by omega
       rw [<- HZ.out]
       go_wp2_with fail
       go_round
       case rel=>exact⟨k+1,by omega,by go_num,rfl⟩
       case measure=>simp [intOf];omega
  · obtain rfl:k=p.length:=by omega
    have hnl:¬((p.length:Int)<p.length):=by omega
    rw [List.take_length]at hY ⊢
    generalize hYe:crcGo (4294967295 - x) p=Y at *
    have HY:=hid hYe
    clear hYe
    have HW2:Hid ((4294967295:Int) - Y=((4294967295 - Y:Nat):Int)):=by show _=_;omega
    go_wp2_with fail
    go_ret
    exact⟨by rw [HY.out];first | rfl | (show Ending.returned (.int .u32 _)=_;rw [HW2.out]),rfl⟩
theorem RSum_any(v:Value)(p:List UInt8)(w:World)(hv:See w eB v p) :
  Calls Tryz.prog 142 #[v] w fun e w'=>e=.returned (U4 (sumU p))/\w=w':=by
 obtain⟨a,cap,hva,_⟩:=hv.shape
 have HM:=hid (RMore_any 0 (by omega) v p w hv)
 have HE:Hid (4294967295 - crcGo (4294967295 - 0) p=sumU p):=rfl
 generalize 4294967295 - crcGo (4294967295 - 0) p=Y at *
 subst hva
 go_enter Tryz.func142, Tryz.ntmps142
 go_wp2_with fail
 refine HM.out.mono ?_
 rintro e w1 ⟨rfl,rfl⟩
 go_wp2_with fail
 go_ret
 exact⟨by rw [<- HE.out];rfl,rfl⟩
set_option maxRecDepth 512
theorem tail_fix(s:Nat):tailB s=fixB 4 s:=by
 simp only [tailB,fixB,Nat.div_div_eq_div_mul]
set_option maxRecDepth 100000
theorem RPut_any(v:Value)(p:List UInt8)(w:World)(hv:See w eB v p)(hn:p.length<=1000000) :
  Calls Tryz.prog 75 #[v] w fun e w'=>∃ v',e=.returned v'/\Ow w' w.heap.size eB v' (putB p)/\Fr w w':=by
 obtain⟨a,cap,hva,_⟩:=hv.shape
 have HS:=hid (RSum_any v p w hv)
 have HE:Hid (putB p=p++fixB 4 (sumU p)):=by show _=_;rw [<- tail_fix];rfl
 have hslt:=sumU_lt p
 generalize sumU p=s at *
 subst hva
 have hal:=own_lit eB w #[] [] 0 rfl (by simp [maxLen]) (Nat.le_refl _)
 have hsl:=hv.fr ((Fr.refl w).alloc (.cells #[] 5))
 have hc0:([]:List UInt8).length+p.length<=2147483648:=by simp;omega
 go_enter Tryz.func75, Tryz.ntmps75
 go_wp2_with fail
 refine HS.out.mono ?_
 rintro e w1 ⟨rfl,rfl⟩
 go_wp2_with (at_builtin;refine wpList_app eB rfl (.tmp 8) (.tmp 9) 22 rfl Tryz.underlying22 w.heap.size rfl hal _ _ rfl hsl hc0 (by simp) ?_)
 intro v2 w2 hap
 have hf2:Fr w w2:=hap.below hal ((Fr.refl w).alloc _) (Nat.le_refl _) (by simp)
 have own2:Ow w2 w.heap.size eB v2 p:=hap.own
 clear hap hal hsl
 go_wp2_with fail
 go_loopw [3,4,5] (fun sv ov iv wr=>∃ (i y:Nat) (o:List UInt8),i<=4/\iv=N i/\sv=U4 y/\y<4294967296/\Ow wr w.heap.size eB ov o/\o.length=p.length+i/\Hid (putB p=o++fixB (4 - i) y)/\Fr w wr) (fun _ _ iv _=>4 - (intOf iv).toNat)
 case atStart=>exact⟨0,s,p,by omega,rfl,rfl,hslt,own2,rfl,HE.out,hf2⟩
 case round=>
  obtain⟨i,y,o,hi,rfl,rfl,hy,hown,hol,HR,hf⟩:=hrel
  clear own2 hf2
  by_cases hlt:i<4
  · have hlt':(i:Int)<4:=by omega
    have e1:4 - i=(4 - (i+1))+1:=by omega
    have HE2:Hid (putB p=o++[UInt8.ofNat (y % 256)]++fixB (4 - (i+1)) (y / 256)):=by show _=_;rw [HR.out,e1,fixB];simp
    have HB:Hid ((#[Value.int .u8 ((y:Int) % 256)]:Array Value).toList=eB.cells [UInt8.ofNat (y % 256)]):=by
     show _=_
     have:=byte_cell (y % 256) (by omega)
     rw [show((y % 256:Nat):Int)=(y:Int) % 256 by omega]at this
     exact this
    have hc1:o.length+1<=2147483648:=by omega
    clear e1
    generalize UInt8.ofNat (y % 256)=c at *
    go_wp2_with (at_builtin;refine wpList_app1 eB rfl (.tmp 15) (.tmp 19) 22 rfl Tryz.underlying22 w.heap.size rfl hown [c] _ _ _ HB.out rfl rfl hc1 hf.size ?_)
    intro v' w4 hap
    go_wp2_with fail
    go_roundw
    case rel=>exact⟨i+1,y / 256,o++[c],by omega,by go_num,by go_num,by omega,hap.own,by rw [List.length_append,hol];rfl,HE2,hap.below hown hf (Nat.le_refl _) hf.size⟩
    case measure=>simp [intOf];omega
  · obtain rfl:i=4:=by omega
    have HE2:Hid (putB p=o):=by show _=_;rw [HR.out,Nat.sub_self,fixB,List.append_nil]
    go_wp2_with fail
    go_ret
    exact⟨_,rfl,by rw [HE2.out];exact hown,hf⟩
set_option maxRecDepth 512
theorem cells_hd(ps:List Hd):eHB.cells ps=ps.map Hd.v:=by
 induction ps with
 | nil=>rfl
 | cons p ps ih=>
  show [p.v]++eHB.cells ps=_
  rw [ih];rfl
theorem hd_of{w:World}{v:Value}{l:List UInt8}(h:See w eB v l):∃ p:Hd,v=p.v:=by
 obtain⟨a,cap,hv,_⟩:=h.shape
 exact⟨⟨a,_,cap⟩,hv⟩
theorem lit_sees2(w:World)(cs:Array Value)(T:TypeId)(ps:List Hd)(ls:List (List UInt8))(n:Nat)(hn:n=ps.length)(hcs:cs.toList=ps.map Hd.v)(hl:ps.length=ls.length)(hm:ps.length<=1000000)(h:∀ i (h1:i<ps.length) (h2:i<ls.length),See w eB ps[i].v ls[i]) :
  Sees2 (w.alloc (.cells cs T)) eHB eB (.slice (some ⟨w.heap.size,0,none⟩) n n) ps ls:=
 ⟨see_new eHB w ps cs T n hn (by rw [hcs,cells_hd]) (by unfold maxLen;omega),hl,fun i h1 h2=>(h i h1 h2).fr ((Fr.refl w).alloc _)⟩
theorem all2_any(va vb:Value)(la lb:List UInt8)(W:World)(ha:See W eB va la)(hb:See W eB vb lb)(hn:la.length+lb.length<=1000000) :
  Calls Tryz.prog 67 #[.slice (some ⟨W.heap.size,0,none⟩) 2 2] (W.alloc (.cells #[va,vb] 22)) fun e w'=>∃ v,e=.returned v/\Ow w' W.heap.size eB v (la++lb)/\Fr W w':=by
 obtain⟨pa,rfl⟩:=hd_of ha
 obtain⟨pb,rfl⟩:=hd_of hb
 have h2 := lit_sees2 W #[pa.v, pb.v] 22 [pa, pb] [la, lb] 2 rfl rfl rfl (by simp) (fun i h1 h2 => by
  match i, h1 with
  | 0, _ => exact ha
  | 1, _ => exact hb)
 refine(All_any _ _ _ _ h2 (by simp;omega)).mono ?_
 rintro e w' ⟨v,rfl,ho,hf⟩
 exact⟨v,rfl,by simpa using ho.rebase (b:=W.heap.size) (by simp),((Fr.refl W).alloc _).trans hf⟩
theorem all3_any(va vb vc:Value)(la lb lc:List UInt8)(W:World)(ha:See W eB va la)(hb:See W eB vb lb)(hc:See W eB vc lc)(hn:la.length+lb.length+lc.length<=1000000) :
  Calls Tryz.prog 67 #[.slice (some ⟨W.heap.size,0,none⟩) 3 3] (W.alloc (.cells #[va,vb,vc] 22)) fun e w'=>∃ v,e=.returned v/\Ow w' W.heap.size eB v (la++lb++lc)/\Fr W w':=by
 obtain⟨pa,rfl⟩:=hd_of ha
 obtain⟨pb,rfl⟩:=hd_of hb
 obtain⟨pc,rfl⟩:=hd_of hc
 have h2 := lit_sees2 W #[pa.v, pb.v, pc.v] 22 [pa, pb, pc] [la, lb, lc] 3 rfl rfl rfl (by simp) (fun i h1 h2 => by
  match i, h1 with
  | 0, _ => exact ha
  | 1, _ => exact hb
  | 2, _ => exact hc)
 refine(All_any _ _ _ _ h2 (by simp;omega)).mono ?_
 rintro e w' ⟨v,rfl,ho,hf⟩
 exact⟨v,rfl,by simpa using ho.rebase (b:=W.heap.size) (by simp),((Fr.refl W).alloc _).trans hf⟩
def prTo(cs:List Nat)(fr:Nat->List UInt8)(k:Nat):List UInt8:=((List.range k).map fun i=>numB (cs.getD i 0)++numB (fr i).length).flatten
def dirL(cs:List Nat)(fr:Nat->List UInt8)(a b:Nat):List UInt8:=(((numB cs.sum++numB cs.length)++prTo cs fr cs.length)++numB a)++numB b
theorem groups_sum_le(cs:List Nat)(k:Nat):(cs.take k).sum<=cs.sum:=by
 conv=>rhs;rw [<- List.take_append_drop k cs]
 rw [List.sum_append];omega
theorem numAt{w:World}{v:Value}{l:List Nat}(h:See w eJ v l)(k:Nat)(hk:k<l.length):∃ b off cap,v=.slice (some ⟨b,off,none⟩) l.length cap/\w.cell? ⟨b,off+k,none⟩=some (N l[k]):=h.cell1 N rfl k hk
theorem sum_snoc(l:List Nat)(k:Nat)(h:k<l.length):(l.take (k+1)).sum=(l.take k).sum+l[k]:=by
 rw [List.take_succ_eq_append_getElem h,List.sum_append];simp
def szL(fr:Nat->List UInt8)(k:Nat):List Nat:=(List.range k).map fun i=>(fr i).length
theorem conv_at(v:Value)(l:List UInt8)(w:World)(h:See w eB v l):(convert 22 9 v).run Tryz.prog w=.ok (S l) w:=
 run_conv_see eB w 22 9 Tryz.underlying22 (by kernel_rfl) Tryz.underlying9 rfl rfl h
theorem RSame1_any(va vb:Value)(a b:List UInt8)(w:World)(ha:See w eB va a)(hb:See w eB vb b) :
  Calls Tryz.prog 19 #[va,vb] w fun e w'=>e=.returned (.bool (decide (a=b)))/\w=w':=by
 have h1:=conv_at va a w ha
 have h2:=conv_at vb b w hb
 obtain⟨pa,ca,hva,_⟩:=ha.shape
 obtain⟨pb,cb,hvb,_⟩:=hb.shape
 subst hva hvb
 clear ha hb
 have hd:(a == b)=decide (a=b):=by rw [Bool.eq_iff_iff];simp
 generalize decide (a=b)=q at *
 go_enter Tryz.func19, Tryz.ntmps19
 go_wp2_with fail
 go_ret
 exact⟨rfl,rfl⟩
set_option maxRecDepth 100000
theorem BEqual_any(va vb:Value)(a b:List UInt8)(w:World)(ha:See w eB va a)(hb:See w eB vb b) :
  Calls Tryz.prog 79 #[va,vb] w fun e w'=>e=.returned (.bool (decide (a=b)))/\Fr w w':=by
 obtain⟨aa,ca,hva,ha1,ha2,_⟩:=ha.shape
 obtain⟨ab,cb,hvb,hb1,hb2,_⟩:=hb.shape
 subst hva hvb
 unfold maxLen at ha2 hb2
 generalize hR:decide (a=b)=R
 have HR:=hid hR
 clear hR
 go_enter Tryz.func79, Tryz.ntmps79
 by_cases hl:a.length=b.length
 · have HL:=hid hl
   rw [<- hl]
   clear hl hb1
   go_wp2_with fail
   go_loopw [13] (fun iv wr=>∃ i:Nat,i<=a.length/\iv=N i/\Hid (∀ j,j<i->a[j]?=b[j]?)/\Fr w wr) (fun iv _=>a.length - (intOf iv).toNat)
   case atStart=>exact⟨0,Nat.zero_le _,rfl,fun j h=>absurd h (Nat.not_lt_zero j),Fr.refl w⟩
   case round=>
    obtain⟨i,hi,rfl,HE,hf⟩:=hrel
    by_cases hlt:i<a.length
    · have hlb:i<b.length:=by have:=HL.out;omega
      obtain⟨b1,off1,cap1,hv1,e1⟩:=(ha.fr hf).cell1 Fk.u8 rfl i hlt
      obtain⟨b2,off2,cap2,hv2,e2⟩:=(hb.fr hf).cell1 Fk.u8 rfl i hlb
      have HA:Hid (a[i]?=some a[i]):=List.getElem?_eq_getElem hlt
      have HB:Hid (b[i]?=some b[i]):=List.getElem?_eq_getElem hlb
      generalize a[i]=x at *
      generalize b[i]=y at *
      have d1:wr.cell? ⟨b1,off1+i,none⟩=some (.int .u8 (x.toNat:Int)):=e1
      have d2:wr.cell? ⟨b2,off2+i,none⟩=some (.int .u8 (y.toNat:Int)):=e2
      clear e1 e2
      cases hv1
      cases hv2
      have i1:(0:Int)<=i:=by omega
      have i2:(i:Int)<a.length:=by omega
      by_cases hxy:x=y
      · subst hxy
        go_wp2_with fail
        go_quiet (fail)
        go_wp2_with fail
        go_roundw
        case rel => exact ⟨i + 1, by omega, by go_num, fun j hj => by
         by_cases e : j = i
         · subst e; rw [HA.out, HB.out]
         · exact HE.out j (by omega), hf.drewN _⟩
        case measure=>simp [intOf];omega
      · have hn:¬(x.toNat:Int)=y.toNat:=fun e=>hxy (UInt8.toNat_inj.1 (by omega))
        have HF:Hid (R=false):=by
         show _=_
         rw [<- HR.out]
         refine decide_eq_false fun e=>hxy ?_
         have h1:=HA.out
         rw [e,HB.out]at h1
         exact(Option.some.inj h1).symm
        clear hxy
        go_wp2_with fail
        go_quiet (fail)
        go_wp2_with fail
        go_ret
        exact⟨by rw [HF.out];rfl,hf.drewN _⟩
    · have HF:Hid (R=true):=by
        show _=_
        rw [<- HR.out]
        refine decide_eq_true (List.ext_getElem? fun j=>?_)
        by_cases hj:j<a.length
        · exact HE.out j (by omega)
        · rw [List.getElem?_eq_none (by omega),List.getElem?_eq_none (by have:=HL.out;omega)]
      obtain rfl:i=a.length:=by omega
      have hnl:¬((a.length:Int)<a.length):=by omega
      go_wp2_with fail
      go_ret
      exact⟨by rw [HF.out];rfl,hf⟩
 · have HF:Hid (R=false):=by
     show _=_
     rw [<- HR.out]
     exact decide_eq_false fun e=>hl (by rw [e])
   rw [HF.out]
   have hl':¬(a.length:Int)=b.length:=by omega
   go_wp2_with fail
   go_ret
   exact⟨rfl,Fr.refl w⟩
set_option maxRecDepth 512
theorem okCut_iff(l:List UInt8)(h:4<=l.length):okCut l=decide (l.drop (l.length - 4)=tailB (sumU (l.take (l.length - 4)))):=by
 have e:putB (l.take (l.length - 4))=l.take (l.length - 4)++tailB (sumU (l.take (l.length - 4))):=rfl
 unfold okCut
 rw [decide_eq_true h,Bool.true_and,e]
 generalize tailB (sumU (l.take (l.length - 4)))=t
 rw [Bool.eq_iff_iff,decide_eq_true_eq,decide_eq_true_eq]
 constructor
 · intro h2
   have:=congrArg (List.drop (l.length - 4)) h2
   rw [List.drop_append_of_le_length (by rw [List.length_take];omega),List.drop_of_length_le (by rw [List.length_take];omega),List.nil_append]at this
   exact this.symm
 · intro h2
   rw [<- h2,List.take_append_drop]
set_option maxRecDepth 100000
theorem Cut_any (v : Value) (l : List UInt8) (w : World) (hs : See w eB v l) (hn : l.length ≤ 1000000) (ht : Crc w) :
    Calls Tryz.prog 85 #[v] w fun e w'=>∃ u,e=.returned (.tuple #[u,.int .i64 (errCut l:Int)])/\Ow w' w.heap.size eB u (cutB l)/\Fr w w':=by
  obtain⟨a0,cap,hv,hc1,hc2,_⟩:=hs.shape
  subst hv
  unfold maxLen at hc2
  by_cases h4:l.length<4
  · have h0:okCut l=false:=by unfold okCut;rw [decide_eq_false (by omega),Bool.false_and]
    have HE:Hid (errCut l=1):=by show _=_;unfold errCut;rw [h0];simp [h4]
    have HC:Hid (cutB l=[]):=by show _=_;unfold cutB;rw [h0];simp
    rw [HC.out]
    have hw:IntKind.i64.wrap ((l.length:Int) - 4)=(l.length:Int) - 4:=IntWalk.i64_in _ (by omega)
    have hlt:(l.length:Int) - 4<0:=by omega
    rw [HE.out]
    clear h0 HE HC
    go_enter Tryz.func85, Tryz.ntmps85
    go_wp2_with fail
    go_ret2
    exact⟨_,rfl,Ow.nil,Fr.refl w⟩
  · obtain⟨n,hn4⟩:∃ n,n=l.length - 4:=⟨_,rfl⟩
    have hk:n<=l.length:=by omega
    obtain⟨f1,f2,hfr,hfs⟩:=run_from eB 22 Tryz.underlying22 hs n hk
    obtain⟨htr,hts⟩:=run_to eB 22 Tryz.underlying22 hs n hk
    have hok:=okCut_iff l (by omega)
    rw [<- hn4]at hok
    have hw:IntKind.i64.wrap ((l.length:Int) - 4)=(n:Int):=by rw [IntWalk.i64_in _ (by omega)];omega
    have hge:¬(n:Int)<0:=by omega
    have hlen:(l.take n).length=n:=by rw [List.length_take];omega
    have HS:=hid (fun W (h:Fr w W)=>Sum_any _ (l.take n) W (hts.fr h) (ht.fr h))
    have HT:=hid (tail_any (sumU (l.take n)) (sumU_lt _))
    have HQ:=hid (fun W v' (h:Fr w W) (h2:See W eB v' (tailB (sumU (l.take n))))=>BEqual_any _ v' _ _ W (hfs.fr h) h2)
    have HCl:=hid (fun W (h:Fr w W)=>BClone_any _ (l.take n) W (hts.fr h) (by rw [hlen];omega))
    have HE:Hid (errCut l=if okCut l then 0 else 5):=by show _=_;unfold errCut;simp [h4]
    have HC:Hid (cutB l=if okCut l then l.take n else []):=by show _=_;rw [hn4];rfl
    rw [<- hok]at HQ
    rw [HE.out,HC.out]
    clear HE HC hok hs hts hfs hlen hn4
    generalize sumU (l.take n)=s at *
    generalize okCut l=R at *
    generalize l.take n=q at *
    generalize l.length - n=m at *
    go_enter Tryz.func85, Tryz.ntmps85
    go_wp2_with fail
    go_region_held3 (fun _ => True) (first | trivial | go_keep) ((first
      | (go_at_call 128; refine (HS.out _ (Fr.refl w).drew).mono ?_; rintro e w1 ⟨rfl, hf1⟩)
      | (go_at_call 127; refine (HT.out _).mono ?_; rintro e w2 ⟨v2, rfl, hO2, hf2⟩)
      | (go_at_call 79; refine (HQ.out _ _ (((Fr.refl w).drew.trans hf1).trans hf2) hO2.see).mono ?_; rintro e w3 ⟨rfl, hf3⟩)))
    have hf03:Fr w w3:=(((Fr.refl w).drew.trans hf1).trans hf2).trans hf3
    clear hO2 hf1 hf2 hf3 HS HT HQ
    cases R
    · go_wp2_with fail
      go_ret2
      exact⟨_,rfl,Ow.nil,hf03⟩
    · go_wp2_with fail
      refine(HCl.out _ hf03).mono ?_
      rintro e w4 ⟨v4,rfl,hO4,hf4⟩
      obtain⟨p4,z4,hq4⟩:=hO4.shape'
      subst hq4
      go_wp2_with fail
      go_ret2
      exact⟨_,rfl,hO4.rebase hf03.size,hf03.trans hf4⟩
set_option maxRecDepth 512
structure OwB (w:World) (B base:Nat) (v:Value) (l:List UInt8):Prop where
 own:Ow w base eB v l
 top:∀ k,v.ownBlock=some k->k<B
theorem OwB.see{w:World}{B base:Nat}{v:Value}{l:List UInt8}(h:OwB w B base v l):See w eB v l:=h.own.see
theorem OwB.shape'{w:World}{B base:Nat}{v:Value}{l:List UInt8}(h:OwB w B base v l):∃ a cap,v=.slice a l.length cap:=h.own.shape'
theorem OwB.lt{w:World}{B base:Nat}{v:Value}{l:List UInt8}(h:OwB w B base v l):∀ k,v.ownBlock=some k->base<=k/\k<w.heap.size:=h.own.lt
theorem OwB.fr{w w':World}{B base:Nat}{v:Value}{l:List UInt8}(h:OwB w B base v l)(hf:Fr w w'):OwB w' B base v l:=⟨h.own.fr hf,h.top⟩
theorem OwB.chg{w w':World}{B base:Nat}{v:Value}{l:List UInt8}{G:Nat->Prop}(h:OwB w B base v l)(hg:Chg G w w')(hne:∀ k,v.ownBlock=some k->¬G k):OwB w' B base v l:=⟨h.own.chg hg hne,h.top⟩
theorem OwB.ne_cells{w:World}{B base:Nat}{v:Value}{l:List UInt8}(h:OwB w B base v l){b:Nat}{cs:Array Value}{T:TypeId}{f:Nat × Nat}(hb:w.heap[b]?=some (.cells cs T f))(hT:T≠(eB:Elt Tryz.prog UInt8).e):v.ownBlock≠some b:=h.own.ne_cells hb hT
structure CurF (w:World) (T:TypeId) (B base:Nat) (l:List UInt8) (n er:Nat):Prop where
 h:∃ v,w.heap[B]?=some (.cells #[v,N n,.int .i64 (er:Int)] T (0,0))/\OwB w B base v l
 le:n<=l.length
theorem CurF.fr{w w':World}{T:TypeId}{B base n er:Nat}{l:List UInt8}(h:CurF w T B base l n er)(hf:Fr w w'):CurF w' T B base l n er:=by
 obtain⟨⟨v,h1,h2⟩,h3⟩:=h
 exact⟨⟨v,hf.heap h1,h2.fr hf⟩,h3⟩
set_option maxRecDepth 100000
theorem New_any(v:Value)(l:List UInt8)(w:World)(hs:See w eB v l)(hn:l.length<=1000000) :
  Calls Tryz.prog 120 #[v] w fun e w'=>∃ B,e=.returned (.pointer (some ⟨B,0,none⟩))/\CurF w' 242 B w.heap.size l 0 0/\Fr w w'/\w.heap.size<=B:=by
 have HC:=hid (BClone_any v l w hs hn)
 obtain⟨a0,cap,hv,_⟩:=hs.shape
 subst hv
 clear hs
 go_enter Tryz.func120, Tryz.ntmps120
 go_wp2_with fail
 refine(HC.out).mono ?_
 rintro e w1 ⟨u,rfl,hu,hf⟩
 obtain⟨p,z,hq⟩:=hu.shape'
 subst hq
 go_wp2_with fail
 go_ret
 exact⟨w1.heap.size,rfl,⟨⟨_,heap_new _ _ _ rfl,hu.fr ((Fr.refl w1).alloc _),fun k hk=>(hu.lt k hk).2⟩,Nat.zero_le _⟩,hf.alloc _,hf.size⟩
set_option maxRecDepth 512
theorem CurF.box{w w':World}{T T2:TypeId}{B base n er g:Nat}{l:List UInt8}{cs:Array Value}{f:Nat × Nat}(h:CurF w T B base l n er)(hg:w.heap[g]?=some (.cells cs T2 f))(hT:T2≠(eB:Elt Tryz.prog UInt8).e)(hgB:B≠g)(hc:Chg (fun k=>k=g) w w'):CurF w' T B base l n er:=by
 obtain⟨⟨v,h1,h2⟩,h3⟩:=h
 exact⟨⟨v,hc.heap h1 hgB,h2.chg hc (fun k hk e=>h2.ne_cells hg hT (by rw [hk,e]))⟩,h3⟩
def set6(W:World)(z:Nat)(v0 v1 v2 v3 v4 v5:Value):World:=(((((W.setCell ⟨z,0,none⟩ v0).setCell ⟨z,1,none⟩ v1).setCell ⟨z,2,none⟩ v2).setCell ⟨z,3,none⟩ v3).setCell ⟨z,4,none⟩ v4).setCell ⟨z,5,none⟩ v5
theorem set6_at{T:TypeId}{W:World}{z:Nat}{u0 u1 u2 u3 u4 u5:Value}(v0 v1 v2 v3 v4 v5:Value)(h:W.heap[z]?=some (.cells #[u0,u1,u2,u3,u4,u5] T (0,0))):(set6 W z v0 v1 v2 v3 v4 v5).heap[z]?=some (.cells #[v0,v1,v2,v3,v4,v5] T (0,0))/\Chg (fun k=>k=z) W (set6 W z v0 v1 v2 v3 v4 v5):=by
  unfold set6
  have h0:(W.setCell ⟨z,0,none⟩ v0).heap[z]?=some (.cells #[v0,u1,u2,u3,u4,u5] T (0,0)):=heap_setCell_own h 0 v0
  have c0:=setCell_chg W ⟨z,0,none⟩ v0
  generalize W.setCell ⟨z,0,none⟩ v0=W0 at *
  have h1:(W0.setCell ⟨z,1,none⟩ v1).heap[z]?=some (.cells #[v0,v1,u2,u3,u4,u5] T (0,0)):=heap_setCell_own h0 1 v1
  have c1:=setCell_chg W0 ⟨z,1,none⟩ v1
  generalize W0.setCell ⟨z,1,none⟩ v1=W1 at *
  have h2:(W1.setCell ⟨z,2,none⟩ v2).heap[z]?=some (.cells #[v0,v1,v2,u3,u4,u5] T (0,0)):=heap_setCell_own h1 2 v2
  have c2:=setCell_chg W1 ⟨z,2,none⟩ v2
  generalize W1.setCell ⟨z,2,none⟩ v2=W2 at *
  have h3:(W2.setCell ⟨z,3,none⟩ v3).heap[z]?=some (.cells #[v0,v1,v2,v3,u4,u5] T (0,0)):=heap_setCell_own h2 3 v3
  have c3:=setCell_chg W2 ⟨z,3,none⟩ v3
  generalize W2.setCell ⟨z,3,none⟩ v3=W3 at *
  have h4:(W3.setCell ⟨z,4,none⟩ v4).heap[z]?=some (.cells #[v0,v1,v2,v3,v4,u5] T (0,0)):=heap_setCell_own h3 4 v4
  have c4:=setCell_chg W3 ⟨z,4,none⟩ v4
  generalize W3.setCell ⟨z,4,none⟩ v4=W4 at *
  have h5:(W4.setCell ⟨z,5,none⟩ v5).heap[z]?=some (.cells #[v0,v1,v2,v3,v4,v5] T (0,0)):=heap_setCell_own h4 5 v5
  have c5:=setCell_chg W4 ⟨z,5,none⟩ v5
  generalize W4.setCell ⟨z,5,none⟩ v5=W5 at *
  exact⟨h5,((((c0.trans c1 fun _ _ h=>h).trans c2 fun _ _ h=>h).trans c3 fun _ _ h=>h).trans c4 fun _ _ h=>h).trans c5 fun _ _ h=>h⟩
set_option maxRecDepth 100000
theorem rest_any(B base n er:Nat)(l:List UInt8)(w:World)(hc:CurF w 242 B base l n er) :
  Calls Tryz.prog 221 #[.pointer (some ⟨B,0,none⟩)] w fun e w'=>∃ a cap,e=.returned (.slice a (l.length - n) cap)/\See w' eB (.slice a (l.length - n) cap) (l.drop n)/\Fr w w':=by
 obtain⟨⟨v,h1,ho⟩,hle⟩:=hc
 obtain⟨a0,cap,hv⟩:=ho.shape'
 subst hv
 obtain⟨f1,f2,hfr,hfs⟩:=run_from eB 22 Tryz.underlying22 ho.see n hle
 have c0:w.cell? ⟨B,0,none⟩=some (.slice a0 l.length cap):=by rw [cell_of_heap h1];rfl
 have c1:w.cell? ⟨B,1,none⟩=some (N n):=by rw [cell_of_heap h1];rfl
 have HS:=hid hfs
 clear h1 ho hfs
 generalize l.length - n=m at *
 go_enter Tryz.func221, Tryz.ntmps221
 go_wp2_with fail
 go_quiet (fail)
 go_wp2_with fail
 go_ret
 exact⟨_,_,rfl,HS.out.fr ((Fr.refl w).drewN _),(Fr.refl w).drewN _⟩
theorem CErr_any(B base n er:Nat)(l:List UInt8)(w:World)(hc:CurF w 242 B base l n er) :
  Calls Tryz.prog 147 #[.pointer (some ⟨B,0,none⟩)] w fun e w'=>e=.returned (.int .i64 (er:Int))/\w=w':=by
 obtain⟨⟨v,h1,ho⟩,hle⟩:=hc
 have c2:w.cell? ⟨B,2,none⟩=some (.int .i64 (er:Int)):=by rw [cell_of_heap h1];rfl
 clear h1 ho
 go_enter Tryz.func147, Tryz.ntmps147
 go_wp2_with fail
 go_ret
 exact⟨rfl,rfl⟩
set_option maxRecDepth 512
end Go.Proofs.YtghcmindankceaaGreatDoor
