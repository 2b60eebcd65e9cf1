/- Parts of the proof of ThreeOpens: N2 C1 C3 C2 Na Nb Nc Nd Ne Nf Ng Ca Cb. -/
import Derived.Test.YtijghcbpfcjjnaaGreatDoorM04
import Derived.Test.YtijghcbpfcjjnaaGreatDoorM08
import Derived.Test.YtijghcbpfcjjnaaGreatDoorM06
import Derived.Test.YtijghcbpfcjjnaaGreatDoorM09
import Derived.Test.YtijghcbpfcjjnaaGreatDoorM05
set_option linter.unusedVariables false
set_option linter.unusedSectionVars false
set_option linter.unusedSimpArgs false
set_option maxHeartbeats 8000000
namespace Go.Proofs.YtijghcbpfcjjnaaGreatDoor
open Go.RowKit Go.Fk
theorem or_all:allB 256 (fun y=>(y ||| 128) == 128+y % 128)=true:=by decide +kernel
theorem or_high(x:Nat):bits .or .u8 ((x:Int) % 256) 128=((UInt8.ofNat (128+x % 128)).toNat:Int):=by
 have h:(x % 256) ||| 128=128+(x % 256) % 128:=beq_iff_eq.1 (allB_out 256 _ or_all (x % 256) (by omega))
 rw [show(x:Int) % 256=((x % 256:Nat):Int) by omega,show(128:Int)=((128:Nat):Int)from rfl,or_u8 (x % 256) 128 (by omega) (by omega),h,UInt8.toNat_ofNat']
 omega
theorem byte_cell(x:Nat)(h:x<256):(#[Value.int .u8 (x:Int)]:Array Value).toList=eB.cells [UInt8.ofNat x]:=by
 have e:(x:Int)=((UInt8.ofNat x).toNat:Int):=by rw [UInt8.toNat_ofNat'];omega
 rw [e];rfl
set_option maxRecDepth 100000
theorem Num_any(x:Nat)(hx:x<18446744073709551616)(w:World) :
  Calls Tryz.prog 103 #[.int .u64 (x:Int)] w fun e w'=>∃ v,e=.returned v/\Ow w' w.heap.size eB v (numB x)/\Fr w w':=by
 have hlen:=numB_le x hx
 generalize hR:numB x=R at *
 have HL:=hid hlen
 go_enter Tryz.func103, Tryz.ntmps103
 go_wp2_with fail
 go_loopw [0,3] (fun xv ov wr=>∃ (y:Nat) (o:List UInt8),xv=.int .u64 (y:Int)/\y<18446744073709551616/\Ow wr w.heap.size eB ov o/\Hid (R=o++numB y)/\Fr w wr) (fun xv _ _=>(intOf xv).toNat)
 case atStart=>exact⟨x,[],rfl,hx,Ow.nil,by show _=_;rw [hR];rfl,Fr.refl w⟩
 case round=>
  obtain⟨y,o,rfl,hy,hown,HR,hf⟩:=hrel
  have hol:o.length<=10:=by
   have h1:=HL.out
   rw [HR.out,List.length_append]at h1
   omega
  have hc1:o.length+1<=2147483648:=by omega
  clear hlen hR
  by_cases hb:y<128
  · have HE:Hid (R=o++[UInt8.ofNat y]):=by show _=_;rw [HR.out,numB_one y hb]
    have HB:=hid (byte_cell y (by omega))
    have hb':¬(128:Int)<=y:=by omega
    generalize UInt8.ofNat y=c at *
    go_wp2_with (at_builtin;refine wpList_app1 eB rfl (.tmp 14) (.tmp 17) 22 rfl Tryz.underlying22 w.heap.size rfl hown [c] _ _ _ HB.out rfl rfl hc1 hf.size ?_)
    intro v' w4 hap
    go_wp2_with fail
    go_ret
    exact⟨_,rfl,by rw [HE.out];exact hap.own,hap.below hown hf (Nat.le_refl _) hf.size⟩
  · have HE:Hid (R=o++[UInt8.ofNat (128+y % 128)]++numB (y / 128)):=by show _=_;rw [HR.out,numB_more y hb];simp
    have hor:=or_high y
    have hb':(128:Int)<=y:=by omega
    generalize UInt8.ofNat (128+y % 128)=c at *
    go_wp2_with (at_builtin;refine wpList_app1 eB rfl (.tmp 6) (.tmp 10) 22 rfl Tryz.underlying22 w.heap.size rfl hown [c] _ _ _ rfl rfl rfl hc1 hf.size ?_)
    intro v' w4 hap
    go_wp2_with fail
    go_roundw
    case rel=>exact⟨y / 128,o++[c],by go_num,by omega,hap.own,HE,hap.below hown hf (Nat.le_refl _) hf.size⟩
    case measure=>simp [intOf];omega
set_option maxRecDepth 512
theorem All_any(v:Value)(hs:List Hd)(ls:List (List UInt8))(w:World)(hv:Sees2 w eHB eB v hs ls)(hn:ls.flatten.length<=1000000) :
  Calls Tryz.prog 61 #[v] w fun e w'=>∃ v,e=.returned v/\Ow w' w.heap.size eB v ls.flatten/\Fr w w':=by
 obtain⟨a,cap,hva,_⟩:=hv.1.shape
 have HC:=hid (BConcat_any v hs ls w hv hn)
 subst hva
 go_enter Tryz.func61, Tryz.ntmps61
 go_wp2_with fail
 refine HC.out.mono ?_
 rintro e w1 ⟨v1,rfl,hown,hf⟩
 go_wp2_with fail
 go_ret
 exact⟨_,rfl,hown,hf⟩
theorem shr256(x i:Nat):((x:Int) / 2 ^ (8*i))=((x / 256 ^ i:Nat):Int):=by
 rw [show(256:Nat) ^ i=2 ^ (8*i) by rw [Nat.pow_mul]]
 simp
set_option maxRecDepth 100000
theorem Fixed_any(x n:Nat)(hn:1<=n)(hn8:n<=7)(hx:x<256 ^ n)(hx64:x<18446744073709551616)(w:World) :
  Calls Tryz.prog 60 #[.int .u64 (x:Int),N n] w fun e w'=>∃ v,e=.returned (.tuple #[v,.int .i64 0])/\Ow w' w.heap.size eB v (fixB n x)/\Fr w w':=by
 have h1:¬(n:Int)<1:=by omega
 have h2:¬(8:Int)<n:=by omega
 have h3:(n:Int)<8:=by omega
 have h4:(x:Int) / 2 ^ (8*n)=0:=by rw [shr256,Nat.div_eq_of_lt hx];rfl
 have hmk:=made_run eB rfl rfl 22 Tryz.underlying22 .i64 .i64 n (by omega)
 have hmo:∀ W:World,Ow (W.alloc (.cells (madeCells #[eB.z] n) eB.e)) W.heap.size eB (.slice (some ⟨W.heap.size,0,none⟩) n n) (List.replicate n 0):=fun W=>made_own eB rfl rfl n (by omega) W (Nat.le_refl _)
 generalize hR:fixB n x=R
 have HL:Hid (R.length=n):=by show _=_;rw [<- hR,fixB_len]
 have HA:Hid (∀ i (h:i<n) (h2:i<R.length),R[i]=UInt8.ofNat (x / 256 ^ i % 256)):=by
  intro i h h2
  subst hR
  exact fixB_at n x i h
 have HMO:=hid hmo
 clear hx hR hmo
 go_enter Tryz.func60, Tryz.ntmps60
 go_wp2_with fail
 have hown0:=HMO.out w
 have hf0:Fr w (w.alloc (.cells (madeCells #[eB.z] n) eB.e)):=(Fr.refl w).alloc _
 generalize w.alloc (.cells (madeCells #[eB.z] n) eB.e)=w0 at *
 generalize hg:w.heap.size=g at *
 clear h1 h2 h3 h4 hmk
 go_loopw [29] (fun iv wr=>∃ i:Nat,i<=n/\iv=N i/\Ow wr g eB (.slice (some ⟨g,0,none⟩) n n) (R.take i++List.replicate (n - i) 0)/\Below g w wr) (fun iv _=>n - (intOf iv).toNat)
 case atStart=>exact⟨0,Nat.zero_le _,rfl,hown0,by rw [<- hg];exact hf0⟩
 case round=>
  obtain⟨i,hi,rfl,hown,hf⟩:=hrel
  clear hown0 hf0
  by_cases hlt:i<n
  · have hlt':(i:Int)<n:=by omega
    have hi0:(0:Int)<=i:=by omega
    have hll:(R.take i++List.replicate (n - i) (0:UInt8)).length=n:=fill_len R 0 n i HL.out hi
    obtain⟨c0,c1⟩:=hown.cellAt Fk.u8 rfl i (by rw [hll];exact hlt)
    have HR:Hid ((R.take i++List.replicate (n - i) (0:UInt8)).set i (UInt8.ofNat (x / 256 ^ i % 256))=R.take (i+1)++List.replicate (n - (i+1)) 0):=by
     exact fill_set R 0 n i HL.out hlt _ (HA.out i hlt (by have:=HL.out;omega))
    have hset:=hown.set Fk.u8 rfl i (by rw [hll];exact hlt) (UInt8.ofNat (x / 256 ^ i % 256)) (.int .u8 ((x / 256 ^ i % 256:Nat):Int)) (by show Value.int .u8 _=_;rw [UInt8.toNat_ofNat'];congr 1;omega)
    rw [HR.out]at hset
    have hx8:((x:Int) / 2 ^ (8*i)) % 256=((x / 256 ^ i % 256:Nat):Int):=by rw [shr256];omega
    have hfs:=set_below hf (Nat.le_refl g) (by rw [<- hg];exact(Below.size hf)) (i:=i) (u:=.int .u8 ((x / 256 ^ i % 256:Nat):Int))
    go_wp2_with fail
    go_roundw
    case rel=>exact⟨i+1,by omega,by go_num,hset,hfs⟩
    case measure=>simp [intOf];omega
  · obtain rfl:i=n:=by omega
    have hnl:¬((i:Int)<i):=by omega
    rw [Nat.sub_self,List.replicate_zero,List.append_nil,List.take_of_length_le (by have:=HL.out;omega)]at hown
    go_wp2_with fail
    exact bodyPost_ret (v:=.tuple #[.slice (some ⟨g,0,none⟩) i i,.int .i64 0]) (by simp [results,Tryz.results60,go_sem, *]) rfl ⟨_,rfl,hown,by rw [<- hg]at hf;exact hf⟩
set_option maxRecDepth 512
def Crc(w:World):Prop:=∀ i,i<16->w.cell? ⟨0,i,none⟩=some (.int .u32 ((tabU i:Nat):Int))
theorem Crc.fr{w w':World}(h:Crc w)(hf:Fr w w'):Crc w':=fun i hi=>hf.cell (h i hi)
abbrev U4(n:Nat):Value:=.int .u32 (n:Int)
theorem and15_u32(x:Nat)(h:x<4294967296):bits .and .u32 (x:Int) 15=((x % 16:Nat):Int):=by
 have:=and_u32 x 15 h (by omega)
 have e:x &&& 15=x % 16:=Nat.and_two_pow_sub_one_eq_mod x 4
 rw [e]at this
 exact this
theorem not_u32(x:Nat)(h:x<4294967296):bits .xor .u32 IntKind.u32.max (x:Int)=((4294967295 - x:Nat):Int):=by
 have e:=xor_ones 32 x h
 rw [Nat.xor_comm]at e
 have:=xor_u32 4294967295 x (by omega) h
 rw [show(4294967295:Nat) ^^^ x=4294967295 - x from e]at this
 exact this
set_option maxRecDepth 100000
theorem More_any (x : Nat) (hx : x < 4294967296) (v : Value) (hs : List Hd) (ls : List (List UInt8)) (w : World) (hv : Sees2 w eHB eB v hs ls) (ht : Crc w) :
    Calls Tryz.prog 133 #[U4 x,v] w fun e w'=>e=.returned (U4 (4294967295 - crcGo (4294967295 - x) ls.flatten))/\w=w':=by
  obtain⟨a,cap,hva,hc1,hc2,hnn⟩:=hv.1.shape
  subst hva
  unfold maxLen at hc2
  have hn1:=not_u32 x hx
  have HL:=hid hv.2.1
  go_enter Tryz.func133, Tryz.ntmps133
  go_wp2_with fail
  go_loop [5,14] (fun xv iv=>∃ k:Nat,k<=hs.length/\iv=N k/\xv=U4 (crcGo (4294967295 - x) (ls.take k).flatten)) (fun _ iv=>hs.length - (intOf iv).toNat)
  case atStart=>exact⟨0,Nat.zero_le _,rfl,rfl⟩
  case round=>
    obtain⟨k,hk,rfl,rfl⟩:=hrel
    clear hn1
    have hY:crcGo (4294967295 - x) (ls.take k).flatten<4294967296:=crcGo_lt _ _ (by omega)
    by_cases hlt:k<hs.length
    · obtain⟨b,off,cap',hv2,e0⟩:=hv.1.cell1 (fun(h:Hd)=>h.v) rfl k hlt
      have hlt2:k<ls.length:=by have:=HL.out;omega
      have hsee:=hv.2.2 k hlt hlt2
      have HF:Hid (crcGo (4294967295 - x) (ls.take (k+1)).flatten=crcGo (crcGo (4294967295 - x) (ls.take k).flatten) ls[k]):=by
        show _=_;rw [flat_snoc ls k hlt2,crcGo_app]
      obtain⟨a2,c2,hh,_⟩:=hsee.shape
      generalize hs[k]=h at *
      generalize ls[k]=p at *
      generalize crcGo (4294967295 - x) (ls.take k).flatten=Y at *
      obtain⟨ha,hn2,hcc⟩:=h
      simp only [Hd.v,Value.slice.injEq]at hh
      obtain⟨rfl,rfl,rfl⟩:=hh
      simp only [Hd.v]at e0 hsee
      cases hv2
      have i1:(0:Int)<=k:=by omega
      have i2:(k:Int)<hs.length:=by omega
      have hpm:=hsee.le
      unfold maxLen at hpm
      go_wp2_with fail
      go_loop [5,20] (fun xv jv=>∃ j:Nat,j<=p.length/\jv=N j/\xv=U4 (crcGo Y (p.take j))) (fun _ jv=>p.length - (intOf jv).toNat)
      case atStart=>exact⟨0,Nat.zero_le _,rfl,rfl⟩
      case round=>
        obtain⟨j,hj,rfl,rfl⟩:=hrel
        have hZ:crcGo Y (p.take j)<4294967296:=crcGo_lt _ _ hY
        by_cases hjl:j<p.length
        · obtain⟨b2,off2,cap2,hv3,g0⟩:=hsee.cell1 (fun c=>Fk.u8 c) rfl j hjl
          have HZ:Hid (crcGo Y (p.take (j+1))=byteU (crcGo Y (p.take j)) p[j].toNat):=crcGo_snoc Y p j hjl
          generalize p[j]=c at *
          generalize crcGo Y (p.take j)=z at *
          cases hv3
          have hcb:=c.toNat_lt
          have k1:=xor_u32 z c.toNat hZ (by omega)
          have hz1:z ^^^ c.toNat<2 ^ 32:=Nat.xor_lt_two_pow hZ (by omega)
          have HB:=hid (byte_nib z c.toNat)
          generalize z ^^^ c.toNat=z1 at *
          have k2:=and15_u32 z1 hz1
          have hi1:z1 % 16<16:=by omega
          generalize z1 % 16=i1 at *
          have t1:=ht i1 hi1
          have hT1:=tabU_lt i1 hi1
          have k3:bits .xor .u32 ((z1:Int) / 16) ((tabU i1:Nat):Int)=(((z1 / 16) ^^^ tabU i1:Nat):Int):=by
            rw [show(z1:Int) / 16=((z1 / 16:Nat):Int) by omega];exact xor_u32 (z1 / 16) (tabU i1) (by omega) hT1
          have hz2:(z1 / 16) ^^^ tabU i1<2 ^ 32:=Nat.xor_lt_two_pow (by omega) hT1
          generalize (z1 / 16) ^^^ tabU i1=z2 at *
          have k4:=and15_u32 z2 hz2
          have hi2:z2 % 16<16:=by omega
          generalize z2 % 16=i2 at *
          have t2:=ht i2 hi2
          have hT2:=tabU_lt i2 hi2
          have k5:bits .xor .u32 ((z2:Int) / 16) ((tabU i2:Nat):Int)=(((z2 / 16) ^^^ tabU i2:Nat):Int):=by
            rw [show(z2:Int) / 16=((z2 / 16:Nat):Int) by omega];exact xor_u32 (z2 / 16) (tabU i2) (by omega) hT2
          have HE:Hid (crcGo Y (p.take (j+1))=z2 / 16 ^^^ tabU i2):=by show _=_;rw [HZ.out,HB.out]
          generalize (z2 / 16) ^^^ tabU i2=z3 at *
          generalize tabU i1=y1 at *
          generalize tabU i2=y2 at *
          have l1:(0:Int)<=i1:=by omega
          have l2:(i1:Int)<16:=by omega
          have l3:(0:Int)<=i2:=by omega
          have l4:(i2:Int)<16:=by omega
          have l5:(0:Int)<=j:=by omega
          have l6:(j:Int)<p.length:=by omega
          go_wp2_with fail
          go_round
          case rel=>exact⟨j+1,by omega,by go_num,by rw [HE.out]⟩
          case measure=>simp [intOf];omega
        · obtain rfl:j=p.length:=by omega
          have hnl:¬((p.length:Int)<p.length):=by omega
          rw [List.take_length,<- HF.out]
          go_wp2_with fail
          go_round
          case rel=>exact⟨k+1,by omega,by go_num,rfl⟩
          case measure=>simp [intOf];omega
    · obtain rfl:k=hs.length:=by omega
      have hnl:¬((hs.length:Int)<hs.length):=by omega
      rw [List.take_of_length_le (by have:=HL.out;omega)]at hY ⊢
      have hn2:=not_u32 _ hY
      generalize hYe:crcGo (4294967295 - x) ls.flatten=Y at *
      have HY:=hid hYe
      clear hYe
      go_wp2_with fail
      go_ret
      exact⟨by rw [HY.out];rfl,rfl⟩
set_option maxRecDepth 512
theorem one2(w:World)(v:Value)(r:Hd)(p:List UInt8)(hr:v=r.v)(hv:See w eB v p)(cs:Array Value)(hcs:cs=#[v]):Sees2 (w.alloc (.cells cs 22)) eHB eB (.slice (some ⟨w.heap.size,0,none⟩) 1 1) [r] [p]:=by
 subst hr hcs
 refine⟨see_new eHB w [r] _ _ 1 rfl rfl (by simp [maxLen]),rfl,fun i h1 h2=>?_⟩
 have:i=0:=by simp at h1;exact h1
 subst this
 exact hv.fr ((Fr.refl w).alloc _)
set_option maxRecDepth 100000
theorem Sum_any(v:Value)(p:List UInt8)(w:World)(hv:See w eB v p)(ht:Crc w) :
  Calls Tryz.prog 84 #[v] w fun e w'=>e=.returned (U4 (sumU p))/\Fr w w':=by
 obtain⟨a,cap,hva,_⟩:=hv.shape
 have h2:=one2 w v ⟨a,p.length,cap⟩ p hva hv #[v] rfl
 subst hva
 have HM:=hid (More_any 0 (by omega) _ _ _ _ h2 (ht.fr ((Fr.refl w).alloc _)))
 have HE:Hid (4294967295 - crcGo (4294967295 - 0) [p].flatten=sumU p):=by show _=_;unfold sumU;simp
 generalize 4294967295 - crcGo (4294967295 - 0) [p].flatten=Y at *
 clear h2
 go_enter Tryz.func84, Tryz.ntmps84
 go_wp2_with fail
 refine HM.out.mono ?_
 rintro e w1 ⟨rfl,rfl⟩
 go_wp2_with fail
 go_ret
 exact⟨by rw [<- HE.out];rfl,(Fr.refl w).alloc _⟩
set_option maxRecDepth 512
def tailB(s:Nat):List UInt8:=[UInt8.ofNat (s % 256),UInt8.ofNat (s / 256 % 256),UInt8.ofNat (s / 65536 % 256),UInt8.ofNat (s / 16777216 % 256)]
set_option maxRecDepth 100000
theorem tail_any(s:Nat)(hs:s<4294967296)(w:World) :
  Calls Tryz.prog 83 #[U4 s] w fun e w'=>∃ v,e=.returned v/\Ow w' w.heap.size eB v (tailB s)/\Fr w w':=by
 have hc:∀ W:World,Ow (W.alloc (.cells #[.int .u8 ((s:Int) % 256),.int .u8 ((s:Int) / 256 % 256),.int .u8 ((s:Int) / 65536 % 256),.int .u8 ((s:Int) / 16777216)] 5)) W.heap.size eB (.slice (some ⟨W.heap.size,0,none⟩) 4 4) (tailB s):=by
  intro W
  refine own_lit eB W _ (tailB s) 4 rfl (by simp [maxLen,tailB]) (Nat.le_refl _) ?_
  rw [show(s:Int) % 256=((s % 256:Nat):Int) by omega,show(s:Int) / 256 % 256=((s / 256 % 256:Nat):Int) by omega,show(s:Int) / 65536 % 256=((s / 65536 % 256:Nat):Int) by omega,show(s:Int) / 16777216=((s / 16777216 % 256:Nat):Int) by omega]
  rw [byte_val _ (by omega),byte_val _ (by omega),byte_val _ (by omega),byte_val _ (by omega)]
  rfl
 have HC:=hid (hc w)
 clear hc
 go_enter Tryz.func83, Tryz.ntmps83
 go_wp2_with fail
 go_ret
 exact⟨_,rfl,HC.out,(Fr.refl w).alloc _⟩
theorem Put_any(v:Value)(p:List UInt8)(w:World)(hv:See w eB v p)(hn:p.length<=1000000)(ht:Crc w) :
  Calls Tryz.prog 55 #[v] w fun e w'=>∃ v',e=.returned v'/\Ow w' w.heap.size eB v' (putB p)/\Fr w w':=by
 obtain⟨a,cap,hva,_⟩:=hv.shape
 have HCl:=hid (fun W (h:See W eB v p)=>BClone_any v p W h hn)
 have HS:=hid (fun W (h:See W eB v p) (h2:Crc W)=>Sum_any v p W h h2)
 have HT:=hid (tail_any (sumU p) (sumU_lt p))
 have HE:Hid (putB p=p++tailB (sumU p)):=rfl
 generalize sumU p=s at *
 subst hva
 go_enter Tryz.func55, Tryz.ntmps55
 go_wp2_with fail
 refine(HCl.out _ hv).mono ?_
 rintro e w1 ⟨v1,rfl,hown1,hf1⟩
 go_wp2_with fail
 refine(HS.out _ (hv.fr hf1) (ht.fr hf1)).mono ?_
 rintro e w2 ⟨rfl,hf2⟩
 go_wp2_with fail
 refine(HT.out _).mono ?_
 rintro e w3 ⟨v3,rfl,hown3,hf3⟩
 have hown1':=hown1.fr (hf2.trans hf3)
 have hf03:=(hf1.trans hf2).trans hf3
 have hc1:p.length+(tailB s).length<=2147483648:=by show _+4<=_;omega
 go_wp2_with (at_builtin;refine wpList_app eB rfl (.tmp 4) (.tmp 7) 22 rfl Tryz.underlying22 w.heap.size rfl hown1' _ _ rfl hown3.see hc1 hf03.size ?_)
 intro v4 w4 hap
 go_wp2_with fail
 go_ret
 exact⟨_,rfl,by rw [HE.out];exact hap.own,hap.below hown1' hf03 (Nat.le_refl _) hf03.size⟩
theorem RBit_any (x : Nat) (hx : x < 4294967296) (w : World) :
    Calls Tryz.prog 217 #[U4 x] w fun e w'=>e=.returned (U4 (bitU x))/\w=w':=by
  by_cases h:x % 2=1
  · have HE:Hid (bitU x=(x / 2) ^^^ 3988292384):=by show _=_;unfold bitU;rw [if_pos h]
    have h1:(x:Int) % 2=1:=by omega
    have h2:bits .xor .u32 ((x:Int) / 2) 3988292384=(((x / 2) ^^^ 3988292384:Nat):Int):=by
      rw [show(x:Int) / 2=((x / 2:Nat):Int) by omega];exact xor_u32 (x / 2) 3988292384 (by omega) (by omega)
    go_enter Tryz.func217, Tryz.ntmps217
    go_wp2_with fail
    go_ret
    exact⟨by rw [HE.out];rfl,rfl⟩
  · have HE:Hid (bitU x=x / 2):=by show _=_;unfold bitU;rw [if_neg h]
    have h1:(x:Int) % 2=0:=by omega
    go_enter Tryz.func217, Tryz.ntmps217
    go_wp2_with fail
    go_ret
    exact⟨by rw [HE.out];go_num,rfl⟩
set_option maxRecDepth 512
def bitI:Nat->Nat->Nat
 | 0,x=>x
 | n+1,x=>bitU (bitI n x)
theorem bitI_lt(n x:Nat)(h:x<4294967296):bitI n x<4294967296:=by
 induction n with
 | zero=>exact h
 | succ n ih=>exact bitU_lt _ ih
set_option maxRecDepth 100000
theorem RMore_any(x:Nat)(hx:x<4294967296)(v:Value)(p:List UInt8)(w:World)(hv:See w eB v p) :
  Calls Tryz.prog 180 #[U4 x,v] w fun e w'=>e=.returned (U4 (4294967295 - crcGo (4294967295 - x) p))/\w=w':=by
 obtain⟨a,cap,hva,hc1,hc2,hnn⟩:=hv.shape
 subst hva
 unfold maxLen at hc2
 have hw1:(4294967295:Int) - x=((4294967295 - x:Nat):Int):=by omega
 have HW1:=hid hw1
 clear hw1
 go_enter Tryz.func180, Tryz.ntmps180
 go_wp2_with fail
 go_loop [5,6] (fun xv iv=>∃ k:Nat,k<=p.length/\iv=N k/\xv=U4 (crcGo (4294967295 - x) (p.take k))) (fun _ iv=>p.length - (intOf iv).toNat)
 case atStart=>exact⟨0,Nat.zero_le _,rfl,by first | rfl | (rw [HW1.out];rfl)⟩
 case round=>
  obtain⟨k,hk,rfl,rfl⟩:=hrel
  have hY:crcGo (4294967295 - x) (p.take k)<4294967296:=crcGo_lt _ _ (by omega)
  by_cases hlt:k<p.length
  · obtain⟨b,off,cap',hv2,e0⟩:=hv.cell1 (fun c=>Fk.u8 c) rfl k hlt
    have HZ:Hid (crcGo (4294967295 - x) (p.take (k+1))=bitI 8 (crcGo (4294967295 - x) (p.take k) ^^^ p[k].toNat)):=crcGo_snoc _ p k hlt
    generalize p[k]=c at *
    generalize crcGo (4294967295 - x) (p.take k)=z at *
    cases hv2
    have hcb:=c.toNat_lt
    have k1:=xor_u32 z c.toNat hY (by omega)
    have hz1:z ^^^ c.toNat<2 ^ 32:=Nat.xor_lt_two_pow hY (by omega)
    generalize z ^^^ c.toNat=z1 at *
    have i1:(0:Int)<=k:=by omega
    have i2:(k:Int)<p.length:=by omega
    go_wp2_with fail
    go_loop [5,7] (fun xv jv=>∃ j:Nat,j<=8/\jv=N j/\xv=U4 (bitI j z1)) (fun _ jv=>8 - (intOf jv).toNat)
    case atStart=>exact⟨0,by omega,rfl,rfl⟩
    case round=>
     obtain⟨j,hj,rfl,rfl⟩:=hrel
     by_cases hj8:j<8
     · have hj8':(j:Int)<8:=by omega
       have HB:=hid (RBit_any (bitI j z1) (bitI_lt j z1 hz1))
       go_wp2_with fail
       refine(HB.out _).mono ?_
       rintro e w1 ⟨rfl,rfl⟩
       go_wp2_with fail
       go_round
       case rel=>exact⟨j+1,by omega,by go_num,rfl⟩
       case measure=>simp [intOf];omega
     · obtain rfl:j=8:=by omega
       rw [<- HZ.out]
       go_wp2_with fail
       go_round
       case rel=>exact⟨k+1,by omega,by go_num,rfl⟩
       case measure=>simp [intOf];omega
  · obtain rfl:k=p.length:=by omega
    have hnl:¬((p.length:Int)<p.length):=by omega
    rw [List.take_length]at hY ⊢
    generalize hYe:crcGo (4294967295 - x) p=Y at *
    have HY:=hid hYe
    clear hYe
    have HW2:Hid ((4294967295:Int) - Y=((4294967295 - Y:Nat):Int)):=by show _=_;omega
    go_wp2_with fail
    go_ret
    exact⟨by rw [HY.out];first | rfl | (show Ending.returned (.int .u32 _)=_;rw [HW2.out]),rfl⟩
theorem RSum_any(v:Value)(p:List UInt8)(w:World)(hv:See w eB v p) :
  Calls Tryz.prog 119 #[v] w fun e w'=>e=.returned (U4 (sumU p))/\w=w':=by
 obtain⟨a,cap,hva,_⟩:=hv.shape
 have HM:=hid (RMore_any 0 (by omega) v p w hv)
 have HE:Hid (4294967295 - crcGo (4294967295 - 0) p=sumU p):=rfl
 generalize 4294967295 - crcGo (4294967295 - 0) p=Y at *
 subst hva
 go_enter Tryz.func119, Tryz.ntmps119
 go_wp2_with fail
 refine HM.out.mono ?_
 rintro e w1 ⟨rfl,rfl⟩
 go_wp2_with fail
 go_ret
 exact⟨by rw [<- HE.out];rfl,rfl⟩
set_option maxRecDepth 512
theorem tail_fix(s:Nat):tailB s=fixB 4 s:=by
 simp only [tailB,fixB,Nat.div_div_eq_div_mul]
set_option maxRecDepth 100000
theorem RPut_any(v:Value)(p:List UInt8)(w:World)(hv:See w eB v p)(hn:p.length<=1000000) :
  Calls Tryz.prog 69 #[v] w fun e w'=>∃ v',e=.returned v'/\Ow w' w.heap.size eB v' (putB p)/\Fr w w':=by
 obtain⟨a,cap,hva,_⟩:=hv.shape
 have HS:=hid (RSum_any v p w hv)
 have HE:Hid (putB p=p++fixB 4 (sumU p)):=by show _=_;rw [<- tail_fix];rfl
 have hslt:=sumU_lt p
 generalize sumU p=s at *
 subst hva
 have hal:=own_lit eB w #[] [] 0 rfl (by simp [maxLen]) (Nat.le_refl _)
 have hsl:=hv.fr ((Fr.refl w).alloc (.cells #[] 5))
 have hc0:([]:List UInt8).length+p.length<=2147483648:=by simp;omega
 go_enter Tryz.func69, Tryz.ntmps69
 go_wp2_with fail
 refine HS.out.mono ?_
 rintro e w1 ⟨rfl,rfl⟩
 go_wp2_with (at_builtin;refine wpList_app eB rfl (.tmp 8) (.tmp 9) 22 rfl Tryz.underlying22 w.heap.size rfl hal _ _ rfl hsl hc0 (by simp) ?_)
 intro v2 w2 hap
 have hf2:Fr w w2:=hap.below hal ((Fr.refl w).alloc _) (Nat.le_refl _) (by simp)
 have own2:Ow w2 w.heap.size eB v2 p:=hap.own
 clear hap hal hsl
 go_wp2_with fail
 go_loopw [3,4,5] (fun sv ov iv wr=>∃ (i y:Nat) (o:List UInt8),i<=4/\iv=N i/\sv=U4 y/\y<4294967296/\Ow wr w.heap.size eB ov o/\o.length=p.length+i/\Hid (putB p=o++fixB (4 - i) y)/\Fr w wr) (fun _ _ iv _=>4 - (intOf iv).toNat)
 case atStart=>exact⟨0,s,p,by omega,rfl,rfl,hslt,own2,rfl,HE.out,hf2⟩
 case round=>
  obtain⟨i,y,o,hi,rfl,rfl,hy,hown,hol,HR,hf⟩:=hrel
  clear own2 hf2
  by_cases hlt:i<4
  · have hlt':(i:Int)<4:=by omega
    have e1:4 - i=(4 - (i+1))+1:=by omega
    have HE2:Hid (putB p=o++[UInt8.ofNat (y % 256)]++fixB (4 - (i+1)) (y / 256)):=by show _=_;rw [HR.out,e1,fixB];simp
    have HB:Hid ((#[Value.int .u8 ((y:Int) % 256)]:Array Value).toList=eB.cells [UInt8.ofNat (y % 256)]):=by
     show _=_
     have:=byte_cell (y % 256) (by omega)
     rw [show((y % 256:Nat):Int)=(y:Int) % 256 by omega]at this
     exact this
    have hc1:o.length+1<=2147483648:=by omega
    clear e1
    generalize UInt8.ofNat (y % 256)=c at *
    go_wp2_with (at_builtin;refine wpList_app1 eB rfl (.tmp 15) (.tmp 19) 22 rfl Tryz.underlying22 w.heap.size rfl hown [c] _ _ _ HB.out rfl rfl hc1 hf.size ?_)
    intro v' w4 hap
    go_wp2_with fail
    go_roundw
    case rel=>exact⟨i+1,y / 256,o++[c],by omega,by go_num,by go_num,by omega,hap.own,by rw [List.length_append,hol];rfl,HE2,hap.below hown hf (Nat.le_refl _) hf.size⟩
    case measure=>simp [intOf];omega
  · obtain rfl:i=4:=by omega
    have HE2:Hid (putB p=o):=by show _=_;rw [HR.out,Nat.sub_self,fixB,List.append_nil]
    go_wp2_with fail
    go_ret
    exact⟨_,rfl,by rw [HE2.out];exact hown,hf⟩
set_option maxRecDepth 512
theorem conv_at(v:Value)(l:List UInt8)(w:World)(h:See w eB v l):(convert 22 9 v).run Tryz.prog w=.ok (S l) w:=
 run_conv_see eB w 22 9 Tryz.underlying22 (by kernel_rfl) Tryz.underlying9 rfl rfl h
theorem RSame1_any(va vb:Value)(a b:List UInt8)(w:World)(ha:See w eB va a)(hb:See w eB vb b) :
  Calls Tryz.prog 12 #[va,vb] w fun e w'=>e=.returned (.bool (decide (a=b)))/\w=w':=by
 have h1:=conv_at va a w ha
 have h2:=conv_at vb b w hb
 obtain⟨pa,ca,hva,_⟩:=ha.shape
 obtain⟨pb,cb,hvb,_⟩:=hb.shape
 subst hva hvb
 clear ha hb
 have hd:(a == b)=decide (a=b):=by rw [Bool.eq_iff_iff];simp
 generalize decide (a=b)=q at *
 go_enter Tryz.func12, Tryz.ntmps12
 go_wp2_with fail
 go_ret
 exact⟨rfl,rfl⟩
set_option maxRecDepth 100000
theorem BEqual_any(va vb:Value)(a b:List UInt8)(w:World)(ha:See w eB va a)(hb:See w eB vb b) :
  Calls Tryz.prog 31 #[va,vb] w fun e w'=>e=.returned (.bool (decide (a=b)))/\Fr w w':=by
 obtain⟨aa,ca,hva,ha1,ha2,_⟩:=ha.shape
 obtain⟨ab,cb,hvb,hb1,hb2,_⟩:=hb.shape
 subst hva hvb
 unfold maxLen at ha2 hb2
 generalize hR:decide (a=b)=R
 have HR:=hid hR
 clear hR
 go_enter Tryz.func31, Tryz.ntmps31
 by_cases hl:a.length=b.length
 · have HL:=hid hl
   rw [<- hl]
   clear hl hb1
   go_wp2_with fail
   go_loopw [13] (fun iv wr=>∃ i:Nat,i<=a.length/\iv=N i/\Hid (∀ j,j<i->a[j]?=b[j]?)/\Fr w wr) (fun iv _=>a.length - (intOf iv).toNat)
   case atStart=>exact⟨0,Nat.zero_le _,rfl,fun j h=>absurd h (Nat.not_lt_zero j),Fr.refl w⟩
   case round=>
    obtain⟨i,hi,rfl,HE,hf⟩:=hrel
    by_cases hlt:i<a.length
    · have hlb:i<b.length:=by have:=HL.out;omega
      obtain⟨b1,off1,cap1,hv1,e1⟩:=(ha.fr hf).cell1 Fk.u8 rfl i hlt
      obtain⟨b2,off2,cap2,hv2,e2⟩:=(hb.fr hf).cell1 Fk.u8 rfl i hlb
      have HA:Hid (a[i]?=some a[i]):=List.getElem?_eq_getElem hlt
      have HB:Hid (b[i]?=some b[i]):=List.getElem?_eq_getElem hlb
      generalize a[i]=x at *
      generalize b[i]=y at *
      have d1:wr.cell? ⟨b1,off1+i,none⟩=some (.int .u8 (x.toNat:Int)):=e1
      have d2:wr.cell? ⟨b2,off2+i,none⟩=some (.int .u8 (y.toNat:Int)):=e2
      clear e1 e2
      cases hv1
      cases hv2
      have i1:(0:Int)<=i:=by omega
      have i2:(i:Int)<a.length:=by omega
      by_cases hxy:x=y
      · subst hxy
        go_wp2_with fail
        go_quiet (fail)
        go_wp2_with fail
        go_roundw
        case rel => exact ⟨i + 1, by omega, by go_num, fun j hj => by
         by_cases e : j = i
         · subst e; rw [HA.out, HB.out]
         · exact HE.out j (by omega), hf.drewN _⟩
        case measure=>simp [intOf];omega
      · have hn:¬(x.toNat:Int)=y.toNat:=fun e=>hxy (UInt8.toNat_inj.1 (by omega))
        have HF:Hid (R=false):=by
         show _=_
         rw [<- HR.out]
         refine decide_eq_false fun e=>hxy ?_
         have h1:=HA.out
         rw [e,HB.out]at h1
         exact(Option.some.inj h1).symm
        clear hxy
        go_wp2_with fail
        go_quiet (fail)
        go_wp2_with fail
        go_ret
        exact⟨by rw [HF.out];rfl,hf.drewN _⟩
    · have HF:Hid (R=true):=by
        show _=_
        rw [<- HR.out]
        refine decide_eq_true (List.ext_getElem? fun j=>?_)
        by_cases hj:j<a.length
        · exact HE.out j (by omega)
        · rw [List.getElem?_eq_none (by omega),List.getElem?_eq_none (by have:=HL.out;omega)]
      obtain rfl:i=a.length:=by omega
      have hnl:¬((a.length:Int)<a.length):=by omega
      go_wp2_with fail
      go_ret
      exact⟨by rw [HF.out];rfl,hf⟩
 · have HF:Hid (R=false):=by
     show _=_
     rw [<- HR.out]
     exact decide_eq_false fun e=>hl (by rw [e])
   rw [HF.out]
   have hl':¬(a.length:Int)=b.length:=by omega
   go_wp2_with fail
   go_ret
   exact⟨rfl,Fr.refl w⟩
set_option maxRecDepth 512
theorem okCut_iff(l:List UInt8)(h:4<=l.length):okCut l=decide (l.drop (l.length - 4)=tailB (sumU (l.take (l.length - 4)))):=by
 have e:putB (l.take (l.length - 4))=l.take (l.length - 4)++tailB (sumU (l.take (l.length - 4))):=rfl
 unfold okCut
 rw [decide_eq_true h,Bool.true_and,e]
 generalize tailB (sumU (l.take (l.length - 4)))=t
 rw [Bool.eq_iff_iff,decide_eq_true_eq,decide_eq_true_eq]
 constructor
 · intro h2
   have:=congrArg (List.drop (l.length - 4)) h2
   rw [List.drop_append_of_le_length (by rw [List.length_take];omega),List.drop_of_length_le (by rw [List.length_take];omega),List.nil_append]at this
   exact this.symm
 · intro h2
   rw [<- h2,List.take_append_drop]
set_option maxRecDepth 100000
theorem Cut_any (v : Value) (l : List UInt8) (w : World) (hs : See w eB v l) (hn : l.length ≤ 1000000) (ht : Crc w) :
    Calls Tryz.prog 38 #[v] w fun e w'=>∃ u,e=.returned (.tuple #[u,.int .i64 (errCut l:Int)])/\Ow w' w.heap.size eB u (cutB l)/\Fr w w':=by
  obtain⟨a0,cap,hv,hc1,hc2,_⟩:=hs.shape
  subst hv
  unfold maxLen at hc2
  by_cases h4:l.length<4
  · have h0:okCut l=false:=by unfold okCut;rw [decide_eq_false (by omega),Bool.false_and]
    have HE:Hid (errCut l=1):=by show _=_;unfold errCut;rw [h0];simp [h4]
    have HC:Hid (cutB l=[]):=by show _=_;unfold cutB;rw [h0];simp
    rw [HC.out]
    have hw:IntKind.i64.wrap ((l.length:Int) - 4)=(l.length:Int) - 4:=IntWalk.i64_in _ (by omega)
    have hlt:(l.length:Int) - 4<0:=by omega
    rw [HE.out]
    clear h0 HE HC
    go_enter Tryz.func38, Tryz.ntmps38
    go_wp2_with fail
    go_ret2
    exact⟨_,rfl,Ow.nil,Fr.refl w⟩
  · obtain⟨n,hn4⟩:∃ n,n=l.length - 4:=⟨_,rfl⟩
    have hk:n<=l.length:=by omega
    obtain⟨f1,f2,hfr,hfs⟩:=run_from eB 22 Tryz.underlying22 hs n hk
    obtain⟨htr,hts⟩:=run_to eB 22 Tryz.underlying22 hs n hk
    have hok:=okCut_iff l (by omega)
    rw [<- hn4]at hok
    have hw:IntKind.i64.wrap ((l.length:Int) - 4)=(n:Int):=by rw [IntWalk.i64_in _ (by omega)];omega
    have hge:¬(n:Int)<0:=by omega
    have hlen:(l.take n).length=n:=by rw [List.length_take];omega
    have HS:=hid (fun W (h:Fr w W)=>Sum_any _ (l.take n) W (hts.fr h) (ht.fr h))
    have HT:=hid (tail_any (sumU (l.take n)) (sumU_lt _))
    have HQ:=hid (fun W v' (h:Fr w W) (h2:See W eB v' (tailB (sumU (l.take n))))=>BEqual_any _ v' _ _ W (hfs.fr h) h2)
    have HCl:=hid (fun W (h:Fr w W)=>BClone_any _ (l.take n) W (hts.fr h) (by rw [hlen];omega))
    have HE:Hid (errCut l=if okCut l then 0 else 5):=by show _=_;unfold errCut;simp [h4]
    have HC:Hid (cutB l=if okCut l then l.take n else []):=by show _=_;rw [hn4];rfl
    rw [<- hok]at HQ
    rw [HE.out,HC.out]
    clear HE HC hok hs hts hfs hlen hn4
    generalize sumU (l.take n)=s at *
    generalize okCut l=R at *
    generalize l.take n=q at *
    generalize l.length - n=m at *
    go_enter Tryz.func38, Tryz.ntmps38
    go_wp2_with fail
    go_region_held3 (fun _ => True) (first | trivial | go_keep) ((first
      | (go_at_call 84; refine (HS.out _ (Fr.refl w).drew).mono ?_; rintro e w1 ⟨rfl, hf1⟩)
      | (go_at_call 83; refine (HT.out _).mono ?_; rintro e w2 ⟨v2, rfl, hO2, hf2⟩)
      | (go_at_call 31; refine (HQ.out _ _ (((Fr.refl w).drew.trans hf1).trans hf2) hO2.see).mono ?_; rintro e w3 ⟨rfl, hf3⟩)))
    have hf03:Fr w w3:=(((Fr.refl w).drew.trans hf1).trans hf2).trans hf3
    clear hO2 hf1 hf2 hf3 HS HT HQ
    cases R
    · go_wp2_with fail
      go_ret2
      exact⟨_,rfl,Ow.nil,hf03⟩
    · go_wp2_with fail
      refine(HCl.out _ hf03).mono ?_
      rintro e w4 ⟨v4,rfl,hO4,hf4⟩
      obtain⟨p4,z4,hq4⟩:=hO4.shape'
      subst hq4
      go_wp2_with fail
      go_ret2
      exact⟨_,rfl,hO4.rebase hf03.size,hf03.trans hf4⟩
set_option maxRecDepth 512
structure OwB (w:World) (B base:Nat) (v:Value) (l:List UInt8):Prop where
 own:Ow w base eB v l
 top:∀ k,v.ownBlock=some k->k<B
theorem OwB.see{w:World}{B base:Nat}{v:Value}{l:List UInt8}(h:OwB w B base v l):See w eB v l:=h.own.see
theorem OwB.shape'{w:World}{B base:Nat}{v:Value}{l:List UInt8}(h:OwB w B base v l):∃ a cap,v=.slice a l.length cap:=h.own.shape'
theorem OwB.lt{w:World}{B base:Nat}{v:Value}{l:List UInt8}(h:OwB w B base v l):∀ k,v.ownBlock=some k->base<=k/\k<w.heap.size:=h.own.lt
theorem OwB.fr{w w':World}{B base:Nat}{v:Value}{l:List UInt8}(h:OwB w B base v l)(hf:Fr w w'):OwB w' B base v l:=⟨h.own.fr hf,h.top⟩
theorem OwB.chg{w w':World}{B base:Nat}{v:Value}{l:List UInt8}{G:Nat->Prop}(h:OwB w B base v l)(hg:Chg G w w')(hne:∀ k,v.ownBlock=some k->¬G k):OwB w' B base v l:=⟨h.own.chg hg hne,h.top⟩
theorem OwB.ne_cells{w:World}{B base:Nat}{v:Value}{l:List UInt8}(h:OwB w B base v l){b:Nat}{cs:Array Value}{T:TypeId}{f:Nat × Nat}(hb:w.heap[b]?=some (.cells cs T f))(hT:T≠(eB:Elt Tryz.prog UInt8).e):v.ownBlock≠some b:=h.own.ne_cells hb hT
structure CurF (w:World) (T:TypeId) (B base:Nat) (l:List UInt8) (n er:Nat):Prop where
 h:∃ v,w.heap[B]?=some (.cells #[v,N n,.int .i64 (er:Int)] T (0,0))/\OwB w B base v l
 le:n<=l.length
theorem CurF.behind{w w':World}{B base n er b:Nat}{T:TypeId}{l:List UInt8}{v v':Value}{xs ys:List UInt8}(h:CurF w T B base l n er)(ho:Ow w b eB v xs)(hap:App b eB ys w v v' w')(hBb:B<b):CurF w' T B base l n er:=by
 obtain⟨⟨x,h1,h2⟩,h3⟩:=h
 refine⟨⟨x,hap.chg'.heap h1 (fun e=>?_),h2.chg hap.chg' (fun k hk e=>?_)⟩,h3⟩
 · have:=(ho.lt _ e).1;omega
 · have h4:=h2.top k hk
   have h5:=(ho.lt _ e).1
   omega
theorem CurF.fr{w w':World}{T:TypeId}{B base n er:Nat}{l:List UInt8}(h:CurF w T B base l n er)(hf:Fr w w'):CurF w' T B base l n er:=by
 obtain⟨⟨v,h1,h2⟩,h3⟩:=h
 exact⟨⟨v,hf.heap h1,h2.fr hf⟩,h3⟩
set_option maxRecDepth 100000
theorem New_any(v:Value)(l:List UInt8)(w:World)(hs:See w eB v l)(hn:l.length<=1000000) :
  Calls Tryz.prog 71 #[v] w fun e w'=>∃ B,e=.returned (.pointer (some ⟨B,0,none⟩))/\CurF w' 183 B w.heap.size l 0 0/\Fr w w'/\w.heap.size<=B:=by
 have HC:=hid (BClone_any v l w hs hn)
 obtain⟨a0,cap,hv,_⟩:=hs.shape
 subst hv
 clear hs
 go_enter Tryz.func71, Tryz.ntmps71
 go_wp2_with fail
 refine(HC.out).mono ?_
 rintro e w1 ⟨u,rfl,hu,hf⟩
 obtain⟨p,z,hq⟩:=hu.shape'
 subst hq
 go_wp2_with fail
 go_ret
 exact⟨w1.heap.size,rfl,⟨⟨_,heap_new _ _ _ rfl,hu.fr ((Fr.refl w1).alloc _),fun k hk=>(hu.lt k hk).2⟩,Nat.zero_le _⟩,hf.alloc _,hf.size⟩
theorem RNew_any(v:Value)(l:List UInt8)(w:World)(hs:See w eB v l)(hn:l.length<=1000000) :
  Calls Tryz.prog 40 #[v] w fun e w'=>∃ B,e=.returned (.pointer (some ⟨B,0,none⟩))/\CurF w' 99 B w.heap.size l 0 0/\Fr w w'/\w.heap.size<=B:=by
 have hl:Ow (w.alloc (.cells #[] 5)) w.heap.size eB (.slice (some ⟨w.heap.size,0,none⟩) 0 0) []:=own_lit eB w #[] [] 0 rfl (Nat.zero_le _) (Nat.le_refl _)
 have hfa:Fr w (w.alloc (.cells #[] 5)):=(Fr.refl w).alloc _
 have hs1:=hs.fr hfa
 obtain⟨a0,cap,hv,_⟩:=hs.shape
 subst hv
 clear hs
 go_enter Tryz.func40, Tryz.ntmps40
 go_wp2_with (at_builtin;refine wpList_app eB rfl (.tmp 3) (.tmp 4) 22 rfl Tryz.underlying22 w.heap.size rfl hl _ _ rfl hs1 ?c1 hfa.size ?_)
 case c1=>simp;omega
 intro v5 w5 hap5
 have hf05:Fr w w5:=hap5.below hl hfa (Nat.le_refl _) hfa.size
 have own5:Ow w5 w.heap.size eB v5 l:=by simpa using hap5.own
 obtain⟨p5,z5,hq5⟩:=own5.shape'
 subst hq5
 clear hap5 hl hs1
 go_wp2_with fail
 go_ret
 exact⟨w5.heap.size,rfl,⟨⟨_,heap_new _ _ _ rfl,own5.fr ((Fr.refl w5).alloc _),fun k hk=>(own5.lt k hk).2⟩,Nat.zero_le _⟩,hf05.alloc _,hf05.size⟩
set_option maxRecDepth 512
set_option maxRecDepth 100000
theorem rest_any(B base n er:Nat)(l:List UInt8)(w:World)(hc:CurF w 183 B base l n er) :
  Calls Tryz.prog 187 #[.pointer (some ⟨B,0,none⟩)] w fun e w'=>∃ a cap,e=.returned (.slice a (l.length - n) cap)/\See w' eB (.slice a (l.length - n) cap) (l.drop n)/\Fr w w':=by
 obtain⟨⟨v,h1,ho⟩,hle⟩:=hc
 obtain⟨a0,cap,hv⟩:=ho.shape'
 subst hv
 obtain⟨f1,f2,hfr,hfs⟩:=run_from eB 22 Tryz.underlying22 ho.see n hle
 have c0:w.cell? ⟨B,0,none⟩=some (.slice a0 l.length cap):=by rw [cell_of_heap h1];rfl
 have c1:w.cell? ⟨B,1,none⟩=some (N n):=by rw [cell_of_heap h1];rfl
 have HS:=hid hfs
 clear h1 ho hfs
 generalize l.length - n=m at *
 go_enter Tryz.func187, Tryz.ntmps187
 go_wp2_with fail
 go_quiet (fail)
 go_wp2_with fail
 go_ret
 exact⟨_,_,rfl,HS.out.fr ((Fr.refl w).drewN _),(Fr.refl w).drewN _⟩
theorem CErr_any(B base n er:Nat)(l:List UInt8)(w:World)(hc:CurF w 183 B base l n er) :
  Calls Tryz.prog 78 #[.pointer (some ⟨B,0,none⟩)] w fun e w'=>e=.returned (.int .i64 (er:Int))/\w=w':=by
 obtain⟨⟨v,h1,ho⟩,hle⟩:=hc
 have c2:w.cell? ⟨B,2,none⟩=some (.int .i64 (er:Int)):=by rw [cell_of_heap h1];rfl
 clear h1 ho
 go_enter Tryz.func78, Tryz.ntmps78
 go_wp2_with fail
 go_ret
 exact⟨rfl,rfl⟩
set_option maxRecDepth 512
set_option maxRecDepth 100000
theorem take1_no(Bn Bo k:Nat)(v:Value)(l:List UInt8)(w:World)(hn:w.heap[Bn]?=some (.cells #[N k] 3 (0,0)))(hs:See w eB v l)(hk:l.length<k) :
  Calls Tryz.prog 181 #[v,.pointer (some ⟨Bn,0,none⟩),.pointer (some ⟨Bo,0,none⟩)] w fun e w'=>e=.returned (.tuple #[.int .i64 0,.int .i64 1])/\w=w':=by
 obtain⟨a0,cap,hv,_⟩:=hs.shape
 subst hv
 have c0:w.cell? ⟨Bn,0,none⟩=some (N k):=by rw [cell_of_heap hn];rfl
 have h1:¬(k:Int)<0:=by omega
 have h2:(l.length:Int)<k:=by omega
 clear hs hn
 go_enter Tryz.func181, Tryz.ntmps181
 go_wp2_with fail
 go_ret2
 exact⟨rfl,rfl⟩
theorem take1_yes(Bn Bo k:Nat)(v ov:Value)(l:List UInt8)(w:World)(hn:w.heap[Bn]?=some (.cells #[N k] 3 (0,0)))(ho:w.heap[Bo]?=some (.cells #[ov] 22 (0,0)))(hne:Bn≠Bo)(hs:See w eB v l)(hk:k<=l.length)(hl:l.length<=1000000) :
  Calls Tryz.prog 181 #[v,.pointer (some ⟨Bn,0,none⟩),.pointer (some ⟨Bo,0,none⟩)] w fun e w'=>e=.returned (.tuple #[N k,.int .i64 0])/\∃ u,w'.heap[Bo]?=some (.cells #[u] 22 (0,0))/\Ow w' w.heap.size eB u (l.take k)/\Chg (fun b=>b=Bo) w w':=by
 obtain⟨a0,cap,hv,_⟩:=hs.shape
 subst hv
 obtain⟨htr,hts⟩:=run_to eB 22 Tryz.underlying22 hs k hk
 have c0:w.cell? ⟨Bn,0,none⟩=some (N k):=by rw [cell_of_heap hn];rfl
 have h1:¬(k:Int)<0:=by omega
 have h2:¬(l.length:Int)<k:=by omega
 have HC:=hid (BClone_any _ (l.take k) w hts (by rw [List.length_take];omega))
 have hBw:Bo<w.heap.size:=(Array.getElem?_eq_some_iff.1 ho).1
 clear hs hts
 generalize l.take k=q at *
 go_enter Tryz.func181, Tryz.ntmps181
 go_wp2_with fail
 refine(HC.out).mono ?_
 rintro e w1 ⟨u,rfl,hu,hf⟩
 obtain⟨p,z,hq⟩:=hu.shape'
 subst hq
 have ho1:=hf.heap ho
 have hn1:=hf.heap hn
 have d0:w1.cell? ⟨Bo,0,none⟩=some ov:=by rw [cell_of_heap ho1];rfl
 have z0:=frozen_of_heap ho1 0
 have hst:=setCell_chg w1 ⟨Bo,0,none⟩ (.slice p q.length z)
 have ho2:=heap_setCell_own ho1 0 (.slice p q.length z)
 have hn2:=hst.heap hn1 hne
 have e0:(w1.setCell ⟨Bo,0,none⟩ (.slice p q.length z)).cell? ⟨Bn,0,none⟩=some (N k):=by rw [cell_of_heap hn2];rfl
 have hu2:=hu.chg hst (fun i hi e=>by have h8:=(hu.lt i hi).1;have e:i=Bo:=e;omega)
 have hc2:Chg (fun b=>b=Bo) w (w1.setCell ⟨Bo,0,none⟩ (.slice p q.length z)):=(hf.chg _).trans hst fun _ _ h=>h
 clear hu hst hn1 ho1 HC c0
 go_wp2_with fail
 go_ret2
 exact⟨rfl,_,ho2,hu2,hc2⟩
set_option maxRecDepth 512
set_option maxRecDepth 100000
theorem readT_yes(B base n k Bn Bo:Nat)(ov:Value)(l:List UInt8)(w:World)(hc:CurF w 183 B base l n 0)(hn:w.heap[Bn]?=some (.cells #[N k] 3 (0,0)))(ho:w.heap[Bo]?=some (.cells #[ov] 22 (0,0)))(hne:Bn≠Bo)(hk:n+k<=l.length)(hl:l.length<=1000000)(hb:base<=w.heap.size) :
  Calls Tryz.prog 125 #[.pointer (some ⟨B,0,none⟩),.func (.func 181) #[] #[.pointer (some ⟨Bn,0,none⟩),.pointer (some ⟨Bo,0,none⟩)]] w fun e w'=>e=.returned (.bool true)/\∃ u,w'.heap[Bo]?=some (.cells #[u] 22 (0,0))/\Ow w' w.heap.size eB u ((l.drop n).take k)/\CurF w' 183 B base l (n+k) 0/\Chg (fun b=>b=Bo\/b=B) w w':=by
 have HE:=hid (CErr_any B base n 0 l w hc)
 have HR:=hid (rest_any B base n 0 l w hc)
 have hdl:(l.drop n).length=l.length - n:=List.length_drop ..
 have HT:=hid (fun W v (hf:Fr w W) (hs:See W eB v (l.drop n))=>take1_yes Bn Bo k v ov (l.drop n) W (hf.heap hn) (hf.heap ho) hne hs (by omega) (by omega))
 obtain⟨⟨v,h1,hO⟩,hle⟩:=hc
 have hBB:B≠Bo:=fun e=>by rw [e,ho]at h1;cases h1
 have hBw:B<w.heap.size:=(Array.getElem?_eq_some_iff.1 h1).1
 have hBow:Bo<w.heap.size:=(Array.getElem?_eq_some_iff.1 ho).1
 have hvB:=hO.ne_cells h1 (by decide)
 have hvBo:=hO.ne_cells ho (by decide)
 have hw1:IntKind.i64.wrap ((n:Int)+k)=(n:Int)+k:=IntWalk.i64_in _ (by omega)
 clear hn hdl
 generalize (l.drop n).take k=q at *
 generalize l.length - n=m at *
 go_enter Tryz.func125, Tryz.ntmps125
 go_wp2_with fail
 refine(HE.out).mono ?_
 rintro e w1 ⟨rfl,rfl⟩
 go_wp2_with fail
 refine(HR.out).mono ?_
 rintro e w2 ⟨a,cap,rfl,hs2,hf2⟩
 have HT2:=hid (HT.out w2 _ hf2 hs2)
 go_wp2_with fail
 refine(HT2.out).mono ?_
 rintro e w3 ⟨rfl,u,hu3,hO3,hc3⟩
 have h13:=hc3.heap (hf2.heap h1) hBB
 have hOv:=(hO.fr hf2).chg hc3 (fun i hi e=>hvBo (by rw [hi,show i=Bo from e]))
 have c1:w3.cell? ⟨B,1,none⟩=some (N n):=by rw [cell_of_heap h13];rfl
 have z1:=frozen_of_heap h13 1
 have hst:=setCell_chg w3 ⟨B,1,none⟩ (.int .i64 ((n:Int)+k))
 have h14:=heap_setCell_own h13 1 (.int .i64 ((n:Int)+k))
 have hu4:=hst.heap hu3 (fun e=>hBB e.symm)
 have hO4:=hO3.chg hst (fun i hi e=>(hO3.ne_cells h13 (by decide)) (by rw [hi,show i=B from e]))
 have hOv4:=hOv.chg hst (fun i hi e=>hvB (by rw [hi,show i=B from e]))
 have hcc:Chg (fun b=>b=Bo\/b=B) w (w3.setCell ⟨B,1,none⟩ (.int .i64 ((n:Int)+k))):=((hf2.chg _).trans (hc3.mono fun _ _ h=>.inl h) fun _ _ h=>h).trans hst fun _ _ h=>.inr h
 clear HE HR HT HT2 hs2 hu3 hO3 h13 hOv hst
 go_wp2_with fail
 go_ret
 exact⟨rfl,u,hu4,hO4.rebase hf2.size,⟨⟨v,h14,hOv4⟩,hk⟩,hcc⟩
set_option maxRecDepth 512
set_option maxRecDepth 100000
theorem Take_yes(B base n k:Nat)(l:List UInt8)(w:World)(hc:CurF w 183 B base l n 0)(hk:n+k<=l.length)(hl:l.length<=1000000)(hb:base<=w.heap.size) :
  Calls Tryz.prog 121 #[.pointer (some ⟨B,0,none⟩),N k] w fun e w'=>∃ u,e=.returned u/\Ow w' w.heap.size eB u ((l.drop n).take k)/\CurF w' 183 B base l (n+k) 0/\Chg (fun b=>b=B) w w':=by
 have hmf:∀ (fn:Fn) (first cap:Array Value) (w:World),(Instr.makeFunc fn first cap).run Tryz.prog w=.ok (.func fn first cap) w:=fun _ _ _ _=>rfl
 have hBw:B<w.heap.size:=by obtain⟨⟨v,h1,_⟩,_⟩:=hc;exact(Array.getElem?_eq_some_iff.1 h1).1
 have g0:((w.alloc (.cells #[N k] 3)).alloc (.cells #[.slice none 0 0] 22)).heap[w.heap.size]?=some (.cells #[N k] 3 (0,0)):=by
  rw [heap_old _ _ _ (by simp),heap_new _ _ _ rfl]
 have g1:((w.alloc (.cells #[N k] 3)).alloc (.cells #[.slice none 0 0] 22)).heap[w.heap.size+1]?=some (.cells #[.slice none 0 0] 22 (0,0)):=heap_new _ _ _ (by simp)
 have hf:Fr w ((w.alloc (.cells #[N k] 3)).alloc (.cells #[.slice none 0 0] 22)):=((Fr.refl w).alloc _).alloc _
 have HR:=hid (readT_yes B base n k w.heap.size (w.heap.size+1) (.slice none 0 0) l _ (hc.fr hf) g0 g1 (by omega) hk hl (Nat.le_trans hb hf.size))
 have hsz:w.heap.size<=((w.alloc (.cells #[N k] 3)).alloc (.cells #[.slice none 0 0] 22)).heap.size:=hf.size
 clear g0 g1 hc
 generalize (l.drop n).take k=q at *
 go_enter Tryz.func121, Tryz.ntmps121
 go_wp2_with fail
 refine(HR.out).mono ?_
 rintro e w3 ⟨rfl,u,hu,hO,hC,hch⟩
 have c1:w3.cell? ⟨w.heap.size+1,0,none⟩=some u:=by rw [cell_of_heap hu];rfl
 have hfin:Chg (fun b=>b=B) w w3:=(hf.chg _).trans (G':=fun b=>b=w.heap.size+1\/b=B) hch fun i hi h=>by
  rcases h with h | h
  · omega
  · exact h
 have hO2:=hO.rebase hsz
 obtain⟨p,z,hq⟩:=hO.shape'
 subst hq
 clear HR hu hO hch
 go_wp2_with fail
 go_ret
 exact⟨_,rfl,hO2,hC,hfin⟩
set_option maxRecDepth 512
set_option maxRecDepth 100000
theorem Byte_yes(B base n:Nat)(l:List UInt8)(w:World)(hc:CurF w 183 B base l n 0)(hk:n+1<=l.length)(hl:l.length<=1000000)(hb:base<=w.heap.size) :
  Calls Tryz.prog 72 #[.pointer (some ⟨B,0,none⟩)] w fun e w'=>e=.returned (.int .u8 ((l.getD n 0).toNat:Int))/\CurF w' 183 B base l (n+1) 0/\Chg (fun b=>b=B) w w':=by
 have HT:=hid (Take_yes B base n 1 l w hc hk hl hb)
 have hq:(l.drop n).take 1=[l.getD n 0]:=by
  rw [getD_at l n 0 (by omega),List.drop_eq_getElem_cons (by omega)];rfl
 rw [hq]at HT
 clear hq hc
 generalize l.getD n 0=x at *
 go_enter Tryz.func72, Tryz.ntmps72
 go_wp2_with fail
 refine(HT.out).mono ?_
 rintro e w1 ⟨u,rfl,hO,hC,hch⟩
 obtain⟨b,off,cp,hv,c0⟩:=hO.see.cell1 Fk.u8 rfl 0 (by simp)
 subst hv
 have d0:w1.cell? ⟨b,off,none⟩=some (.int .u8 (x.toNat:Int)):=c0
 clear hO c0 HT
 go_wp2_with fail
 go_ret
 exact⟨rfl,hC,hch⟩
set_option maxRecDepth 512
theorem or_u64n(a b:Nat)(ha:a<18446744073709551616)(hb:b<18446744073709551616):bits .or .u64 (a:Int) (b:Int)=((a ||| b:Nat):Int):=by
 have hx:a ||| b<2 ^ 64:=Nat.or_lt_two_pow (by omega) (by omega)
 show IntKind.u64.wrap ((BitVec.ofInt 64 (a:Int) ||| BitVec.ofInt 64 (b:Int)).toNat:Int)=_
 rw [BitVec.toNat_or,of_int 64 a (by omega),of_int 64 b (by omega)]
 exact IntWalk.u64_in _ (by omega)
set_option maxRecDepth 100000
theorem CFixed_yes (B base n k : Nat) (l : List UInt8) (w : World) (hc : CurF w 183 B base l n 0) (hk1 : 1 ≤ k) (hk8 : k ≤ 8) (hk : n + k ≤ l.length) (hl : l.length ≤ 1000000) (hb : base ≤ w.heap.size) :
    Calls Tryz.prog 73 #[.pointer (some ⟨B,0,none⟩),N k] w fun e w'=>e=.returned (.int .u64 (leN ((l.drop n).take k):Int))/\CurF w' 183 B base l (n+k) 0/\Chg (fun b=>b=B) w w':=by
  have HT:=hid (Take_yes B base n k l w hc hk hl hb)
  have hql:((l.drop n).take k).length=k:=by rw [List.length_take,List.length_drop];omega
  have HQl:=hid hql
  have h1:¬(k:Int)<1:=by omega
  have h8:¬(8:Int)<k:=by omega
  have HStep:=hid (fun i h=>leN_take ((l.drop n).take k) i h)
  have HAll:Hid (leN (((l.drop n).take k).take k)=leN ((l.drop n).take k)):=by show _=_;rw [List.take_of_length_le (by omega)]
  have HZ:Hid (leN (((l.drop n).take k).take 0)=0):=rfl
  have HLt:Hid (∀ i,i<=k->leN (((l.drop n).take k).take i)<2 ^ (8*i)):=fun i hi=>by
    have:=leN_lt (((l.drop n).take k).take i)
    rw [List.length_take,hql,Nat.min_eq_left hi,show(256:Nat)=2 ^ 8 from rfl,<- Nat.pow_mul]at this
    exact this
  clear hc hql
  generalize (l.drop n).take k=q at *
  go_enter Tryz.func73, Tryz.ntmps73
  go_wp2_with fail
  refine(HT.out).mono ?_
  rintro e w1 ⟨u,rfl,hO,hC,hch⟩
  obtain⟨p,z,hq⟩:=hO.shape'
  rw [HQl.out]at hq
  subst hq
  have HO:=hid hO.see
  clear hO HT
  go_wp2_with fail
  go_loop [5,20] (fun xv iv=>∃ i:Nat,i<=k/\iv=N i/\xv=.int .u64 (leN (q.take i):Int)) (fun _ iv=>k - (intOf iv).toNat)
  case atStart=>exact⟨0,Nat.zero_le _,rfl,by rw [HZ.out];rfl⟩
  case round=>
    obtain⟨i,hi,rfl,rfl⟩:=hrel
    by_cases hlt:i<k
    · have hiq:i<q.length:=by rw [HQl.out];exact hlt
      obtain⟨b,off,cp,hv,c0⟩:=HO.out.cell1 Fk.u8 rfl i hiq
      simp only [Value.slice.injEq]at hv
      obtain⟨rfl,_,rfl⟩:=hv
      have d0:w1.cell? ⟨b,off+i,none⟩=some (.int .u8 (q[i].toNat:Int)):=c0
      clear c0
      have i1:(i:Int)<k:=by omega
      have i2:(0:Int)<=i:=by omega
      have HSt:=hid (HStep.out i hiq)
      have hlti:=HLt.out i (by omega)
      have hlt2:=HLt.out (i+1) (by omega)
      have hbl:=q[i].toNat_lt
      generalize q[i].toNat=bb at *
      have hp:(2:Nat) ^ (8*i)<=2 ^ 56:=Nat.pow_le_pow_right (by omega) (by omega)
      have hp9:(2:Nat) ^ 56=72057594037927936:=by decide
      have hbp:bb*2 ^ (8*i)<=255*2 ^ 56:=Nat.mul_le_mul (by omega) hp
      have HB:Hid (bits .or .u64 ((leN (q.take i):Nat):Int) (IntKind.u64.wrap ((bb:Int)*2 ^ (8*i)))=((leN (q.take (i+1)):Nat):Int)):=by
        show _=_
        rw [show(bb:Int)*2 ^ (8*i)=((bb*2 ^ (8*i):Nat):Int) by simp,IntWalk.u64_in _ (by omega),or_u64n _ _ (by omega) (by omega),HSt.out]
      clear hp hp9 hbp hlti hlt2 HSt
      go_wp2_with fail
      go_round
      case rel=>exact⟨i+1,by omega,by go_num,by rw [HB.out]⟩
      case measure=>simp [intOf];omega
    · obtain rfl:k=i:=by omega
      have hnl:¬((k:Int)<k):=by omega
      have HA:=hid HAll.out
      rw [HAll.out]
      go_wp2_with fail
      go_ret
      exact⟨rfl,hC,hch⟩
set_option maxRecDepth 512
set_option maxRecDepth 100000
theorem scan_any (v : Value) (l : List UInt8) (w : World) (hs : See w eB v l) (hl : l.length ≤ 1000000) :
    Calls Tryz.prog 188 #[v] w fun e w'=>e=.returned (.tuple #[.int .u64 ((numL l).1:Int),N (numL l).2.1,.int .i64 ((numL l).2.2:Int)])/\w=w':=by
  obtain⟨a0,cap,hv,_⟩:=hs.shape
  subst hv
  have HS:=hid hs
  have HN:Hid (numL l=numGo 0 0 (l.drop 0)):=rfl
  clear hs
  generalize numL l=R at *
  go_enter Tryz.func188, Tryz.ntmps188
  go_wp2_with fail
  go_loop [2,9] (fun xv iv=>∃ i x:Nat,i<=l.length/\i<=9/\iv=N i/\xv=.int .u64 (x:Int)/\Hid (x<128 ^ i)/\Hid (R=numGo i x (l.drop i))) (fun _ iv=>l.length - (intOf iv).toNat)
  case atStart=>exact⟨0,0,Nat.zero_le _,by omega,rfl,rfl,by show 0<_;decide,HN.out⟩
  case round=>
    obtain⟨i,x,hi,hi9,rfl,rfl,HX,HR⟩:=hrel
    clear HN
    by_cases hlt:i<l.length
    · obtain⟨b,off,cp,hv,c0⟩:=HS.out.cell1 Fk.u8 rfl i hlt
      cases hv
      have d0:w.cell? ⟨b,off+i,none⟩=some (.int .u8 (l[i].toNat:Int)):=c0
      have HR2:=hid (numGo_step l i x hlt)
      have hcb:=l[i].toNat_lt
      clear c0
      generalize l[i].toNat=c at *
      have i1:(i:Int)<l.length:=by omega
      have i2:(0:Int)<=i:=by omega
      by_cases hf:(i=9/\¬c=1)\/(0<i/\c=0)
      · have HE:Hid (R=(0,0,2)):=by show _=_;rw [HR.out,HR2.out,if_pos hf]
        clear HR HR2 HX
        by_cases h9:i=9
        · subst h9
          by_cases h1:c=1
          · omega
          · have k1:¬(c:Int)=1:=by omega
            clear hf h1
            go_wp2_with fail
            go_ret3
            rw [HE.out]
            exact⟨rfl,rfl⟩
        · have k0:¬(i:Int)=9:=by omega
          have k1:(0:Int)<i:=by omega
          have k2:c=0:=by omega
          subst k2
          clear hf h9
          go_wp2_with fail
          go_ret3
          rw [HE.out]
          exact⟨rfl,rfl⟩
      · have hf2:¬(i=9/\¬c=1):=fun h=>hf (.inl h)
        have hnx:=num_next i c x hi9 hcb HX.out hf2
        have hand:=andnot_u8 c hcb
        have HP:=hid (pow128_two i)
        have hm128:c % 128<128:=Nat.mod_lt _ (by omega)
        have w1:IntKind.u64.wrap ((c % 128:Nat):Int)=((c % 128:Nat):Int):=IntWalk.u64_in _ (by omega)
        have w2:IntKind.i64.wrap (7*(i:Int))=7*(i:Int):=IntWalk.i64_in _ (by omega)
        have w3:IntKind.u64.wrap (((c % 128:Nat):Int)*2 ^ (7*i))=((c % 128*128 ^ i:Nat):Int):=by
          rw [IntWalk.u64_in _ (by rw [show((c % 128:Nat):Int)*2 ^ (7*i)=((c % 128*2 ^ (7*i):Nat):Int) by simp,<- HP.out];omega),HP.out];simp
        have w4:bits .or .u64 (x:Int) ((c % 128*128 ^ i:Nat):Int)=((x+c % 128*128 ^ i:Nat):Int):=by
          rw [or_u64n _ _ (by omega) (by omega),HP.out,leN_or _ _ _ (by rw [<- HP.out];exact HX.out)]
        have s1:¬(7*(i:Int))<0:=by omega
        have s2:(7*(i:Int)).toNat=7*i:=by omega
        by_cases h9:i=9
        · have hc1:c=1:=by omega
          have hx9:=HX.out
          subst h9 hc1
          have e9:(128:Nat) ^ 9=9223372036854775808:=by decide
          rw [e9]at hx9
          have w5:bits .or .u64 (x:Int) (IntKind.u64.wrap (IntKind.u64.wrap (bits .andNot .u8 1 128)*9223372036854775808))=((x+9223372036854775808:Nat):Int):=by
            rw [show IntKind.u64.wrap (IntKind.u64.wrap (bits .andNot .u8 1 128)*9223372036854775808)=((1*2 ^ 63:Nat):Int)from by decide +kernel,or_u64n _ _ (by omega) (by decide),leN_or _ _ _ (by omega)]
          have HE:Hid (R=(x+9223372036854775808,10,0)):=by
            show _=_;rw [HR.out,HR2.out,if_neg hf,if_pos (by omega),e9]
          have HW:=hid w5
          clear w1 w2 w3 w4 w5 s1 s2 hand hm128 hnx hf hf2 HR HR2 HX hx9 e9
          go_wp2_with fail
          go_ret3
          rw [HE.out,HW.out]
          exact⟨rfl,rfl⟩
        have k0:¬(i:Int)=9:=by omega
        have HNx:=hid hnx.1
        have hi8:i<=8:=by omega
        have HR3:Hid (R=if c<128 then(x+c % 128*128 ^ i,i+1,0)else numGo (i+1) (x+c % 128*128 ^ i) (l.drop (i+1))):=by show _=_;rw [HR.out,HR2.out,if_neg hf]
        have HF:=hid hf
        clear HR HR2 hf hnx hf2 h9 hi9
        generalize c % 128*128 ^ i=y at *
        generalize hcm:c % 128=cm at *
        have HCm:=hid hcm
        clear hcm
        by_cases hi0:0<i
        · have k1:(0:Int)<i:=by omega
          have k2:¬(c:Int)=0:=by have:=HF.out;omega
          clear HF
          by_cases hc:c<128
          · have k3:(c:Int)<128:=by omega
            have HE:Hid (R=(x+y,i+1,0)):=by show _=_;rw [HR3.out,if_pos hc]
            clear HR3
            go_wp2_with fail
            go_ret3
            rw [HE.out]
            exact⟨by simp [N],rfl⟩
          · have k3:¬(c:Int)<128:=by omega
            have HE:Hid (R=numGo (i+1) (x+y) (l.drop (i+1))):=by show _=_;rw [HR3.out,if_neg hc]
            clear HR3
            go_wp2_with fail
            go_round
            case rel=>exact⟨i+1,x+y,by omega,by omega,by go_num,rfl,HNx.out,HE.out⟩
            case measure=>simp [intOf];omega
        · have k1:¬(0:Int)<i:=by omega
          clear HF
          by_cases hc:c<128
          · have k3:(c:Int)<128:=by omega
            have HE:Hid (R=(x+y,i+1,0)):=by show _=_;rw [HR3.out,if_pos hc]
            clear HR3
            go_wp2_with fail
            go_ret3
            rw [HE.out]
            exact⟨by simp [N],rfl⟩
          · have k3:¬(c:Int)<128:=by omega
            have HE:Hid (R=numGo (i+1) (x+y) (l.drop (i+1))):=by show _=_;rw [HR3.out,if_neg hc]
            clear HR3
            go_wp2_with fail
            go_round
            case rel=>exact⟨i+1,x+y,by omega,by omega,by go_num,rfl,HNx.out,HE.out⟩
            case measure=>simp [intOf];omega
    · obtain rfl:i=l.length:=by omega
      have hnl:¬((l.length:Int)<l.length):=by omega
      have HE:Hid (R=(0,0,1)):=by show _=_;rw [HR.out,numGo_end l _ x (Nat.le_refl _)]
      clear HR HX
      go_wp2_with fail
      go_ret3
      rw [HE.out]
      exact⟨rfl,rfl⟩
set_option maxRecDepth 512
set_option maxRecDepth 100000
theorem read_no(fv:Value)(B base n er:Nat)(l:List UInt8)(w:World)(hc:CurF w 183 B base l n er)(he:¬er=0) :
  Calls Tryz.prog 125 #[.pointer (some ⟨B,0,none⟩),fv] w fun e w'=>e=.returned (.bool false)/\w=w':=by
 have HE:=hid (CErr_any B base n er l w hc)
 have h1:¬(er:Int)=0:=by omega
 clear hc
 go_enter Tryz.func125, Tryz.ntmps125
 go_wp2_with fail
 refine(HE.out).mono ?_
 rintro e w1 ⟨rfl,rfl⟩
 go_wp2_with fail
 go_ret
 exact⟨rfl,rfl⟩
theorem read_at(fn:Nat)(cap:List Value)(hfn:(fn=225/\∃ a,cap=[a])\/(fn=126/\∃ a b,cap=[a,b])\/(fn=181/\∃ a b,cap=[a,b])\/(fn=260/\∃ a b,cap=[a,b]))(G:Nat->Prop)(Q:World->Prop)(B base n k er:Nat)(l:List UInt8)(w:World)(hc:CurF w 183 B base l n 0)
  (HT:Hid (∀ W v,Fr w W->See W eB v (l.drop n)->Calls Tryz.prog fn (v::cap).toArray W fun e w'=>e=.returned (.tuple #[N k,.int .i64 (er:Int)])/\Q w'/\Chg G W w'))
  (hk:er=0->n+k<=l.length) (hG:∀ g,G g->g≠B/\∃ cs T f,w.heap[g]?=some (.cells cs T f)/\T≠5) (hl:l.length<=1000000) :
  Calls Tryz.prog 125 #[.pointer (some ⟨B,0,none⟩),.func (.func fn) #[] cap.toArray] w fun e w'=>e=.returned (.bool (decide (er=0)))/\∃ w3,Q w3/\Chg G w w3/\Chg (fun b=>b=B) w3 w'/\CurF w' 183 B base l (if er=0 then n+k else n) er:=by
 have HE:=hid (CErr_any B base n 0 l w hc)
 have HR:=hid (rest_any B base n 0 l w hc)
 obtain⟨⟨v,h1,hO⟩,hle⟩:=hc
 have hBG:¬G B:=fun h=>(hG B h).1 rfl
 have hvG:∀ i,v.ownBlock=some i->¬G i:=fun i hi h=>by
  obtain⟨_,cs,T,f,h2,h3⟩:=hG i h
  exact hO.ne_cells h2 h3 hi
 have hvB:=hO.ne_cells h1 (by decide)
 clear hG
 generalize l.length - n=m at *
 go_enter Tryz.func125, Tryz.ntmps125
 go_wp2_with fail
 refine(HE.out).mono ?_
 rintro e w1 ⟨rfl,rfl⟩
 go_wp2_with fail
 refine(HR.out).mono ?_
 rintro e w2 ⟨a,cp,rfl,hs2,hf2⟩
 have HX:Hid (Calls Tryz.prog fn (.slice a m cp::cap).toArray w2 (fun e w'=>e=.returned (.tuple #[N k,.int .i64 (er:Int)])/\Q w'/\Chg G w2 w')):=HT.out w2 _ hf2 hs2
 rcases hfn with⟨rfl,c1,rfl⟩ | ⟨rfl,c1,c2,rfl⟩ | ⟨rfl,c1,c2,rfl⟩ | ⟨rfl,c1,c2,rfl⟩
 all_goals go_wp2_with fail
 all_goals refine(HX.out).mono ?_
 all_goals rintro e w3 ⟨rfl,hq,hc3⟩
 all_goals
  have h13:=hc3.heap (hf2.heap h1) hBG
  have hOv:=(hO.fr hf2).chg hc3 hvG
  have hcc:Chg G w w3:=(hf2.chg _).trans hc3 fun _ _ h=>h
  clear HE HR HT HX hs2
  by_cases he:er=0
  · subst he
    have hk1:=hk rfl
    have hw1:IntKind.i64.wrap ((n:Int)+k)=(n:Int)+k:=IntWalk.i64_in _ (by omega)
    have c1:w3.cell? ⟨B,1,none⟩=some (N n):=by rw [cell_of_heap h13];rfl
    have z1:=frozen_of_heap h13 1
    have hst:=setCell_chg w3 ⟨B,1,none⟩ (.int .i64 ((n:Int)+k))
    have h14:=heap_setCell_own h13 1 (.int .i64 ((n:Int)+k))
    have hOv4:=hOv.chg hst (fun i hi e=>hvB (by rw [hi,show i=B from e]))
    clear hOv
    go_wp2_with fail
    go_ret
    exact⟨rfl,w3,hq,hcc,hst,⟨v,h14,hOv4⟩,hk1⟩
  · have he1:¬(er:Int)=0:=by omega
    have c1:w3.cell? ⟨B,2,none⟩=some (.int .i64 0):=by rw [cell_of_heap h13];rfl
    have z1:=frozen_of_heap h13 2
    have hst:=setCell_chg w3 ⟨B,2,none⟩ (.int .i64 (er:Int))
    have h14:=heap_setCell_own h13 2 (.int .i64 (er:Int))
    have hOv4:=hOv.chg hst (fun i hi e=>hvB (by rw [hi,show i=B from e]))
    clear hOv
    go_wp2_with fail
    go_ret
    exact⟨rfl,w3,hq,hcc,hst,⟨v,h14,hOv4⟩,hle⟩
set_option maxRecDepth 512
theorem read_any(fn:Nat)(cap:List Value)(hfn:(fn=225/\∃ a,cap=[a])\/(fn=126/\∃ a b,cap=[a,b])\/(fn=181/\∃ a b,cap=[a,b])\/(fn=260/\∃ a b,cap=[a,b]))(G:Nat->Prop)(Q:World->Prop)(B base:Nat)(s:Cs)(r:Nat × Nat × Nat)(l:List UInt8)(w:World)(hc:CurF w 183 B base l s.at_ s.er)
  (HT:Hid (∀ W v,Fr w W->See W eB v (l.drop s.at_)->Calls Tryz.prog fn (v::cap).toArray W fun e w'=>e=.returned (.tuple #[N r.2.1,.int .i64 (r.2.2:Int)])/\Q w'/\Chg G W w'))
  (hk:r.2.2=0->s.at_+r.2.1<=l.length) (hG:∀ g,G g->g≠B/\∃ cs T f,w.heap[g]?=some (.cells cs T f)/\T≠5) (hl:l.length<=1000000) :
  Calls Tryz.prog 125 #[.pointer (some ⟨B,0,none⟩),.func (.func fn) #[] cap.toArray] w fun e w'=>e=.returned (.bool (decide (s.er=0/\r.2.2=0)))/\(¬s.er=0->w=w')/\∃ w3,(s.er=0->Q w3)/\Chg G w w3/\Chg (fun b=>b=B) w3 w'/\CurF w' 183 B base l (s.step r).at_ (s.step r).er:=by
 by_cases h0:s.er=0
 · rw [h0]at hc
   refine(read_at fn cap hfn G Q B base s.at_ r.2.1 r.2.2 l w hc HT hk hG hl).mono ?_
   rintro e w1 ⟨rfl,w3,hq,h1,h2,h3⟩
   refine⟨by simp [h0],fun h=>absurd h0 h,w3,fun _=>hq,h1,h2,?_⟩
   unfold Cs.step
   rw [if_pos h0]
   by_cases hr:r.2.2=0
   · rw [if_pos hr]at h3 ⊢;rw [hr]at h3;exact h3
   · rw [if_neg hr]at h3 ⊢;exact h3
 · refine(read_no _ B base s.at_ s.er l w hc h0).mono ?_
   rintro e w1 ⟨rfl,rfl⟩
   refine⟨by simp [h0],fun _=>rfl,w,fun h=>absurd h h0,Chg.refl _ _,Chg.refl _ _,?_⟩
   unfold Cs.step
   rw [if_neg h0];exact hc
end Go.Proofs.YtijghcbpfcjjnaaGreatDoor
