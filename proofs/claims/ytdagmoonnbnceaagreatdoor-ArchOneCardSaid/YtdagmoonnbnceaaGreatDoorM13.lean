/- Parts of the proof of ArchOne: N2 B1 B2 B3 E1 R1 C1 V0 Dr1 N4 C3. -/
import Derived.Test.YtdagmoonnbnceaaGreatDoorM10
import Derived.Test.YtdagmoonnbnceaaGreatDoorM12
import Derived.Test.YtdagmoonnbnceaaGreatDoorM06
import Derived.Test.YtdagmoonnbnceaaGreatDoorM04
import Derived.Test.YtdagmoonnbnceaaGreatDoorM01
import Derived.Test.YtdagmoonnbnceaaGreatDoorM37
set_option linter.unusedVariables false
set_option linter.unusedSectionVars false
set_option linter.unusedSimpArgs false
set_option maxHeartbeats 8000000
set_option maxRecDepth 100000
namespace Go.Proofs.YtdagmoonnbnceaaGreatDoor
open Go.RowKit Go.Fk
theorem or_all:allB 256 (fun y=>(y ||| 128) == 128+y % 128)=true:=by decide +kernel
theorem or_high(x:Nat):bits .or .u8 ((x:Int) % 256) 128=((UInt8.ofNat (128+x % 128)).toNat:Int):=by
 have h:(x % 256) ||| 128=128+(x % 256) % 128:=beq_iff_eq.1 (allB_out 256 _ or_all (x % 256) (by omega))
 rw [show(x:Int) % 256=((x % 256:Nat):Int) by omega,show(128:Int)=((128:Nat):Int)from rfl,or_u8 (x % 256) 128 (by omega) (by omega),h,UInt8.toNat_ofNat']
 omega
theorem byte_cell(x:Nat)(h:x<256):(#[Value.int .u8 (x:Int)]:Array Value).toList=eB.cells [UInt8.ofNat x]:=by
 have e:(x:Int)=((UInt8.ofNat x).toNat:Int):=by rw [UInt8.toNat_ofNat'];omega
 rw [e];rfl
theorem Num_any(x:Nat)(hx:x<18446744073709551616)(w:World) :
  Calls Tryz.prog 27 #[.int .u64 (x:Int)] w fun e w'=>∃ v,e=.returned v/\Ow w' w.heap.size eB v (numB x)/\Fr w w':=by
 have hlen:=numB_le x hx
 generalize hR:numB x=R at *
 have HL:=hid hlen
 go_enter Tryz.func27, Tryz.ntmps27
 go_wp2_with fail
 go_loopw [0,3] (fun xv ov wr=>∃ (y:Nat) (o:List UInt8),xv=.int .u64 (y:Int)/\y<18446744073709551616/\Ow wr w.heap.size eB ov o/\Hid (R=o++numB y)/\Fr w wr) (fun xv _ _=>(intOf xv).toNat)
 case atStart=>exact⟨x,[],rfl,hx,Ow.nil,by show _=_;rw [hR];rfl,Fr.refl w⟩
 case round=>
  obtain⟨y,o,rfl,hy,hown,HR,hf⟩:=hrel
  have hol:o.length<=10:=by
   have h1:=HL.out
   rw [HR.out,List.length_append]at h1
   omega
  have hc1:o.length+1<=2147483648:=by omega
  clear hlen hR
  by_cases hb:y<128
  · have HE:Hid (R=o++[UInt8.ofNat y]):=by show _=_;rw [HR.out,numB_one y hb]
    have HB:=hid (byte_cell y (by omega))
    have hb':¬(128:Int)<=y:=by omega
    generalize UInt8.ofNat y=c at *
    go_wp2_with (at_builtin;refine wpList_app1 eB rfl (.tmp 14) (.tmp 17) 27 rfl Tryz.underlying27 w.heap.size rfl hown [c] _ _ _ HB.out rfl rfl hc1 hf.size ?_)
    intro v' w4 hap
    go_wp2_with fail
    go_ret
    exact⟨_,rfl,by rw [HE.out];exact hap.own,hap.below hown hf (Nat.le_refl _) hf.size⟩
  · have HE:Hid (R=o++[UInt8.ofNat (128+y % 128)]++numB (y / 128)):=by show _=_;rw [HR.out,numB_more y hb];simp
    have hor:=or_high y
    have hb':(128:Int)<=y:=by omega
    generalize UInt8.ofNat (128+y % 128)=c at *
    go_wp2_with (at_builtin;refine wpList_app1 eB rfl (.tmp 6) (.tmp 10) 27 rfl Tryz.underlying27 w.heap.size rfl hown [c] _ _ _ rfl rfl rfl hc1 hf.size ?_)
    intro v' w4 hap
    go_wp2_with fail
    go_roundw
    case rel=>exact⟨y / 128,o++[c],by go_num,by omega,hap.own,HE,hap.below hown hf (Nat.le_refl _) hf.size⟩
    case measure=>simp [intOf];omega
theorem Text_any(s:List UInt8)(hs:s.length<=1000000000)(w:World) :
  Calls Tryz.prog 75 #[S s] w fun e w'=>∃ v,e=.returned v/\Ow w' w.heap.size eB v (textB s)/\Fr w w':=by
 have HN:=hid (Num_any s.length (by omega))
 have hlen:=numB_le s.length (by omega)
 have hc1:(numB s.length).length+s.length<=2147483648:=by omega
 have HT:Hid (textB s=numB s.length++s):=rfl
 generalize numB s.length=nb at *
 clear hlen
 go_enter Tryz.func75, Tryz.ntmps75
 go_wp2_with fail
 refine(HN.out _).mono ?_
 rintro e w1 ⟨v1,rfl,hown,hf⟩
 go_wp2_with (at_builtin;refine wpList_app_str eB rfl (.tmp 6) (.tmp 7) 27 9 rfl Tryz.underlying27 Tryz.underlying9 rfl rfl rfl w.heap.size rfl hown s rfl hc1 hf.size ?_)
 intro v' w4 hap
 go_wp2_with fail
 go_ret
 exact⟨_,rfl,by rw [HT.out];exact hap.own,hap.below hown hf (Nat.le_refl _) hf.size⟩
theorem All_any(v:Value)(hs:List Hd)(ls:List (List UInt8))(w:World)(hv:Sees2 w eHB eB v hs ls)(hn:ls.flatten.length<=1000000) :
  Calls Tryz.prog 26 #[v] w fun e w'=>∃ v,e=.returned v/\Ow w' w.heap.size eB v ls.flatten/\Fr w w':=by
 obtain⟨a,cap,hva,_⟩:=hv.1.shape
 have HC:=hid (BConcat_any v hs ls w hv hn)
 subst hva
 go_enter Tryz.func26, Tryz.ntmps26
 go_wp2_with fail
 refine HC.out.mono ?_
 rintro e w1 ⟨v1,rfl,hown,hf⟩
 go_wp2_with fail
 go_ret
 exact⟨_,rfl,hown,hf⟩
theorem Zig_any(d:Nat)(hd:d<18446744073709551616)(w:World) :
  Calls Tryz.prog 80 #[.int .u64 (d:Int)] w fun e w'=>e=.returned (.int .u64 (zigN d:Nat))/\w=w':=by
 have key:bits BinOp.xor IntKind.u64 (IntKind.u64.wrap ((d:Int)*2)) (IntKind.u64.wrap (-((d:Int) / 9223372036854775808)))=((zigN d:Nat):Int):=by
  rw [IntKind.wrap_u64,IntKind.wrap_u64]
  by_cases h:d<9223372036854775808
  · rw [show(d:Int) / 9223372036854775808=0 by omega,show(d:Int)*2 % 18446744073709551616=((2*d:Nat):Int) by omega,show(-(0:Int)) % 18446744073709551616=((0:Nat):Int) by omega,bits_xor_u64_nat _ _ (by omega) (by omega),Nat.xor_zero]
    unfold zigN
    rw [if_pos h]
  · rw [show(d:Int) / 9223372036854775808=1 by omega,show(d:Int)*2 % 18446744073709551616=((2*d - 18446744073709551616:Nat):Int) by omega,show(-(1:Int)) % 18446744073709551616=((2 ^ 64 - 1:Nat):Int) by omega,bits_xor_u64_nat _ _ (by omega) (by omega),xor_ones 64 _ (by omega)]
    unfold zigN
    rw [if_neg h]
    omega
 have HK:=hid key
 clear key
 go_enter Tryz.func80, Tryz.ntmps80
 go_wp2_with fail
 go_ret
 refine⟨?_,rfl⟩
 rw [<- HK.out]
 rfl
theorem shr256(x i:Nat):((x:Int) / 2 ^ (8*i))=((x / 256 ^ i:Nat):Int):=by
 rw [show(256:Nat) ^ i=2 ^ (8*i) by rw [Nat.pow_mul]]
 simp
theorem Fixed_any(x n:Nat)(hn:1<=n)(hn8:n<=7)(hx:x<256 ^ n)(hx64:x<18446744073709551616)(w:World) :
  Calls Tryz.prog 56 #[.int .u64 (x:Int),N n] w fun e w'=>∃ v,e=.returned (.tuple #[v,.int .i64 0])/\Ow w' w.heap.size eB v (fixB n x)/\Fr w w':=by
 have h1:¬(n:Int)<1:=by omega
 have h2:¬(8:Int)<n:=by omega
 have h3:(n:Int)<8:=by omega
 have h4:(x:Int) / 2 ^ (8*n)=0:=by rw [shr256,Nat.div_eq_of_lt hx];rfl
 have hmk:=made_run eB rfl rfl 27 Tryz.underlying27 .i64 .i64 n (by omega)
 have hmo:∀ W:World,Ow (W.alloc (.cells (madeCells #[eB.z] n) eB.e)) W.heap.size eB (.slice (some ⟨W.heap.size,0,none⟩) n n) (List.replicate n 0):=fun W=>made_own eB rfl rfl n (by omega) W (Nat.le_refl _)
 generalize hR:fixB n x=R
 have HL:Hid (R.length=n):=by show _=_;rw [<- hR,fixB_len]
 have HA:Hid (∀ i (h:i<n) (h2:i<R.length),R[i]=UInt8.ofNat (x / 256 ^ i % 256)):=by
  intro i h h2
  subst hR
  exact fixB_at n x i h
 have HMO:=hid hmo
 clear hx hR hmo
 go_enter Tryz.func56, Tryz.ntmps56
 go_wp2_with fail
 have hown0:=HMO.out w
 have hf0:Fr w (w.alloc (.cells (madeCells #[eB.z] n) eB.e)):=(Fr.refl w).alloc _
 generalize w.alloc (.cells (madeCells #[eB.z] n) eB.e)=w0 at *
 generalize hg:w.heap.size=g at *
 clear h1 h2 h3 h4 hmk
 go_loopw [29] (fun iv wr=>∃ i:Nat,i<=n/\iv=N i/\Ow wr g eB (.slice (some ⟨g,0,none⟩) n n) (R.take i++List.replicate (n - i) 0)/\Below g w wr) (fun iv _=>n - (intOf iv).toNat)
 case atStart=>exact⟨0,Nat.zero_le _,rfl,hown0,by rw [<- hg];exact hf0⟩
 case round=>
  obtain⟨i,hi,rfl,hown,hf⟩:=hrel
  clear hown0 hf0
  by_cases hlt:i<n
  · have hlt':(i:Int)<n:=by omega
    have hi0:(0:Int)<=i:=by omega
    have hll:(R.take i++List.replicate (n - i) (0:UInt8)).length=n:=fill_len R 0 n i HL.out hi
    obtain⟨c0,c1⟩:=hown.cellAt Fk.u8 rfl i (by rw [hll];exact hlt)
    have HR:Hid ((R.take i++List.replicate (n - i) (0:UInt8)).set i (UInt8.ofNat (x / 256 ^ i % 256))=R.take (i+1)++List.replicate (n - (i+1)) 0):=by
     exact fill_set R 0 n i HL.out hlt _ (HA.out i hlt (by have:=HL.out;omega))
    have hset:=hown.set Fk.u8 rfl i (by rw [hll];exact hlt) (UInt8.ofNat (x / 256 ^ i % 256)) (.int .u8 ((x / 256 ^ i % 256:Nat):Int)) (by show Value.int .u8 _=_;rw [UInt8.toNat_ofNat'];congr 1;omega)
    rw [HR.out]at hset
    have hx8:((x:Int) / 2 ^ (8*i)) % 256=((x / 256 ^ i % 256:Nat):Int):=by rw [shr256];omega
    have hfs:=set_below hf (Nat.le_refl g) (by rw [<- hg];exact(Below.size hf)) (i:=i) (u:=.int .u8 ((x / 256 ^ i % 256:Nat):Int))
    go_wp2_with fail
    go_roundw
    case rel=>exact⟨i+1,by omega,by go_num,hset,hfs⟩
    case measure=>simp [intOf];omega
  · obtain rfl:i=n:=by omega
    have hnl:¬((i:Int)<i):=by omega
    rw [Nat.sub_self,List.replicate_zero,List.append_nil,List.take_of_length_le (by have:=HL.out;omega)]at hown
    go_wp2_with fail
    exact bodyPost_ret (v:=.tuple #[.slice (some ⟨g,0,none⟩) i i,.int .i64 0]) (by simp [results,Tryz.results56,go_sem, *]) rfl ⟨_,rfl,hown,by rw [<- hg]at hf;exact hf⟩
def WrB(w:World)(base g:Nat)(T:TypeId)(rest:List Value)(bv:Value)(l:List UInt8):Prop:=
 w.heap[g]? = some (.cells (bv::N l.length::rest).toArray T (0,0))/\Ow w base eB bv (packW l)/\g<base/\IsBits l
def WSt(g:Nat)(bv bv':Value)(w w':World):Prop:=Chg (fun k=>k=g\/bv.ownBlock=some k) w w'/\∀ b,bv'.ownBlock=some b->bv.ownBlock=some b\/w.heap.size<=b
theorem WSt.refl(g:Nat)(bv:Value)(w:World):WSt g bv bv w w:=⟨Chg.refl _ w,fun _ h=>.inl h⟩
theorem WSt.trans{g:Nat}{a b c:Value}{w w1 w2:World}(h:WSt g a b w w1)(k:WSt g b c w1 w2):WSt g a c w w2:=
 ⟨h.1.trans k.1 (fun i hi hk => by
  rcases hk with e | e
  · exact .inl e
  · rcases h.2 i e with h2 | h2
    · exact .inr h2
    · omega), fun i hi => by
  rcases k.2 i hi with e | e
  · exact h.2 i e
  · exact .inr (Nat.le_trans h.1.size e)⟩
theorem WSt.fr{g:Nat}{a b:Value}{w w0 w1:World}(hf:Fr w w0)(h:WSt g a b w0 w1):WSt g a b w w1:=
 ⟨(hf.chg _).trans h.1 (fun _ _ h=>h),fun i hi=>(h.2 i hi).imp id fun e=>Nat.le_trans hf.size e⟩
theorem WSt.frR{g:Nat}{a b:Value}{w w0 w1:World}(h:WSt g a b w w0)(hf:Fr w0 w1):WSt g a b w w1:=
 ⟨h.1.trans (hf.chg (fun k=>k=g\/a.ownBlock=some k)) (fun _ _ h=>h),h.2⟩
theorem WSt.heap{g:Nat}{a b:Value}{w w':World}(h:WSt g a b w w'){k:Nat}{o:Obj}(hk:w.heap[k]? = some o)(hg:k≠g)(ha:a.ownBlock≠some k):w'.heap[k]? = some o:=
 h.1.heap hk (fun e=>e.elim hg ha)
theorem badd_any(x:UInt8)(hx:x=0\/x=1)(base g:Nat)(T:TypeId)(rest:List Value)(bv:Value)(l:List UInt8)(w:World)(h:WrB w base g T rest bv l)(hl:l.length<=1000000000)(hb:base<=w.heap.size) :
  Calls Tryz.prog 167 #[.pointer (some ⟨g,0,none⟩),.int .u64 x.toNat] w fun e w'=>e=.returned (.tuple #[])/\∃ bv',WrB w' base g T rest bv' (l++[x])/\WSt g bv bv' w w':=by
 obtain⟨hG,hown,hgb,hbits⟩:=h
 have e0:=cellx hG 0 rfl
 have e1:=cellx hG 1 rfl
 have z0:=frozen_of_heap hG 0
 have z1:=frozen_of_heap hG 1
 have hlen:=packW_len l
 have hsn:=packW_snoc l x hbits hx
 obtain⟨m,hm⟩:∃ m,m=(if l.length % 8=0 then packW l++[0]else packW l):=⟨_,rfl⟩
 have hml:l.length / 8<m.length:=by
  rw [hm];split
  · rw [List.length_append,hlen];simp;omega
  · rw [hlen];omega
 have hmat:m[l.length / 8]=UInt8.ofNat (byteW l (l.length / 8)):=by
  by_cases h8:l.length % 8=0
  · simp only [hm,if_pos h8]
    rw [List.getElem_append_right (by rw [hlen];omega)]
    rw [byteW_zero l _ (by omega)]
    simp
  · simp only [hm,if_neg h8]
    exact packW_at l _ _
 rw [<- hm]at hsn
 have HSN:=hid hsn
 have HM:=hid hm
 have HMAT:=hid hmat
 have HLen:=hid hlen
 clear hsn hm hmat hlen
 have hn0:(0:Int)<=l.length:=by omega
 have hml2:m.length<=(packW l).length+1:=by rw [HM.out];split <;> simp
 obtain⟨bva,bvc,hbv⟩:=hown.shape'
 go_enter Tryz.func167, Tryz.ntmps167
 go_upto_if 9 with fail
 go_cut []from 8 to 18 (fun wx=>∃ bv1,wx.heap[g]? = some (.cells (bv1::N l.length::rest).toArray T (0,0))/\Ow wx base eB bv1 m/\WSt g bv bv1 w wx)
 case first=>
  by_cases h8:l.length % 8=0
  · have h8':(l.length:Int) % 8=0:=by omega
    have hx1:(packW l).length+1<=2147483648:=by rw [HLen.out];omega
    have HMe:Hid (m=packW l++[0]):=by show _=_;rw [HM.out,if_pos h8]
    subst hbv
    go_wp2_with (at_builtin;refine wpList_app1 eB rfl (.tmp 14) (.tmp 15) 27 rfl Tryz.underlying27 base rfl hown [0] _ _ _ rfl rfl rfl hx1 hb ?_)
    intro v' w4 hap
    have hG4:=hap.chg'.heap hG (fun e=>by have:=(hown.lt _ e).1;omega)
    have c0:=cellx hG4 0 rfl
    have c1:=frozen_of_heap hG4 0
    obtain⟨va,vc,hv⟩:=hap.own.shape'
    rw [show(packW l++[(0:UInt8)]).length=(packW l).length+1 from by simp]at hv
    subst hv
    go_wp2_with fail
    go_meet
    refine⟨_,heap_setCell_own hG4 0 _,?_,⟨?_,?_⟩⟩
    · rw [HMe.out];exact own_set_other hap.own hgb
    · exact(hap.chg'.mono (fun k _ h=>Or.inr h)).trans (setCell_chg w4 ⟨g,0,none⟩ _) (fun k _ h=>Or.inl h)
    · exact hap.fresh
  · have h8':¬(l.length:Int) % 8=0:=by omega
    have HMe:Hid (m=packW l):=by show _=_;rw [HM.out,if_neg h8]
    go_wp2_with fail
    go_meet
    exact⟨_,hG,by rw [HMe.out];exact hown,WSt.refl g bv w⟩
 case rest=>
  obtain⟨bv1,hG1,hown1,hst⟩:=hcut
  clear hG hown e0 e1 z0 z1
  have hne:m≠[]:=by intro e;rw [e]at hml;simp at hml
  obtain⟨q,cap,rfl,hq1,hq2,hq3,hq4⟩:=hown1.atHead hne
  obtain⟨c2,c3⟩:=hown1.cellAt (fun c=>Fk.u8 c) rfl (l.length / 8) hml
  have hs1:=fun u x hx=>hown1.set (fun c=>Fk.u8 c) rfl (l.length / 8) hml x u hx
  rw [HMAT.out]at c2
  have hby:=byteW_lt hbits (l.length / 8)
  generalize byteW l (l.length / 8)=y at *
  have e0:=cellx hG1 0 rfl
  have e1:=cellx hG1 1 rfl
  have i1:(l.length:Int) / 8<m.length:=by omega
  have i2:(0:Int)<=(l.length:Int) / 8:=by omega
  have i3:((l.length:Int) / 8).toNat=l.length / 8:=by omega
  have i4:(0:Int)<=7 - (l.length:Int) % 8:=by omega
  have i5:(7 - (l.length:Int) % 8).toNat=7 - l.length % 8:=by omega
  have hxb:=UInt8.toNat_lt x
  have j1:IntKind.i64.wrap ((l.length:Int) / 8)=(l.length:Int) / 8:=IntWalk.i64_in _ (by omega)
  have j2:(l.length:Int).tmod 8=(l.length:Int) % 8:=Int.tmod_eq_emod_of_nonneg (by omega)
  have j2':IntKind.i64.wrap ((l.length:Int) % 8)=(l.length:Int) % 8:=IntWalk.i64_in _ (by omega)
  have j3:IntKind.i64.wrap (7 - (l.length:Int) % 8)=7 - (l.length:Int) % 8:=IntWalk.i64_in _ (by omega)
  have j4:IntKind.u8.wrap (x.toNat:Int)=x.toNat:=by rw [wrap_u8];omega
  have hSl:x.toNat*2 ^ (7 - l.length % 8)<256:=by
   have h1:x.toNat<=1:=by rcases hx with rfl | rfl <;> decide
   have h2:2 ^ (7 - l.length % 8)<=2 ^ 7:=Nat.pow_le_pow_right (by omega) (by omega)
   calc x.toNat * 2 ^ (7 - l.length % 8) ≤ 1 * 2 ^ 7 := Nat.mul_le_mul h1 h2
    _<256:=by decide
  have k1:IntKind.u8.wrap ((x.toNat:Int)*2 ^ (7 - l.length % 8))=((x.toNat*2 ^ (7 - l.length % 8):Nat):Int):=by
   rw [wrap_u8]
   have e:((x.toNat*2 ^ (7 - l.length % 8):Nat):Int)=(x.toNat:Int)*2 ^ (7 - l.length % 8):=by simp
   rw [<- e];omega
  have hor:y ||| x.toNat*2 ^ (7 - l.length % 8)<256:=Nat.or_lt_two_pow (n:=8) hby hSl
  generalize x.toNat*2 ^ (7 - l.length % 8)=S at *
  have k2:bits .or .u8 ((y:Int) % 256) (S:Int)=((y ||| S:Nat):Int):=by
   rw [show(y:Int) % 256=y by omega];exact or_u8 y S hby hSl
  have hs2:=hs1 (.int .u8 ((y ||| S:Nat):Int)) (UInt8.ofNat (y ||| S)) (byte_val _ hor).symm
  clear hs1
  generalize y ||| S=z at *
  have hqg:q≠g:=by omega
  have hG2:(wc.setCell ⟨q,l.length / 8,none⟩ (.int .u8 (z:Int))).heap[g]? = some (.cells (.slice (some ⟨q,0,none⟩) m.length cap::N l.length::rest).toArray T (0,0)):=by
   rw [Below.heap_setCell _ _ _ _ (by simpa using fun e=>hqg e.symm)];exact hG1
  have hst2:WSt g bv (.slice (some ⟨q,0,none⟩) m.length cap) w (wc.setCell ⟨q,l.length / 8,none⟩ (.int .u8 (z:Int))):=
   hst.trans ⟨(setCell_chg wc _ _).mono (fun k _ h=>Or.inr (by rw [h];rfl)),fun b hb=>Or.inl hb⟩
  have d1:(wc.setCell ⟨q,l.length / 8,none⟩ (.int .u8 (z:Int))).cell? ⟨g,1,none⟩=some (N l.length):=by rw [cell_of_heap hG2];rfl
  have d2:=frozen_of_heap hG2 1
  have HSt2:=hid hst2
  have HS2:=hid hs2
  have HG2:=hid hG2
  clear hst2 hs2 hG2 hst hown1 hG1
  go_upto_region 2 with fail
  go_still_tail 22,(by kernel_rfl)
  change wpList _ _ _ _ _ wc.drew
  go_wp2_with fail
  go_end0
  refine⟨rfl,.slice (some ⟨q,0,none⟩) m.length cap,⟨?_,?_,hgb,hbits.app (by intro c hc;rw [List.mem_singleton]at hc;rw [hc];exact hx)⟩,?_⟩
  · have h2:=heap_setCell_own HG2.out 1 (.int .i64 ((l.length:Int)+1))
    rw [List.setIfInBounds_toArray]at h2
    have e:(N (l++[x]).length:Value)=.int .i64 ((l.length:Int)+1):=by rw [List.length_append];rfl
    rw [e]
    exact h2
  · rw [HSN.out]
    exact(own_set_other HS2.out hgb).drew
  · exact(HSt2.out.trans (b:=.slice (some ⟨q,0,none⟩) m.length cap) (c:=.slice (some ⟨q,0,none⟩) m.length cap) ⟨(setCell_chg _ _ _).mono (fun k _ h=>Or.inl h),fun b hb=>Or.inl hb⟩).frR (Fr.drew (Fr.refl _))
theorem and1_u64(y:Nat)(h:y<18446744073709551616):bits .and .u64 (y:Int) 1=((y % 2:Nat):Int):=by
 show IntKind.u64.wrap ((BitVec.ofInt 64 (y:Int) &&& BitVec.ofInt 64 ((1:Nat):Int)).toNat:Int)=_
 rw [BitVec.toNat_and,of_int 64 y (by omega),of_int 64 1 (by omega),Nat.and_one_is_mod]
 simp only [IntKind.wrap,IntKind.bits,IntKind.signed]
 simp
 omega
theorem badd2_any(b:Nat)(hb:b<=1)(base g:Nat)(T:TypeId)(rest:List Value)(bv:Value)(l:List UInt8)(w:World)(h:WrB w base g T rest bv l)(hl:l.length<=1000000000)(hs:base<=w.heap.size) :
  Calls Tryz.prog 167 #[.pointer (some ⟨g,0,none⟩),.int .u64 (b:Int)] w fun e w'=>e=.returned (.tuple #[])/\∃ bv',WrB w' base g T rest bv' (l++[UInt8.ofNat b])/\WSt g bv bv' w w':=by
 have e:((UInt8.ofNat b).toNat:Int)=(b:Int):=by rw [UInt8.toNat_ofNat'];omega
 rw [<- e]
 refine badd_any (UInt8.ofNat b) ?_ base g T rest bv l w h hl hs
 have:b=0\/b=1:=by omega
 rcases this with rfl | rfl <;> simp
theorem WrB.drew{w:World}{base g:Nat}{T:TypeId}{rest:List Value}{bv:Value}{l:List UInt8}(h:WrB w base g T rest bv l):WrB w.drew base g T rest bv l:=⟨h.1,h.2.1.drew,h.2.2⟩
theorem sh_zero(x n:Nat)(h:x<2 ^ n):(x:Int) / 2 ^ n=0:=by
 have e:(x:Int) / 2 ^ n=((x / 2 ^ n:Nat):Int):=by simp
 rw [e,Nat.div_eq_of_lt h];rfl
theorem bput_any(x n:Nat)(hn:n<=64)(hx:x<2 ^ n)(base g:Nat)(T:TypeId)(rest:List Value)(bv:Value)(l:List UInt8)(w:World)(h:WrB w base g T rest bv l)(hl:l.length+n<=1000000000)(hs:base<=w.heap.size) :
  Calls Tryz.prog 121 #[.pointer (some ⟨g,0,none⟩),.int .u64 (x:Int),N n] w fun e w'=>e=.returned (.int .i64 0)/\∃ bv',WrB w' base g T rest bv' (l++bitsL x n)/\WSt g bv bv' w w':=by
 have hx64:x<18446744073709551616:=by
  calc x < 2 ^ n := hx
   _<=2 ^ 64:=Nat.pow_le_pow_right (by omega) hn
 have hz:=sh_zero x n hx
 have HA:=hid (fun b hb W m bv' (h1:WrB W base g T rest bv' m) (h2:m.length<=1000000000) (h3:base<=W.heap.size)=>badd2_any b hb base g T rest bv' m W h1 h2 h3)
 have hn0:(0:Int)<=n:=by omega
 have hn1:(n:Int)<=64:=by omega
 have hw1:IntKind.i64.wrap ((n:Int) - 1)=(n:Int) - 1:=IntWalk.i64_in _ (by omega)
 have d1:decide ((n:Int)<0)=false:=by simp
 have d2:decide ((64:Int)<n)=false:=by simp;omega
 have hc:decide ((n:Int)<64)=true\/decide ((n:Int)<64)=false:=by cases decide ((n:Int)<64) <;> simp
 rcases hc with d3 | d3
 all_goals
  go_enter Tryz.func121, Tryz.ntmps121
  go_wp2_with fail
  go_loopw [7] (fun iv wr=>∃ (j:Nat) (bv':Value) (m:List UInt8),j<=n/\iv=.int .i64 ((j:Int) - 1)/\WrB wr base g T rest bv' m/\WSt g bv bv' w wr/\m.length<=1000000000 - j/\Hid (l++bitsL x n=m++bitsL x j)) (fun iv _=>(intOf iv+1).toNat)
  case atStart=>exact⟨n,bv,l,Nat.le_refl _,rfl,h,WSt.refl g bv w,by omega,rfl⟩
  case round=>
   clear h
   obtain⟨j,bv',m,hj,rfl,hwr,hst,hml,HE⟩:=hrel
   rcases Nat.eq_zero_or_pos j with rfl | hp
   · have HE2:Hid (l++bitsL x n=m):=by show _=_;rw [HE.out,bitsL,List.append_nil]
     go_wp2_with fail
     go_ret
     exact⟨rfl,bv',by rw [HE2.out];exact hwr,hst⟩
   · obtain⟨i,rfl⟩:∃ i,j=i+1:=⟨j - 1,by omega⟩
     have hi0:((i+1:Nat):Int) - 1=(i:Int):=by omega
     rw [hi0]
     have hw2:IntKind.i64.wrap ((i:Int) - 1)=(i:Int) - 1:=IntWalk.i64_in _ (by omega)
     have hi1:(0:Int)<=i:=by omega
     have hxi:x / 2 ^ i<18446744073709551616:=Nat.lt_of_le_of_lt (Nat.div_le_self _ _) hx64
     have HXI:=hid (and1_u64 (x / 2 ^ i) hxi)
     have hdv:(x:Int) / 2 ^ i=((x / 2 ^ i:Nat):Int):=by simp
     have hb1:x / 2 ^ i % 2<=1:=by omega
     have HE2:Hid (l++bitsL x n=(m++[UInt8.ofNat (x / 2 ^ i % 2)])++bitsL x i):=by show _=_;rw [HE.out,bitsL];simp
     have HC:=hid (HA.out (x / 2 ^ i % 2) hb1 wr.drew m bv' hwr.drew (by omega) (Nat.le_trans hs hst.1.size))
     clear hi0 HE
     generalize x / 2 ^ i=y at *
     have HY:=hid hdv
     clear hdv hz hx
     have hb:bits .and .u64 ((x:Int) / 2 ^ i) 1=((y % 2:Nat):Int):=by rw [HY.out];exact HXI.out
     clear hxi
     generalize y % 2=b at *
     go_upto_region 6 with fail
     go_still_tail 7,(by kernel_rfl)
     change wpList _ _ _ _ _ wr.drew
     generalize hWD:wr.drew=WD at *
     have HWD:=hid hWD
     clear hWD
     go_wp2_with fail
     refine HC.out.mono ?_
     rintro e w1 ⟨rfl,bv2,hwr2,hst2⟩
     go_wp2_with fail
     go_roundw
     case rel=>exact⟨i,bv2,_,by omega,rfl,hwr2,by rw [<- HWD.out]at hst2;exact(hst.frR (Fr.drew (Fr.refl wr))).trans hst2,by rw [List.length_append];simp;omega,HE2⟩
     case measure=>simp [intOf]
theorem bbytes_any(base g:Nat)(T:TypeId)(rest:List Value)(bv:Value)(l:List UInt8)(w:World)(h:WrB w base g T rest bv l)(hl:l.length<=7999992) :
  Calls Tryz.prog 112 #[.pointer (some ⟨g,0,none⟩)] w fun e w'=>∃ v,e=.returned v/\Ow w' w.heap.size eB v (packW l)/\Fr w w':=by
 obtain⟨hG,hown,hgb,hbits⟩:=h
 have e0:=cellx hG 0 rfl
 have HC:=hid (BClone_any bv (packW l) w hown.see (by rw [packW_len];omega))
 obtain⟨va,vc,rfl⟩:=hown.shape'
 go_enter Tryz.func112, Tryz.ntmps112
 go_wp2_with fail
 refine HC.out.mono ?_
 rintro e w1 ⟨v1,rfl,hown1,hf1⟩
 go_wp2_with fail
 go_ret
 exact⟨_,rfl,hown1,hf1⟩
theorem bun_any(n:Nat)(hn:n<=100000)(base g:Nat)(T:TypeId)(rest:List Value)(bv:Value)(l:List UInt8)(w:World)(h:WrB w base g T rest bv l)(hl:l.length+n+1<=1000000000)(hs:base<=w.heap.size) :
  Calls Tryz.prog 122 #[.pointer (some ⟨g,0,none⟩),N n] w fun e w'=>e=.returned (.int .i64 0)/\∃ bv',WrB w' base g T rest bv' (l++unaryL n)/\WSt g bv bv' w w':=by
 have HA0:=hid (fun W m bv' (h1:WrB W base g T rest bv' m) (h2:m.length<=1000000000) (h3:base<=W.heap.size)=>badd2_any 0 (by omega) base g T rest bv' m W h1 h2 h3)
 have HA1:=hid (fun W m bv' (h1:WrB W base g T rest bv' m) (h2:m.length<=1000000000) (h3:base<=W.heap.size)=>badd2_any 1 (by omega) base g T rest bv' m W h1 h2 h3)
 have d1:decide ((n:Int)<0)=false:=by simp
 have d2:decide ((100000:Int)<n)=false:=by simp;omega
 have d3:¬(100000:Int)<n:=by omega
 go_enter Tryz.func122, Tryz.ntmps122
 go_wp2_with fail
 go_loopw [16] (fun iv wr=>∃ (i:Nat) (bv':Value),i<=n/\iv=N i/\WrB wr base g T rest bv' (l++List.replicate i 0)/\WSt g bv bv' w wr) (fun iv _=>n - (intOf iv).toNat)
 case atStart=>exact⟨0,bv,Nat.zero_le _,rfl,by simpa using h,WSt.refl g bv w⟩
 case round=>
  clear h
  obtain⟨i,bv',hi,rfl,hwr,hst⟩:=hrel
  have hsz:base<=wr.heap.size:=Nat.le_trans hs hst.1.size
  have hll:(l++List.replicate i (0:UInt8)).length<=1000000000:=by simp;omega
  by_cases hlt:i<n
  · have hlt':(i:Int)<n:=by omega
    have HE:Hid (l++List.replicate (i+1) (0:UInt8)=(l++List.replicate i 0)++[UInt8.ofNat 0]):=by show _=_;rw [List.replicate_succ',List.append_assoc];rfl
    generalize l++List.replicate i (0:UInt8)=m at *
    go_wp2_with fail
    refine(HA0.out wr m bv' hwr hll hsz).mono ?_
    rintro e w1 ⟨rfl,bv2,hwr2,hst2⟩
    go_wp2_with fail
    go_roundw
    case rel=>exact⟨i+1,bv2,by omega,by go_num,by rw [HE.out];exact hwr2,hst.trans hst2⟩
    case measure=>simp [intOf];omega
  · obtain rfl:i=n:=by omega
    have hnl:¬((i:Int)<i):=by omega
    have HE:Hid (l++unaryL i=(l++List.replicate i 0)++[UInt8.ofNat 1]):=by show _=_;unfold unaryL;rw [List.append_assoc];rfl
    generalize l++List.replicate i (0:UInt8)=m at *
    go_wp2_with fail
    refine(HA1.out wr m bv' hwr hll hsz).mono ?_
    rintro e w1 ⟨rfl,bv2,hwr2,hst2⟩
    go_wp2_with fail
    go_ret
    exact⟨rfl,bv2,by rw [HE.out];exact hwr2,hst.trans hst2⟩
def WrR(w:World)(base g:Nat)(T:TypeId)(bv:Value)(l:List UInt8):Prop:=w.heap[g]? = some (.cells #[bv] T (0,0))/\Ow w base eB bv l/\g<base/\IsBits l
theorem WrR.drew{w:World}{base g:Nat}{T:TypeId}{bv:Value}{l:List UInt8}(h:WrR w base g T bv l):WrR w.drew base g T bv l:=⟨h.1,h.2.1.drew,h.2.2⟩
def lowL(x k:Nat):List UInt8:=(List.range k).map fun i=>UInt8.ofNat (x / 2 ^ i % 2)
def partW(l:List UInt8)(q:Nat):Nat->Nat
 | 0=>0
 | t+1=>2*partW l q t+bitD l (8*q+t)
theorem jAt{w:World}{v:Value}{l:List Nat}(h:See w eJ v l)(k:Nat)(hk:k<l.length) :
  ∃ b off cap,v=.slice (some ⟨b,off,none⟩) l.length cap/\w.cell? ⟨b,off+k,none⟩=some (N l[k]):=by
 obtain⟨b,off,cap,rfl,h1,h2,h3⟩:=h.cells (by intro e;simp [e]at hk)
 have e0:=h3 k hk 0 (by decide) _ rfl
 exact⟨b,off,cap,rfl,by simpa [eJ] using e0⟩
theorem rises_any (bound : Nat) (v : Value) (l : List Nat) (w : World) (hs : See w eJ v l) :
    Calls Tryz.prog 118 #[N bound,v] w fun e w'=>e=.returned (.bool (risesGo bound 0 l))/\Fr w w':=by
  obtain⟨a,cap,rfl,hcap1,hcap2,hnone⟩:=hs.shape
  unfold maxLen at hcap2
  go_enter Tryz.func118, Tryz.ntmps118
  go_wp2_with fail
  go_loopw [5,10] (fun tv iv wr=>∃ k lo:Nat,k<=l.length/\iv=N k/\tv=.int .i64 ((lo:Int) - 1)/\Hid (risesGo bound 0 l=risesGo bound lo (l.drop k))/\Fr w wr) (fun _ iv _=>l.length - (intOf iv).toNat)
  case atStart=>exact⟨0,0,Nat.zero_le _,rfl,rfl,rfl,Fr.refl w⟩
  case round=>
    obtain⟨k,lo,hk,rfl,rfl,HI,hf⟩:=hrel
    by_cases hlt:k<l.length
    · obtain⟨b,off,cap',hv,c0⟩:=jAt (hs.fr hf) k hlt
      have HC:=hid (rises_cons bound lo l k hlt)
      generalize l[k]=x at *
      cases hv
      have i1:(0:Int)<=k:=by omega
      have i2:(k:Int)<l.length:=by omega
      by_cases h1:lo<=x
      · have h1':decide ((x:Int)<=(lo:Int) - 1)=false:=by simp;omega
        have h1'':¬(x:Int)<=(lo:Int) - 1:=by omega
        by_cases h2:x<bound
        · have h2':decide ((bound:Int)<=x)=false:=by simp;omega
          have h2'':decide (bound<=x)=false:=by simp;omega
          have HE:Hid (risesGo bound 0 l=risesGo bound (x+1) (l.drop (k+1))):=by
            show _=_;rw [HI.out,HC.out,decide_eq_true h1,decide_eq_true h2];rfl
          clear HI HC
          go_wp2_with fail
          exact⟨⟨k+1,x+1,by omega,by go_num,by rw [show(((x+1:Nat):Int) - 1)=(x:Int)from by omega],HE.out,hf⟩,by simp [intOf];omega⟩
        · have h2':decide ((bound:Int)<=x)=true:=decide_eq_true (by omega)
          have h2'':(bound:Int)<=x:=by omega
          have HE:Hid (risesGo bound 0 l=false):=by
            show _=_;rw [HI.out,HC.out,decide_eq_false h2];simp
          clear HI HC
          go_wp2_with fail
          go_ret
          exact⟨by rw [HE.out];rfl,hf⟩
      · have h1':decide ((x:Int)<=(lo:Int) - 1)=true:=by simp;omega
        have h1'':(x:Int)<=(lo:Int) - 1:=by omega
        have HE:Hid (risesGo bound 0 l=false):=by
          show _=_;rw [HI.out,HC.out,decide_eq_false h1];simp
        clear HI HC
        go_wp2_with fail
        go_ret
        exact⟨by rw [HE.out];rfl,hf⟩
    · obtain rfl:k=l.length:=by omega
      have hnl:¬((l.length:Int)<l.length):=by omega
      have HE:Hid (risesGo bound 0 l=true):=by show _=_;rw [HI.out,List.drop_length,risesGo]
      go_wp2_with fail
      go_ret
      exact⟨by rw [HE.out];rfl,hf⟩
theorem rmay_any(k m:Nat)(hk:1<=k)(hkm:k+m<=255)(w:World):Calls Tryz.prog 91 #[N k,N m] w fun e w'=>e=.returned (.bool true)/\w=w':=by
 have h1:(1:Int)<=k:=by omega
 have h2:(0:Int)<=m:=by omega
 have h3:(k:Int)<=255:=by omega
 have h4:(m:Int)<=255:=by omega
 have h5:(k:Int)+m<=255:=by omega
 go_enter Tryz.func91, Tryz.ntmps91
 go_wp2_with fail
 go_ret
 exact⟨rfl,rfl⟩
def AlikeL(L:Nat)(hs:List Hd):Prop:=∀ i (h:i<hs.length),hs[i].n=L
theorem alike_of{w:World}{v:Value}{hs:List Hd}{ls:List (List UInt8)}{L:Nat}(hv:Sees2 w eHB eB v hs ls)(hl:∀ p∈ls,p.length=L):AlikeL L hs:=by
 intro i h
 have h2:i<ls.length:=by rw [<- hv.2.1];exact h
 obtain⟨a,cap,hh,_⟩:=(hv.2.2 i h h2).shape
 have e:=hl _ (List.getElem_mem h2)
 generalize hs[i]=x at *
 obtain⟨xa,xn,xc⟩:=x
 simp only [Hd.v,Value.slice.injEq]at hh
 rw [<- e]
 exact hh.2.1
theorem alike_any(v:Value)(hs:List Hd)(L:Nat)(w:World)(hv:See w eHB v hs)(hl:AlikeL L hs) :
  Calls Tryz.prog 92 #[v] w fun e w'=>e=.returned (.bool true)/\w=w':=by
 obtain⟨a,cap,rfl,hc1,hc2,hnn⟩:=hv.shape
 unfold maxLen at hc2
 go_enter Tryz.func92, Tryz.ntmps92
 go_wp2_with fail
 go_loop [7] (fun iv=>∃ i:Nat,i<=hs.length/\iv=N i) (fun iv=>hs.length - (intOf iv).toNat)
 case atStart=>exact⟨0,Nat.zero_le _,rfl⟩
 case round=>
  obtain⟨i,hi,rfl⟩:=hrel
  by_cases hlt:i<hs.length
  · obtain⟨b,off,c,hv1,e1⟩:=hv.cell1 (fun(h:Hd)=>h.v) rfl i hlt
    obtain⟨b2,off2,c2,hv2,e2⟩:=hv.cell1 (fun(h:Hd)=>h.v) rfl 0 (by omega)
    have g1:=hl i hlt
    have g2:=hl 0 (by omega)
    generalize hs[i]=x at *
    generalize hs[0]'(by omega)=y at *
    obtain⟨xa,xn,xc⟩:=x
    obtain⟨ya,yn,yc⟩:=y
    simp only at g1 g2
    subst g1 g2
    cases hv1
    simp only [Value.slice.injEq,Option.some.injEq,Addr.mk.injEq,and_true]at hv2
    obtain⟨⟨rfl,rfl⟩,_,rfl⟩:=hv2
    simp only [Hd.v,Nat.add_zero]at e1 e2
    have i1:(0:Int)<=i:=by omega
    have i2:(i:Int)<hs.length:=by omega
    have i3:(0:Int)<hs.length:=by omega
    go_wp2_with fail
    go_round
    case rel=>exact⟨i+1,by omega,by go_num⟩
    case measure=>simp [intOf];omega
  · obtain rfl:i=hs.length:=by omega
    have hnl:¬((hs.length:Int)<hs.length):=by omega
    go_wp2_with fail
    go_ret
    exact⟨rfl,rfl⟩
def Crc(w:World):Prop:=∀ i,i<16->w.cell? ⟨0,i,none⟩=some (.int .u32 ((tabU i:Nat):Int))
theorem Crc.fr{w w':World}(h:Crc w)(hf:Fr w w'):Crc w':=fun i hi=>hf.cell (h i hi)
abbrev U4(n:Nat):Value:=.int .u32 (n:Int)
theorem and15_u32(x:Nat)(h:x<4294967296):bits .and .u32 (x:Int) 15=((x % 16:Nat):Int):=by
 have:=and_u32 x 15 h (by omega)
 have e:x &&& 15=x % 16:=Nat.and_two_pow_sub_one_eq_mod x 4
 rw [e]at this
 exact this
theorem not_u32(x:Nat)(h:x<4294967296):bits .xor .u32 IntKind.u32.max (x:Int)=((4294967295 - x:Nat):Int):=by
 have e:=xor_ones 32 x h
 rw [Nat.xor_comm]at e
 have:=xor_u32 4294967295 x (by omega) h
 rw [show(4294967295:Nat) ^^^ x=4294967295 - x from e]at this
 exact this
theorem More_any (x : Nat) (hx : x < 4294967296) (v : Value) (hs : List Hd) (ls : List (List UInt8)) (w : World) (hv : Sees2 w eHB eB v hs ls) (ht : Crc w) :
    Calls Tryz.prog 79 #[U4 x,v] w fun e w'=>e=.returned (U4 (4294967295 - crcGo (4294967295 - x) ls.flatten))/\w=w':=by
  obtain⟨a,cap,rfl,hc1,hc2,hnn⟩:=hv.1.shape
  unfold maxLen at hc2
  have hn1:=not_u32 x hx
  have HL:=hid hv.2.1
  go_enter Tryz.func79, Tryz.ntmps79
  go_wp2_with fail
  go_loop [5,14] (fun xv iv=>∃ k:Nat,k<=hs.length/\iv=N k/\xv=U4 (crcGo (4294967295 - x) (ls.take k).flatten)) (fun _ iv=>hs.length - (intOf iv).toNat)
  case atStart=>exact⟨0,Nat.zero_le _,rfl,rfl⟩
  case round=>
    obtain⟨k,hk,rfl,rfl⟩:=hrel
    clear hn1
    have hY:crcGo (4294967295 - x) (ls.take k).flatten<4294967296:=crcGo_lt _ _ (by omega)
    by_cases hlt:k<hs.length
    · obtain⟨b,off,cap',hv2,e0⟩:=hv.1.cell1 (fun(h:Hd)=>h.v) rfl k hlt
      have hlt2:k<ls.length:=by have:=HL.out;omega
      have hsee:=hv.2.2 k hlt hlt2
      have HF:Hid (crcGo (4294967295 - x) (ls.take (k+1)).flatten=crcGo (crcGo (4294967295 - x) (ls.take k).flatten) ls[k]):=by
        show _=_;rw [flat_snoc ls k hlt2,crcGo_app]
      obtain⟨a2,c2,hh,_⟩:=hsee.shape
      generalize hs[k]=h at *
      generalize ls[k]=p at *
      generalize crcGo (4294967295 - x) (ls.take k).flatten=Y at *
      obtain⟨ha,hn2,hcc⟩:=h
      simp only [Hd.v,Value.slice.injEq]at hh
      obtain⟨rfl,rfl,rfl⟩:=hh
      simp only [Hd.v]at e0 hsee
      cases hv2
      have i1:(0:Int)<=k:=by omega
      have i2:(k:Int)<hs.length:=by omega
      have hpm:=hsee.le
      unfold maxLen at hpm
      go_wp2_with fail
      go_loop [5,20] (fun xv jv=>∃ j:Nat,j<=p.length/\jv=N j/\xv=U4 (crcGo Y (p.take j))) (fun _ jv=>p.length - (intOf jv).toNat)
      case atStart=>exact⟨0,Nat.zero_le _,rfl,rfl⟩
      case round=>
        obtain⟨j,hj,rfl,rfl⟩:=hrel
        have hZ:crcGo Y (p.take j)<4294967296:=crcGo_lt _ _ hY
        by_cases hjl:j<p.length
        · obtain⟨b2,off2,cap2,hv3,g0⟩:=hsee.cell1 (fun c=>Fk.u8 c) rfl j hjl
          have HZ:Hid (crcGo Y (p.take (j+1))=byteU (crcGo Y (p.take j)) p[j].toNat):=crcGo_snoc Y p j hjl
          generalize p[j]=c at *
          generalize crcGo Y (p.take j)=z at *
          cases hv3
          have hcb:=c.toNat_lt
          have k1:=xor_u32 z c.toNat hZ (by omega)
          have hz1:z ^^^ c.toNat<2 ^ 32:=Nat.xor_lt_two_pow hZ (by omega)
          have HB:=hid (byte_nib z c.toNat)
          generalize z ^^^ c.toNat=z1 at *
          have k2:=and15_u32 z1 hz1
          have hi1:z1 % 16<16:=by omega
          generalize z1 % 16=i1 at *
          have t1:=ht i1 hi1
          have hT1:=tabU_lt i1 hi1
          have k3:bits .xor .u32 ((z1:Int) / 16) ((tabU i1:Nat):Int)=(((z1 / 16) ^^^ tabU i1:Nat):Int):=by
            rw [show(z1:Int) / 16=((z1 / 16:Nat):Int) by omega];exact xor_u32 (z1 / 16) (tabU i1) (by omega) hT1
          have hz2:(z1 / 16) ^^^ tabU i1<2 ^ 32:=Nat.xor_lt_two_pow (by omega) hT1
          generalize (z1 / 16) ^^^ tabU i1=z2 at *
          have k4:=and15_u32 z2 hz2
          have hi2:z2 % 16<16:=by omega
          generalize z2 % 16=i2 at *
          have t2:=ht i2 hi2
          have hT2:=tabU_lt i2 hi2
          have k5:bits .xor .u32 ((z2:Int) / 16) ((tabU i2:Nat):Int)=(((z2 / 16) ^^^ tabU i2:Nat):Int):=by
            rw [show(z2:Int) / 16=((z2 / 16:Nat):Int) by omega];exact xor_u32 (z2 / 16) (tabU i2) (by omega) hT2
          have HE:Hid (crcGo Y (p.take (j+1))=z2 / 16 ^^^ tabU i2):=by show _=_;rw [HZ.out,HB.out]
          generalize (z2 / 16) ^^^ tabU i2=z3 at *
          generalize tabU i1=y1 at *
          generalize tabU i2=y2 at *
          have l1:(0:Int)<=i1:=by omega
          have l2:(i1:Int)<16:=by omega
          have l3:(0:Int)<=i2:=by omega
          have l4:(i2:Int)<16:=by omega
          have l5:(0:Int)<=j:=by omega
          have l6:(j:Int)<p.length:=by omega
          go_wp2_with fail
          go_round
          case rel=>exact⟨j+1,by omega,by go_num,by rw [HE.out]⟩
          case measure=>simp [intOf];omega
        · obtain rfl:j=p.length:=by omega
          have hnl:¬((p.length:Int)<p.length):=by omega
          rw [List.take_length,<- HF.out]
          go_wp2_with fail
          go_round
          case rel=>exact⟨k+1,by omega,by go_num,rfl⟩
          case measure=>simp [intOf];omega
    · obtain rfl:k=hs.length:=by omega
      have hnl:¬((hs.length:Int)<hs.length):=by omega
      rw [List.take_of_length_le (by have:=HL.out;omega)]at hY ⊢
      have hn2:=not_u32 _ hY
      generalize hYe:crcGo (4294967295 - x) ls.flatten=Y at *
      have HY:=hid hYe
      clear hYe
      go_wp2_with fail
      go_ret
      exact⟨by rw [HY.out];rfl,rfl⟩
theorem one2(w:World)(v:Value)(r:Hd)(p:List UInt8)(hr:v=r.v)(hv:See w eB v p)(cs:Array Value)(hcs:cs=#[v]):Sees2 (w.alloc (.cells cs 27)) eHB eB (.slice (some ⟨w.heap.size,0,none⟩) 1 1) [r] [p]:=by
 subst hr hcs
 refine⟨see_new eHB w [r] _ _ 1 rfl rfl (by simp [maxLen]),rfl,fun i h1 h2=>?_⟩
 have:i=0:=by simp at h1;exact h1
 subst this
 exact hv.fr ((Fr.refl w).alloc _)
theorem Sum_any(v:Value)(p:List UInt8)(w:World)(hv:See w eB v p)(ht:Crc w) :
  Calls Tryz.prog 50 #[v] w fun e w'=>e=.returned (U4 (sumU p))/\Fr w w':=by
 obtain⟨a,cap,hva,_⟩:=hv.shape
 have h2:=one2 w v ⟨a,p.length,cap⟩ p hva hv #[v] rfl
 subst hva
 have HM:=hid (More_any 0 (by omega) _ _ _ _ h2 (ht.fr ((Fr.refl w).alloc _)))
 have HE:Hid (4294967295 - crcGo (4294967295 - 0) [p].flatten=sumU p):=by show _=_;unfold sumU;simp
 generalize 4294967295 - crcGo (4294967295 - 0) [p].flatten=Y at *
 clear h2
 go_enter Tryz.func50, Tryz.ntmps50
 go_wp2_with fail
 refine HM.out.mono ?_
 rintro e w1 ⟨rfl,rfl⟩
 go_wp2_with fail
 go_ret
 exact⟨by rw [<- HE.out];rfl,(Fr.refl w).alloc _⟩
def tailB(s:Nat):List UInt8:=[UInt8.ofNat (s % 256),UInt8.ofNat (s / 256 % 256),UInt8.ofNat (s / 65536 % 256),UInt8.ofNat (s / 16777216 % 256)]
theorem tail_any(s:Nat)(hs:s<4294967296)(w:World) :
  Calls Tryz.prog 49 #[U4 s] w fun e w'=>∃ v,e=.returned v/\Ow w' w.heap.size eB v (tailB s)/\Fr w w':=by
 have hc:∀ W:World,Ow (W.alloc (.cells #[.int .u8 ((s:Int) % 256),.int .u8 ((s:Int) / 256 % 256),.int .u8 ((s:Int) / 65536 % 256),.int .u8 ((s:Int) / 16777216)] 5)) W.heap.size eB (.slice (some ⟨W.heap.size,0,none⟩) 4 4) (tailB s):=by
  intro W
  refine own_lit eB W _ (tailB s) 4 rfl (by simp [maxLen,tailB]) (Nat.le_refl _) ?_
  rw [show(s:Int) % 256=((s % 256:Nat):Int) by omega,show(s:Int) / 256 % 256=((s / 256 % 256:Nat):Int) by omega,show(s:Int) / 65536 % 256=((s / 65536 % 256:Nat):Int) by omega,show(s:Int) / 16777216=((s / 16777216 % 256:Nat):Int) by omega]
  rw [byte_val _ (by omega),byte_val _ (by omega),byte_val _ (by omega),byte_val _ (by omega)]
  rfl
 have HC:=hid (hc w)
 clear hc
 go_enter Tryz.func49, Tryz.ntmps49
 go_wp2_with fail
 go_ret
 exact⟨_,rfl,HC.out,(Fr.refl w).alloc _⟩
theorem Put_any(v:Value)(p:List UInt8)(w:World)(hv:See w eB v p)(hn:p.length<=1000000)(ht:Crc w) :
  Calls Tryz.prog 31 #[v] w fun e w'=>∃ v',e=.returned v'/\Ow w' w.heap.size eB v' (putB p)/\Fr w w':=by
 obtain⟨a,cap,hva,_⟩:=hv.shape
 have HCl:=hid (fun W (h:See W eB v p)=>BClone_any v p W h hn)
 have HS:=hid (fun W (h:See W eB v p) (h2:Crc W)=>Sum_any v p W h h2)
 have HT:=hid (tail_any (sumU p) (sumU_lt p))
 have HE:Hid (putB p=p++tailB (sumU p)):=rfl
 generalize sumU p=s at *
 subst hva
 go_enter Tryz.func31, Tryz.ntmps31
 go_wp2_with fail
 refine(HCl.out _ hv).mono ?_
 rintro e w1 ⟨v1,rfl,hown1,hf1⟩
 go_wp2_with fail
 refine(HS.out _ (hv.fr hf1) (ht.fr hf1)).mono ?_
 rintro e w2 ⟨rfl,hf2⟩
 go_wp2_with fail
 refine(HT.out _).mono ?_
 rintro e w3 ⟨v3,rfl,hown3,hf3⟩
 have hown1':=hown1.fr (hf2.trans hf3)
 have hf03:=(hf1.trans hf2).trans hf3
 have hc1:p.length+(tailB s).length<=2147483648:=by show _+4<=_;omega
 go_wp2_with (at_builtin;refine wpList_app eB rfl (.tmp 4) (.tmp 7) 27 rfl Tryz.underlying27 w.heap.size rfl hown1' _ _ rfl hown3.see hc1 hf03.size ?_)
 intro v4 w4 hap
 go_wp2_with fail
 go_ret
 exact⟨_,rfl,by rw [HE.out];exact hap.own,hap.below hown1' hf03 (Nat.le_refl _) hf03.size⟩
def bitI:Nat->Nat->Nat
 | 0,x=>x
 | n+1,x=>bitU (bitI n x)
theorem cells_hd(ps:List Hd):eHB.cells ps=ps.map Hd.v:=by
 induction ps with
 | nil=>rfl
 | cons p ps ih=>
  show [p.v]++eHB.cells ps=_
  rw [ih];rfl
theorem hd_of{w:World}{v:Value}{l:List UInt8}(h:See w eB v l):∃ p:Hd,v=p.v:=by
 obtain⟨a,cap,hv,_⟩:=h.shape
 exact⟨⟨a,_,cap⟩,hv⟩
theorem lit_sees2(w:World)(cs:Array Value)(T:TypeId)(ps:List Hd)(ls:List (List UInt8))(n:Nat)(hn:n=ps.length)(hcs:cs.toList=ps.map Hd.v)(hl:ps.length=ls.length)(hm:ps.length<=1000000)(h:∀ i (h1:i<ps.length) (h2:i<ls.length),See w eB ps[i].v ls[i]) :
  Sees2 (w.alloc (.cells cs T)) eHB eB (.slice (some ⟨w.heap.size,0,none⟩) n n) ps ls:=
 ⟨see_new eHB w ps cs T n hn (by rw [hcs,cells_hd]) (by unfold maxLen;omega),hl,fun i h1 h2=>(h i h1 h2).fr ((Fr.refl w).alloc _)⟩
theorem all2_any(va vb:Value)(la lb:List UInt8)(W:World)(ha:See W eB va la)(hb:See W eB vb lb)(hn:la.length+lb.length<=1000000) :
  Calls Tryz.prog 26 #[.slice (some ⟨W.heap.size,0,none⟩) 2 2] (W.alloc (.cells #[va,vb] 27)) fun e w'=>∃ v,e=.returned v/\Ow w' W.heap.size eB v (la++lb)/\Fr W w':=by
 obtain⟨pa,rfl⟩:=hd_of ha
 obtain⟨pb,rfl⟩:=hd_of hb
 have h2 := lit_sees2 W #[pa.v, pb.v] 27 [pa, pb] [la, lb] 2 rfl rfl rfl (by simp) (fun i h1 h2 => by
  match i, h1 with
  | 0, _ => exact ha
  | 1, _ => exact hb)
 refine(All_any _ _ _ _ h2 (by simp;omega)).mono ?_
 rintro e w' ⟨v,rfl,ho,hf⟩
 exact⟨v,rfl,by simpa using ho.rebase (b:=W.heap.size) (by simp),((Fr.refl W).alloc _).trans hf⟩
theorem all3_any(va vb vc:Value)(la lb lc:List UInt8)(W:World)(ha:See W eB va la)(hb:See W eB vb lb)(hc:See W eB vc lc)(hn:la.length+lb.length+lc.length<=1000000) :
  Calls Tryz.prog 26 #[.slice (some ⟨W.heap.size,0,none⟩) 3 3] (W.alloc (.cells #[va,vb,vc] 27)) fun e w'=>∃ v,e=.returned v/\Ow w' W.heap.size eB v (la++lb++lc)/\Fr W w':=by
 obtain⟨pa,rfl⟩:=hd_of ha
 obtain⟨pb,rfl⟩:=hd_of hb
 obtain⟨pc,rfl⟩:=hd_of hc
 have h2 := lit_sees2 W #[pa.v, pb.v, pc.v] 27 [pa, pb, pc] [la, lb, lc] 3 rfl rfl rfl (by simp) (fun i h1 h2 => by
  match i, h1 with
  | 0, _ => exact ha
  | 1, _ => exact hb
  | 2, _ => exact hc)
 refine(All_any _ _ _ _ h2 (by simp;omega)).mono ?_
 rintro e w' ⟨v,rfl,ho,hf⟩
 exact⟨v,rfl,by simpa using ho.rebase (b:=W.heap.size) (by simp),((Fr.refl W).alloc _).trans hf⟩
def prTo(cs:List Nat)(fr:Nat->List UInt8)(k:Nat):List UInt8:=((List.range k).map fun i=>numB (cs.getD i 0)++numB (fr i).length).flatten
theorem prTo_succ(cs:List Nat)(fr:Nat->List UInt8)(k:Nat)(h:k<cs.length):prTo cs fr (k+1)=prTo cs fr k++numB cs[k]++numB (fr k).length:=by
 unfold prTo
 rw [List.range_succ,List.map_append,List.flatten_append]
 simp [h]
def dirL(cs:List Nat)(fr:Nat->List UInt8)(a b:Nat):List UInt8:=(((numB cs.sum++numB cs.length)++prTo cs fr cs.length)++numB a)++numB b
theorem groups_sum_le(cs:List Nat)(k:Nat):(cs.take k).sum<=cs.sum:=by
 conv=>rhs;rw [<- List.take_append_drop k cs]
 rw [List.sum_append];omega
theorem prTo_len(cs:List Nat)(fr:Nat->List UInt8)(b:Nat)(hb:b<1000000)(h:∀ k,(fr k).length<=b)(hc:∀ x∈cs,x<1000000)(k:Nat):(prTo cs fr k).length<=k*20:=by
 unfold prTo
 rw [flat_len]
 refine Nat.le_trans (wtS_le _ 20 _ fun i _=>?_) ?_
 · have h1:=numB_le (fr i).length (by have:=h i;omega)
   have h2:cs.getD i 0<1000000:=by
    by_cases hi:i<cs.length
    · simp only [List.getD_eq_getElem?_getD,List.getElem?_eq_getElem hi]
      exact hc _ (List.getElem_mem hi)
    · simp [List.getD_eq_getElem?_getD,List.getElem?_eq_none (by omega:cs.length<=i)]
   have h3:=numB_le (cs.getD i 0) (by omega)
   show(numB (cs.getD i 0)++numB (fr i).length).length<=20
   rw [List.length_append];omega
 · rw [List.length_range];exact Nat.le_refl _
theorem bcheck_any(o:Opt)(w:World):Calls Tryz.prog 51 #[optV o] w fun e w'=>e=.returned (.int .i64 (if opt2 o then 0 else 9))/\Fr w w':=by
 have HC:=hid (fun W=>OCheck2_any ⟨o.b,o.plain,o.bu,0,0,0⟩ ⟨rfl,rfl,rfl⟩ W)
 have HE:Hid ((if opt2 ⟨o.b,o.plain,o.bu,0,0,0⟩then(0:Int)else 9)=if opt2 o then 0 else 9):=rfl
 rw [HE.out]at HC
 generalize (if opt2 o then(0:Int)else 9)=R at *
 go_enter Tryz.func51, Tryz.ntmps51
 go_wp2_with fail
 refine(HC.out _).mono ?_
 rintro e w1 ⟨rfl,hf1⟩
 go_wp2_with fail
 go_ret
 exact⟨rfl,((Fr.refl w).alloc _).trans hf1⟩
theorem numAt{w:World}{v:Value}{l:List Nat}(h:See w eJ v l)(k:Nat)(hk:k<l.length):∃ b off cap,v=.slice (some ⟨b,off,none⟩) l.length cap/\w.cell? ⟨b,off+k,none⟩=some (N l[k]):=h.cell1 N rfl k hk
theorem sum_snoc(l:List Nat)(k:Nat)(h:k<l.length):(l.take (k+1)).sum=(l.take k).sum+l[k]:=by
 rw [List.take_succ_eq_append_getElem h,List.sum_append];simp
theorem bsum_any(v:Value)(l:List Nat)(w:World)(hs:See w eJ v l)(hl:l.length<=1000000)(hb:l.sum<=1000000000) :
  Calls Tryz.prog 86 #[v] w fun e w'=>e=.returned (N l.sum)/\w=w':=by
 have HS:=hid (fun k hk=>numAt hs k hk)
 have HTk:=hid (groups_sum_le l)
 have HSn:=hid (sum_snoc l)
 have HAl:Hid ((l.take l.length).sum=l.sum):=by show _=_;rw [List.take_length]
 obtain⟨a0,cap,rfl,hcap1,hcap2,hnone⟩:=hs.shape
 unfold maxLen at hcap2
 generalize l.sum=T at *
 go_enter Tryz.func86, Tryz.ntmps86
 go_wp2_with fail
 go_loopw [3,8] (fun sv iv wr=>∃ k:Nat,k<=l.length/\iv=N k/\sv=N (l.take k).sum/\w=wr) (fun _ iv _=>l.length - (intOf iv).toNat)
 case atStart=>exact⟨0,Nat.zero_le _,rfl,by simp,rfl⟩
 case round=>
  obtain⟨k,hk,rfl,rfl,rfl⟩:=hrel
  have h1:=HTk.out k
  by_cases hlt:k<l.length
  · obtain⟨b,off,cap',hv,c0⟩:=HS.out k hlt
    cases hv
    have HN:=hid (HSn.out k hlt)
    have h2:=HTk.out (k+1)
    generalize hm2:(l.take (k+1)).sum=m2 at *
    have HM2:=hid hm2
    clear hm2
    generalize (l.take k).sum=m at *
    generalize l[k]=x at *
    have h3:m2=m+x:=HN.out
    have i1:(0:Int)<=k:=by omega
    have i2:(k:Int)<l.length:=by omega
    have HH:=hid h3
    clear h3
    have hw:IntKind.i64.wrap ((m:Int)+x)=(m:Int)+x:=IntWalk.i64_in _ (by have:=HH.out;omega)
    go_wp2_with fail
    exact⟨⟨k+1,by omega,by go_num,by rw [HM2.out,HH.out];go_num,by first | rfl | trivial⟩,by simp [intOf];omega⟩
  · obtain rfl:k=l.length:=by omega
    have hnl:¬(l.length:Int)<l.length:=by omega
    rw [HAl.out]
    go_wp2_with fail
    go_ret
    exact⟨rfl,rfl⟩
def szL(fr:Nat->List UInt8)(k:Nat):List Nat:=(List.range k).map fun i=>(fr i).length
theorem dbytes_any (g : Nat) (cv sv : Value) (cs : List Nat) (fr : Nat → List UInt8) (a b : Nat) (w : World) (hg : w.heap[g]? = some (.cells #[cv, sv, N a, N b] 89 (0, 0))) (hc : See w eJ cv cs) (hs : See w eJ sv (szL fr cs.length))
    (hl:cs.length<=60) (hsum:cs.sum<=60) (hfr:∀ k,(fr k).length<=6025) (ha:a<=1000000) (hb:b<=1000000) :
    Calls Tryz.prog 55 #[.pointer (some ⟨g,0,none⟩)] w fun e w'=>∃ u,e=.returned u/\Ow w' w.heap.size eB u (dirL cs fr a b)/\Fr w w':=by
  have HNm:=hid (fun n (h:n<18446744073709551616) W=>Num_any n h W)
  have HSu:=hid (fun W (h:See W eJ cv cs)=>bsum_any cv cs W h (by omega) (by omega))
  have hcx:∀ x∈cs,x<=60:=fun x hx=>by
    obtain⟨i,hi,rfl⟩:=List.mem_iff_getElem.1 hx
    have h1:=groups_sum_le cs (i+1)
    rw [sum_snoc cs i hi]at h1
    omega
  have HCx:=hid hcx
  have HPl:=hid (fun k=>prTo_len cs fr 6025 (by omega) hfr (fun x hx=>by have:=hcx x hx;omega) k)
  have HSn:=hid (fun k h=>prTo_succ cs fr k h)
  have HD:Hid (dirL cs fr a b=(((numB cs.sum++numB cs.length)++prTo cs fr cs.length)++numB a)++numB b):=rfl
  have HP0:Hid (prTo cs fr 0=[]):=rfl
  have HFr:=hid hfr
  have HSz:Hid (∀ k (h:k<cs.length) (h2:k<(szL fr cs.length).length),(szL fr cs.length)[k]=(fr k).length):=fun k h h2=>by simp [szL]
  have hszl:(szL fr cs.length).length=cs.length:=by simp [szL]
  have HC:=hid (fun W (h:Fr w W) k hk=>numAt (hc.fr h) k hk)
  have HS:=hid (fun W (h:Fr w W) k hk=>numAt (hs.fr h) k hk)
  have HCs:=hid (fun W (h:Fr w W)=>hc.fr h)
  have HSl:=hid hszl
  obtain⟨ca,cc,rfl,_⟩:=hc.shape
  obtain⟨sa,sc,hsv,_⟩:=hs.shape
  rw [hszl]at hsv
  subst hsv
  have HG:=hid (fun W (h:Fr w W)=>h.heap hg)
  clear hc hs hcx hfr hszl
  generalize hT:dirL cs fr a b=T at *
  clear hT
  have x0:=cellx hg 0 rfl
  have hn1:=numB_le cs.sum (by omega)
  have hn2:=numB_le cs.length (by omega)
  have HN1:=hid (HNm.out cs.sum (by omega))
  have HN2:=hid (HNm.out cs.length (by omega))
  have hA1:=fun W va vb sa sb=>all2_any va vb (numB cs.sum) (numB cs.length) W sa sb (by omega)
  have HA1:=hid hA1
  have HA0:Hid (∀ m,m=(numB cs.sum++numB cs.length)->m.length<=20):=fun m h=>by rw [h,List.length_append];omega
  clear hA1
  generalize cs.sum=S0 at *
  have hw1:IntKind.u64.wrap (S0:Int)=(S0:Int):=IntWalk.u64_in _ (by omega)
  have hw2:IntKind.u64.wrap (cs.length:Int)=(cs.length:Int):=IntWalk.u64_in _ (by omega)
  go_enter Tryz.func55, Tryz.ntmps55
  go_upto_region 1 with fail
  go_region_held3 (fun w' => w'.cell? ⟨g, 0, none⟩ = some (.slice ca cs.length cc))
    (first | go_keep)
    ((first
      | (go_at_call 86; refine (HSu.out _ (HCs.out _ (Fr.refl w).drew)).mono ?_; rintro e w1 ⟨rfl, rfl⟩)
      | (go_at_call_of 27 (Value.int IntKind.u64 (S0 : Int)); refine (HN1.out _).mono ?_; rintro e w2 ⟨v2, rfl, hO2, hf2⟩; obtain ⟨p2, z2, hq2⟩ := hO2.shape'; subst hq2; have y0 := hf2.cell x0)
      | (go_at_call_of 27 (Value.int IntKind.u64 (cs.length : Int)); refine (HN2.out _).mono ?_; rintro e w3 ⟨v3, rfl, hO3, hf3⟩; obtain ⟨p3, z3, hq3⟩ := hO3.shape'; subst hq3; have z0 := hf3.cell y0)
      | (go_at_call 26; refine (HA1.out _ _ _ (hO2.fr hf3).see hO3.see).mono ?_; rintro e w4 ⟨v4, rfl, hO4, hf4⟩; have u0 := hf4.cell z0)))
  have hf04:Fr w w4:=(Fr.refl w).drew.trans (hf2.trans (hf3.trans hf4))
  obtain⟨m0,hm0⟩:∃ m0,m0=numB S0++numB cs.length:=⟨_,rfl⟩
  have hml:=HA0.out m0 hm0
  rw [<- hm0]at hO4 HD
  have hO4':Ow w4 w.heap.size eB v4 m0:=by exact hO4.rebase (by have:=((Fr.refl w).drew.trans (hf2.trans hf3)).size;exact this)
  clear hm0 HA0 HA1 HN1 HN2 HSu hO2 hO3 hO4 hf2 hf3 hf4 x0 y0 z0 hn1 hn2 hw1
  have c4:w4.cell? ⟨g,0,none⟩=some (.slice ca cs.length cc):=u0
  clear u0
  obtain⟨p4,z4,rfl⟩:=hO4'.shape'
  go_wp2_with fail
  go_loopw [3,27] (fun ov iv wr=>∃ k:Nat,k<=cs.length/\iv=N k/\Ow wr w.heap.size eB ov (m0++prTo cs fr k)/\Fr w wr) (fun _ iv _=>cs.length - (intOf iv).toNat)
  case atStart=>exact⟨0,Nat.zero_le _,rfl,by rw [HP0.out,List.append_nil];exact hO4',hf04⟩
  case round=>
    clear hO4' hf04 c4
    obtain⟨k,hk,rfl,hO,hf⟩:=hrel
    have hgr:=HG.out wr hf
    have hpl:=HPl.out k
    by_cases hlt:k<cs.length
    · have x1:=cellx hgr 1 rfl
      obtain⟨b1,off1,cap1,hv1,d1⟩:=HC.out wr hf k hlt
      cases hv1
      obtain⟨b2,off2,cap2,hv2,d2⟩:=HS.out wr hf k (by rw [HSl.out];exact hlt)
      rw [HSl.out]at hv2
      cases hv2
      rw [HSz.out k hlt]at d2
      have hxk:=HCx.out _ (List.getElem_mem hlt)
      have hfk:=HFr.out k
      have HN:=hid (HSn.out k hlt)
      have hpl2:=HPl.out (k+1)
      generalize hm2:prTo cs fr (k+1)=q2 at *
      have HM2:=hid hm2
      clear hm2
      generalize prTo cs fr k=q at *
      generalize cs[k]=x at *
      generalize (fr k).length=y at *
      have HN1:=hid (HNm.out x (by omega))
      have HN2:=hid (HNm.out y (by omega))
      have hn1:=numB_le x (by omega)
      have hn2:=numB_le y (by omega)
      have hkl:k*20<=60*20:=Nat.mul_le_mul_right _ (by omega)
      obtain⟨om,hom⟩:∃ om,om=m0++q:=⟨_,rfl⟩
      rw [<- hom]at hO
      have hol:om.length<=1300:=by rw [hom,List.length_append];omega
      have HOm:=hid hom
      have HA1:=hid (fun W va vb vc sa sb sc=>all3_any va vb vc om (numB x) (numB y) W sa sb sc (by omega))
      clear hom hpl hpl2 hkl
      have hw1:IntKind.u64.wrap (x:Int)=(x:Int):=IntWalk.u64_in _ (by omega)
      have hw3:IntKind.u64.wrap (y:Int)=(y:Int):=IntWalk.u64_in _ (by omega)
      have i1:(0:Int)<=k:=by omega
      have i2:(k:Int)<cs.length:=by omega
      obtain⟨oa,oc,rfl⟩:=hO.shape'
      go_upto_region 5 with fail
      go_region_held3 (fun w' => w'.cell? ⟨g, 1, none⟩ = some (.slice (some ⟨b2, off2, none⟩) cs.length sc) ∧ w'.cell? ⟨b2, off2 + k, none⟩ = some (N y))
        (first | go_keep)
        ((first
          | (go_at_call_of 27 (Value.int IntKind.u64 (x : Int)); refine (HN1.out _).mono ?_; rintro e w2 ⟨v2, rfl, hO2, hf2⟩; obtain ⟨p2, z2, hq2⟩ := hO2.shape'; subst hq2; have y0 := hf2.cell x1; have y1 := hf2.cell d2)
          | (go_at_call_of 27 (Value.int IntKind.u64 (y : Int)); refine (HN2.out _).mono ?_; rintro e w3 ⟨v3, rfl, hO3, hf3⟩; obtain ⟨p3, z3, hq3⟩ := hO3.shape'; subst hq3; have z0 := hf3.cell y0; have z1 := hf3.cell y1)
          | (go_at_call 26; refine (HA1.out _ _ _ _ (hO.see.fr ((Fr.refl wr).drew.trans (hf2.trans hf3))) (hO2.fr hf3).see hO3.see).mono ?_; rintro e w4 ⟨v4, rfl, hO4, hf4⟩; have u0 := hf4.cell z0; have u1 := hf4.cell z1)))
      have hf4':Fr w w3:=hf.trans ((Fr.refl wr).drew.trans (hf2.trans hf3))
      have hfin:=hf4'.trans hf4
      have hO4':=hO4.rebase hf4'.size
      obtain⟨p4,z4,rfl⟩:=hO4'.shape'
      clear x1 d1 d2 y0 y1 z0 z1 u0 u1 hO2 hO3 hO4 hO hf2 hf3 hf4 hf4' hgr
      go_wp2_with fail
      go_roundw
      case rel=>exact⟨k+1,by omega,by go_num,by rw [HM2.out,HN.out,<- List.append_assoc,<- List.append_assoc,<- HOm.out];exact hO4',hfin⟩
      case measure=>simp [intOf];omega
    · obtain rfl:k=cs.length:=by omega
      have hnl:¬(cs.length:Int)<cs.length:=by omega
      have x2:=cellx hgr 2 rfl
      have x3:=cellx hgr 3 rfl
      obtain⟨om,hom⟩:∃ om,om=m0++prTo cs fr cs.length:=⟨_,rfl⟩
      rw [<- hom]at hO HD
      have hol:om.length<=1300:=by rw [hom,List.length_append];have:cs.length*20<=60*20:=Nat.mul_le_mul_right _ hl;omega
      have HN1:=hid (HNm.out a (by omega))
      have HN2:=hid (HNm.out b (by omega))
      have hn1:=numB_le a (by omega)
      have hn2:=numB_le b (by omega)
      have HA1:=hid (fun W va vb vc sa sb sc=>all3_any va vb vc om (numB a) (numB b) W sa sb sc (by omega))
      rw [<- HD.out]at HA1
      clear hom hpl
      have hw1:IntKind.u64.wrap (a:Int)=(a:Int):=IntWalk.u64_in _ (by omega)
      have hw3:IntKind.u64.wrap (b:Int)=(b:Int):=IntWalk.u64_in _ (by omega)
      obtain⟨oa,oc,rfl⟩:=hO.shape'
      go_upto_region 7 with fail
      go_region_held3 (fun w' => w'.cell? ⟨g, 2, none⟩ = some (N a) ∧ w'.cell? ⟨g, 3, none⟩ = some (N b))
        (first | go_keep)
        ((first
          | (go_at_call 27; refine (HN1.out _).mono ?_; rintro e w2 ⟨v2, rfl, hO2, hf2⟩; obtain ⟨p2, z2, hq2⟩ := hO2.shape'; subst hq2; have y0 := hf2.cell x2; have y1 := hf2.cell x3; clear HN1)
          | (go_at_call 27; refine (HN2.out _).mono ?_; rintro e w3 ⟨v3, rfl, hO3, hf3⟩; obtain ⟨p3, z3, hq3⟩ := hO3.shape'; subst hq3; have z0 := hf3.cell y0; have z1 := hf3.cell y1)
          | (go_at_call 26; refine (HA1.out _ _ _ _ (hO.see.fr ((Fr.refl wr).drew.trans (hf2.trans hf3))) (hO2.fr hf3).see hO3.see).mono ?_; rintro e w4 ⟨v4, rfl, hO4, hf4⟩; have u0 := hf4.cell z0; have u1 := hf4.cell z1)))
      have hf4':Fr w w3:=hf.trans ((Fr.refl wr).drew.trans (hf2.trans hf3))
      go_wp2_with fail
      go_ret
      exact⟨_,rfl,hO4.rebase hf4'.size,hf4'.trans hf4⟩
theorem BConcat_big(v:Value)(hs:List Hd)(ls:List (List UInt8))(w:World)(hv:Sees2 w eHB eB v hs ls)(hn:ls.flatten.length<=100000000) :
  Calls Tryz.prog 46 #[v] w fun e w'=>∃ v,e=.returned v/\Ow w' w.heap.size eB v ls.flatten/\Fr w w':=by
 obtain⟨a,cap,hva,hc1,hc2,hnn⟩:=hv.1.shape
 unfold maxLen at hc2
 subst hva
 have hlen:=hv.2.1
 have HL:=hid hlen
 have HN:=hid hnn
 clear hlen hnn
 have hll:ls.length<=9223372036854775807:=by have:=HL.out;omega
 go_enter Tryz.func46, Tryz.ntmps46
 go_wp2_with fail
 go_loop [3,11] (fun nv iv=>∃ k n:Nat,k<=hs.length/\iv=N k/\nv=N n/\Hid (n=(ls.take k).flatten.length)) (fun _ iv=>hs.length - (intOf iv).toNat)
 case atStart=>exact⟨0,0,Nat.zero_le _,rfl,rfl,rfl⟩
 case round=>
  obtain⟨k,n,hk,rfl,rfl,HK⟩:=hrel
  have hnl:n<=100000000:=by have h1:=flat_take_le ls k;have:=HK.out;omega
  by_cases hlt:k<hs.length
  · obtain⟨b,off,cap',hv2,e0⟩:=hv.1.cell1 (fun(h:Hd)=>h.v) rfl k hlt
    have hlt2:k<ls.length:=by have:=HL.out;omega
    have hsee:=hv.2.2 k hlt hlt2
    have HK2:Hid (n+ls[k].length=(ls.take (k+1)).flatten.length):=by show _=_;rw [flat_snoc ls k hlt2,List.length_append,<- HK.out]
    have hl2:=flat_take_le ls (k+1)
    have hl3:n+ls[k].length<=100000000:=by have:=HK2.out;omega
    obtain⟨a2,c2,hh,_⟩:=hsee.shape
    generalize hs[k]=h at *
    obtain⟨ha,hn2,hcc⟩:=h
    simp only [Hd.v,Value.slice.injEq]at hh
    obtain⟨rfl,hnn,rfl⟩:=hh
    rw [<- hnn]at HK2 hl3
    clear hnn hl2
    simp only [Hd.v]at e0
    cases hv2
    have i1:(0:Int)<=k:=by omega
    have i2:(k:Int)<hs.length:=by omega
    have hw1:IntKind.i64.wrap ((n:Int)+hn2)=(n:Int)+hn2:=IntWalk.i64_in _ (by omega)
    have hge:¬(n:Int)+hn2<0:=by omega
    go_wp2_with fail
    go_round
    case rel=>exact⟨k+1,n+hn2,by omega,by go_num,by go_num,HK2⟩
    case measure=>simp [intOf];omega
  · have HK2:Hid (n=ls.flatten.length):=by have:=HK.out;rw [List.take_of_length_le (by have:=HL.out;omega)]at this;exact this
    clear HK
    go_wp2_with fail
    refine(BGrow_any n _ (by omega)).mono ?_
    rintro e w1 ⟨v1,rfl,hown1,hf1⟩
    go_wp2_with fail
    go_loopw [6,27] (fun ov iv wr=>∃ k:Nat,k<=hs.length/\iv=N k/\Ow wr w.heap.size eB ov (ls.take k).flatten/\Fr w wr) (fun _ iv _=>hs.length - (intOf iv).toNat)
    case atStart=>exact⟨0,Nat.zero_le _,rfl,hown1,hf1⟩
    case round=>
     clear hown1
     obtain⟨k,hk2,rfl,hown,hf⟩:=hrel
     by_cases hlt:k<hs.length
     · have hv2:=hv.fr hf
       obtain⟨b,off,cap',hv3,e0⟩:=hv2.1.cell1 (fun(h:Hd)=>h.v) rfl k hlt
       have hlt2:k<ls.length:=by have:=HL.out;omega
       have hsee:=hv2.2.2 k hlt hlt2
       have HF:Hid ((ls.take (k+1)).flatten=(ls.take k).flatten++ls[k]):=flat_snoc ls k hlt2
       have hl2:=flat_take_le ls (k+1)
       rw [HF.out,List.length_append]at hl2
       generalize hs[k]=h at *
       cases hv3
       have i1:(0:Int)<=k:=by omega
       have i2:(k:Int)<hs.length:=by omega
       go_wp2_with (at_builtin;refine wpList_app eB rfl (.tmp 31) (.tmp 32) 27 rfl Tryz.underlying27 w.heap.size rfl hown _ _ rfl hsee ?c1 hf.size ?_)
       case c1=>omega
       intro v' w4 hap
       go_wp2_with fail
       go_roundw
       case rel=>exact⟨k+1,by omega,by go_num,by rw [HF.out];exact hap.own,hap.below hown hf (Nat.le_refl _) hf.size⟩
       case measure=>simp [intOf];omega
     · rw [List.take_of_length_le (by have:=HL.out;omega)]at hown
       go_wp2_with fail
       go_ret
       exact⟨_,rfl,hown,hf⟩
theorem All_big(v:Value)(hs:List Hd)(ls:List (List UInt8))(w:World)(hv:Sees2 w eHB eB v hs ls)(hn:ls.flatten.length<=100000000) :
  Calls Tryz.prog 26 #[v] w fun e w'=>∃ v,e=.returned v/\Ow w' w.heap.size eB v ls.flatten/\Fr w w':=by
 obtain⟨a,cap,hva,_⟩:=hv.1.shape
 have HC:=hid (BConcat_big v hs ls w hv hn)
 subst hva
 go_enter Tryz.func26, Tryz.ntmps26
 go_wp2_with fail
 refine HC.out.mono ?_
 rintro e w1 ⟨v1,rfl,hown,hf⟩
 go_wp2_with fail
 go_ret
 exact⟨_,rfl,hown,hf⟩
theorem all3_big(va vb vc:Value)(la lb lc:List UInt8)(W:World)(ha:See W eB va la)(hb:See W eB vb lb)(hc:See W eB vc lc)(hn:la.length+lb.length+lc.length<=100000000) :
  Calls Tryz.prog 26 #[.slice (some ⟨W.heap.size,0,none⟩) 3 3] (W.alloc (.cells #[va,vb,vc] 27)) fun e w'=>∃ v,e=.returned v/\Ow w' W.heap.size eB v (la++lb++lc)/\Fr W w':=by
 obtain⟨pa,rfl⟩:=hd_of ha
 obtain⟨pb,rfl⟩:=hd_of hb
 obtain⟨pc,rfl⟩:=hd_of hc
 have h2 := lit_sees2 W #[pa.v, pb.v, pc.v] 27 [pa, pb, pc] [la, lb, lc] 3 rfl rfl rfl (by simp) (fun i h1 h2 => by
  match i, h1 with
  | 0, _ => exact ha
  | 1, _ => exact hb
  | 2, _ => exact hc)
 refine(All_big _ _ _ _ h2 (by simp;omega)).mono ?_
 rintro e w' ⟨v,rfl,ho,hf⟩
 exact⟨v,rfl,by simpa using ho.rebase (b:=W.heap.size) (by simp),((Fr.refl W).alloc _).trans hf⟩
theorem conv_at(v:Value)(l:List UInt8)(w:World)(h:See w eB v l):(convert 27 9 v).run Tryz.prog w=.ok (S l) w:=
 run_conv_see eB w 27 9 Tryz.underlying27 (by kernel_rfl) Tryz.underlying9 rfl rfl h
theorem RSame1_any(va vb:Value)(a b:List UInt8)(w:World)(ha:See w eB va a)(hb:See w eB vb b) :
  Calls Tryz.prog 7 #[va,vb] w fun e w'=>e=.returned (.bool (decide (a=b)))/\w=w':=by
 have h1:=conv_at va a w ha
 have h2:=conv_at vb b w hb
 obtain⟨pa,ca,hva,_⟩:=ha.shape
 obtain⟨pb,cb,hvb,_⟩:=hb.shape
 subst hva hvb
 clear ha hb
 have hd:(a == b)=decide (a=b):=by rw [Bool.eq_iff_iff];simp
 generalize decide (a=b)=q at *
 go_enter Tryz.func7, Tryz.ntmps7
 go_wp2_with fail
 go_ret
 exact⟨rfl,rfl⟩
end Go.Proofs.YtdagmoonnbnceaaGreatDoor
