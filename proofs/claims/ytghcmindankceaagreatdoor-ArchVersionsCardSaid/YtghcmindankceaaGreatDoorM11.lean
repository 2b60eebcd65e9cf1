/- Parts of the proof of ArchVersions: N2 B1 B2 B3 E1 R1. -/
import Derived.Test.YtghcmindankceaaGreatDoorM04
import Derived.Test.YtghcmindankceaaGreatDoorM09
import Derived.Test.YtghcmindankceaaGreatDoorM06
import Derived.Test.YtghcmindankceaaGreatDoorM10
import Derived.Test.YtghcmindankceaaGreatDoorM07
import Derived.Test.YtghcmindankceaaGreatDoorM01
set_option linter.unusedVariables false
set_option linter.unusedSectionVars false
set_option linter.unusedSimpArgs false
set_option maxHeartbeats 8000000
namespace Go.Proofs.YtghcmindankceaaGreatDoor
open Go.RowKit Go.Fk
theorem or_all:allB 256 (fun y=>(y ||| 128) == 128+y % 128)=true:=by decide +kernel
theorem or_high(x:Nat):bits .or .u8 ((x:Int) % 256) 128=((UInt8.ofNat (128+x % 128)).toNat:Int):=by
 have h:(x % 256) ||| 128=128+(x % 256) % 128:=beq_iff_eq.1 (allB_out 256 _ or_all (x % 256) (by omega))
 rw [show(x:Int) % 256=((x % 256:Nat):Int) by omega,show(128:Int)=((128:Nat):Int)from rfl,or_u8 (x % 256) 128 (by omega) (by omega),h,UInt8.toNat_ofNat']
 omega
theorem byte_cell(x:Nat)(h:x<256):(#[Value.int .u8 (x:Int)]:Array Value).toList=eB.cells [UInt8.ofNat x]:=by
 have e:(x:Int)=((UInt8.ofNat x).toNat:Int):=by rw [UInt8.toNat_ofNat'];omega
 rw [e];rfl
set_option maxRecDepth 100000
theorem Num_any(x:Nat)(hx:x<18446744073709551616)(w:World) :
  Calls Tryz.prog 115 #[.int .u64 (x:Int)] w fun e w'=>∃ v,e=.returned v/\Ow w' w.heap.size eB v (numB x)/\Fr w w':=by
 have hlen:=numB_le x hx
 generalize hR:numB x=R at *
 have HL:=hid hlen
 go_enter Tryz.func115, Tryz.ntmps115
 go_wp2_with fail
 go_loopw [0,3] (fun xv ov wr=>∃ (y:Nat) (o:List UInt8),xv=.int .u64 (y:Int)/\y<18446744073709551616/\Ow wr w.heap.size eB ov o/\Hid (R=o++numB y)/\Fr w wr) (fun xv _ _=>(intOf xv).toNat)
 case atStart=>exact⟨x,[],rfl,hx,Ow.nil,by show _=_;rw [hR];rfl,Fr.refl w⟩
 case round=>
  obtain⟨y,o,rfl,hy,hown,HR,hf⟩:=hrel
  have hol:o.length<=10:=by
   have h1:=HL.out
   rw [HR.out,List.length_append]at h1
   omega
  have hc1:o.length+1<=2147483648:=by omega
  clear hlen hR
  by_cases hb:y<128
  · have HE:Hid (R=o++[UInt8.ofNat y]):=by show _=_;rw [HR.out,numB_one y hb]
    have HB:=hid (byte_cell y (by omega))
    have hb':¬(128:Int)<=y:=by omega
    generalize UInt8.ofNat y=c at *
    go_wp2_with (at_builtin;refine wpList_app1 eB rfl (.tmp 14) (.tmp 17) 22 rfl Tryz.underlying22 w.heap.size rfl hown [c] _ _ _ HB.out rfl rfl hc1 hf.size ?_)
    intro v' w4 hap
    go_wp2_with fail
    go_ret
    exact⟨_,rfl,by rw [HE.out];exact hap.own,hap.below hown hf (Nat.le_refl _) hf.size⟩
  · have HE:Hid (R=o++[UInt8.ofNat (128+y % 128)]++numB (y / 128)):=by show _=_;rw [HR.out,numB_more y hb];simp
    have hor:=or_high y
    have hb':(128:Int)<=y:=by omega
    generalize UInt8.ofNat (128+y % 128)=c at *
    go_wp2_with (at_builtin;refine wpList_app1 eB rfl (.tmp 6) (.tmp 10) 22 rfl Tryz.underlying22 w.heap.size rfl hown [c] _ _ _ rfl rfl rfl hc1 hf.size ?_)
    intro v' w4 hap
    go_wp2_with fail
    go_roundw
    case rel=>exact⟨y / 128,o++[c],by go_num,by omega,hap.own,HE,hap.below hown hf (Nat.le_refl _) hf.size⟩
    case measure=>simp [intOf];omega
theorem Text_any(s:List UInt8)(hs:s.length<=1000000000)(w:World) :
  Calls Tryz.prog 184 #[S s] w fun e w'=>∃ v,e=.returned v/\Ow w' w.heap.size eB v (textB s)/\Fr w w':=by
 have HN:=hid (Num_any s.length (by omega))
 have hlen:=numB_le s.length (by omega)
 have hc1:(numB s.length).length+s.length<=2147483648:=by omega
 have HT:Hid (textB s=numB s.length++s):=rfl
 generalize numB s.length=nb at *
 clear hlen
 go_enter Tryz.func184, Tryz.ntmps184
 go_wp2_with fail
 refine(HN.out _).mono ?_
 rintro e w1 ⟨v1,rfl,hown,hf⟩
 go_wp2_with (at_builtin;refine wpList_app_str eB rfl (.tmp 6) (.tmp 7) 22 9 rfl Tryz.underlying22 Tryz.underlying9 rfl rfl rfl w.heap.size rfl hown s rfl hc1 hf.size ?_)
 intro v' w4 hap
 go_wp2_with fail
 go_ret
 exact⟨_,rfl,by rw [HT.out];exact hap.own,hap.below hown hf (Nat.le_refl _) hf.size⟩
set_option maxRecDepth 512
theorem All_any(v:Value)(hs:List Hd)(ls:List (List UInt8))(w:World)(hv:Sees2 w eHB eB v hs ls)(hn:ls.flatten.length<=1000000) :
  Calls Tryz.prog 67 #[v] w fun e w'=>∃ v,e=.returned v/\Ow w' w.heap.size eB v ls.flatten/\Fr w w':=by
 obtain⟨a,cap,hva,_⟩:=hv.1.shape
 have HC:=hid (BConcat_any v hs ls w hv hn)
 subst hva
 go_enter Tryz.func67, Tryz.ntmps67
 go_wp2_with fail
 refine HC.out.mono ?_
 rintro e w1 ⟨v1,rfl,hown,hf⟩
 go_wp2_with fail
 go_ret
 exact⟨_,rfl,hown,hf⟩
def WrB(w:World)(base g:Nat)(T:TypeId)(rest:List Value)(bv:Value)(l:List UInt8):Prop:=
 w.heap[g]?=some (.cells (bv::N l.length::rest).toArray T (0,0))/\Ow w base eB bv (packW l)/\g<base/\IsBits l
def WSt(g:Nat)(bv bv':Value)(w w':World):Prop:=Chg (fun k=>k=g\/bv.ownBlock=some k) w w'/\∀ b,bv'.ownBlock=some b->bv.ownBlock=some b\/w.heap.size<=b
theorem WSt.refl(g:Nat)(bv:Value)(w:World):WSt g bv bv w w:=⟨Chg.refl _ w,fun _ h=>.inl h⟩
theorem WSt.trans{g:Nat}{a b c:Value}{w w1 w2:World}(h:WSt g a b w w1)(k:WSt g b c w1 w2):WSt g a c w w2:=
 ⟨h.1.trans k.1 (fun i hi hk => by
  rcases hk with e | e
  · exact .inl e
  · rcases h.2 i e with h2 | h2
    · exact .inr h2
    · omega), fun i hi => by
  rcases k.2 i hi with e | e
  · exact h.2 i e
  · exact .inr (Nat.le_trans h.1.size e)⟩
theorem WSt.fr{g:Nat}{a b:Value}{w w0 w1:World}(hf:Fr w w0)(h:WSt g a b w0 w1):WSt g a b w w1:=
 ⟨(hf.chg _).trans h.1 (fun _ _ h=>h),fun i hi=>(h.2 i hi).imp id fun e=>Nat.le_trans hf.size e⟩
theorem WSt.frR{g:Nat}{a b:Value}{w w0 w1:World}(h:WSt g a b w w0)(hf:Fr w0 w1):WSt g a b w w1:=
 ⟨h.1.trans (hf.chg (fun k=>k=g\/a.ownBlock=some k)) (fun _ _ h=>h),h.2⟩
theorem WSt.heap{g:Nat}{a b:Value}{w w':World}(h:WSt g a b w w'){k:Nat}{o:Obj}(hk:w.heap[k]?=some o)(hg:k≠g)(ha:a.ownBlock≠some k):w'.heap[k]?=some o:=
 h.1.heap hk (fun e=>e.elim hg ha)
set_option maxRecDepth 100000
theorem badd_any(x:UInt8)(hx:x=0\/x=1)(base g:Nat)(T:TypeId)(rest:List Value)(bv:Value)(l:List UInt8)(w:World)(h:WrB w base g T rest bv l)(hl:l.length<=1000000000)(hb:base<=w.heap.size) :
  Calls Tryz.prog 261 #[.pointer (some ⟨g,0,none⟩),.int .u64 x.toNat] w fun e w'=>e=.returned (.tuple #[])/\∃ bv',WrB w' base g T rest bv' (l++[x])/\WSt g bv bv' w w':=by
 obtain⟨hG,hown,hgb,hbits⟩:=h
 have e0:w.cell? ⟨g,0,none⟩=some bv:=by rw [cell_of_heap hG];rfl
 have e1:w.cell? ⟨g,1,none⟩=some (N l.length):=by rw [cell_of_heap hG];rfl
 have z0:=frozen_of_heap hG 0
 have z1:=frozen_of_heap hG 1
 have hlen:=packW_len l
 have hsn:=packW_snoc l x hbits hx
 obtain⟨m,hm⟩:∃ m,m=(if l.length % 8=0 then packW l++[0]else packW l):=⟨_,rfl⟩
 have hml:l.length / 8<m.length:=by
  rw [hm];split
  · rw [List.length_append,hlen];simp;omega
  · rw [hlen];omega
 have hmat:m[l.length / 8]=UInt8.ofNat (byteW l (l.length / 8)):=by
  by_cases h8:l.length % 8=0
  · simp only [hm,if_pos h8]
    rw [List.getElem_append_right (by rw [hlen];omega)]
    rw [byteW_zero l _ (by omega)]
    simp
  · simp only [hm,if_neg h8]
    exact packW_at l _ _
 rw [<- hm]at hsn
 have HSN:=hid hsn
 have HM:=hid hm
 have HMAT:=hid hmat
 have HLen:=hid hlen
 clear hsn hm hmat hlen
 have hn0:(0:Int)<=l.length:=by omega
 have hml2:m.length<=(packW l).length+1:=by rw [HM.out];split <;> simp
 obtain⟨bva,bvc,hbv⟩:=hown.shape'
 go_enter Tryz.func261, Tryz.ntmps261
 go_upto_if 9 with fail
 go_cut []from 8 to 18 (fun wx=>∃ bv1,wx.heap[g]?=some (.cells (bv1::N l.length::rest).toArray T (0,0))/\Ow wx base eB bv1 m/\WSt g bv bv1 w wx)
 case first=>
  by_cases h8:l.length % 8=0
  · have h8':(l.length:Int) % 8=0:=by omega
    have hx1:(packW l).length+1<=2147483648:=by rw [HLen.out];omega
    have HMe:Hid (m=packW l++[0]):=by show _=_;rw [HM.out,if_pos h8]
    subst hbv
    go_wp2_with (at_builtin;refine wpList_app1 eB rfl (.tmp 14) (.tmp 15) 22 rfl Tryz.underlying22 base rfl hown [0] _ _ _ rfl rfl rfl hx1 hb ?_)
    intro v' w4 hap
    have hG4:=hap.chg'.heap hG (fun e=>by have:=(hown.lt _ e).1;omega)
    have c0:w4.cell? ⟨g,0,none⟩=some (.slice bva (packW l).length bvc):=by rw [cell_of_heap hG4];rfl
    have c1:=frozen_of_heap hG4 0
    obtain⟨va,vc,hv⟩:=hap.own.shape'
    rw [show(packW l++[(0:UInt8)]).length=(packW l).length+1 from by simp]at hv
    subst hv
    go_wp2_with fail
    go_meet
    refine⟨_,heap_setCell_own hG4 0 _,?_,⟨?_,?_⟩⟩
    · rw [HMe.out];exact own_set_other hap.own hgb
    · exact(hap.chg'.mono (fun k _ h=>Or.inr h)).trans (setCell_chg w4 ⟨g,0,none⟩ _) (fun k _ h=>Or.inl h)
    · exact hap.fresh
  · have h8':¬(l.length:Int) % 8=0:=by omega
    have HMe:Hid (m=packW l):=by show _=_;rw [HM.out,if_neg h8]
    go_wp2_with fail
    go_meet
    exact⟨_,hG,by rw [HMe.out];exact hown,WSt.refl g bv w⟩
 case rest=>
  obtain⟨bv1,hG1,hown1,hst⟩:=hcut
  clear hG hown e0 e1 z0 z1
  have hne:m≠[]:=by intro e;rw [e]at hml;simp at hml
  obtain⟨q,cap,hv1,hq1,hq2,hq3,hq4⟩:=hown1.atHead hne
  subst hv1
  obtain⟨c2,c3⟩:=hown1.cellAt (fun c=>Fk.u8 c) rfl (l.length / 8) hml
  have hs1:=fun u x hx=>hown1.set (fun c=>Fk.u8 c) rfl (l.length / 8) hml x u hx
  rw [HMAT.out]at c2
  have hby:=byteW_lt hbits (l.length / 8)
  generalize byteW l (l.length / 8)=y at *
  have e0:wc.cell? ⟨g,0,none⟩=some (.slice (some ⟨q,0,none⟩) m.length cap):=by rw [cell_of_heap hG1];rfl
  have e1:wc.cell? ⟨g,1,none⟩=some (N l.length):=by rw [cell_of_heap hG1];rfl
  have i1:(l.length:Int) / 8<m.length:=by omega
  have i2:(0:Int)<=(l.length:Int) / 8:=by omega
  have i3:((l.length:Int) / 8).toNat=l.length / 8:=by omega
  have i4:(0:Int)<=7 - (l.length:Int) % 8:=by omega
  have i5:(7 - (l.length:Int) % 8).toNat=7 - l.length % 8:=by omega
  have hxb:=UInt8.toNat_lt x
  have j1:IntKind.i64.wrap ((l.length:Int) / 8)=(l.length:Int) / 8:=IntWalk.i64_in _ (by omega)
  have j2:(l.length:Int).tmod 8=(l.length:Int) % 8:=Int.tmod_eq_emod_of_nonneg (by omega)
  have j2':IntKind.i64.wrap ((l.length:Int) % 8)=(l.length:Int) % 8:=IntWalk.i64_in _ (by omega)
  have j3:IntKind.i64.wrap (7 - (l.length:Int) % 8)=7 - (l.length:Int) % 8:=IntWalk.i64_in _ (by omega)
  have j4:IntKind.u8.wrap (x.toNat:Int)=x.toNat:=by rw [wrap_u8];omega
  have hSl:x.toNat*2 ^ (7 - l.length % 8)<256:=by
   have h1:x.toNat<=1:=by rcases hx with rfl | rfl <;> decide
   have h2:2 ^ (7 - l.length % 8)<=2 ^ 7:=Nat.pow_le_pow_right (by omega) (by omega)
   calc x.toNat * 2 ^ (7 - l.length % 8) ≤ 1 * 2 ^ 7 := Nat.mul_le_mul h1 h2
    _<256:=by decide
  have k1:IntKind.u8.wrap ((x.toNat:Int)*2 ^ (7 - l.length % 8))=((x.toNat*2 ^ (7 - l.length % 8):Nat):Int):=by
   rw [wrap_u8]
   have e:((x.toNat*2 ^ (7 - l.length % 8):Nat):Int)=(x.toNat:Int)*2 ^ (7 - l.length % 8):=by simp
   rw [<- e];omega
  have hor:y ||| x.toNat*2 ^ (7 - l.length % 8)<256:=Nat.or_lt_two_pow (n:=8) hby hSl
  generalize x.toNat*2 ^ (7 - l.length % 8)=S at *
  have k2:bits .or .u8 ((y:Int) % 256) (S:Int)=((y ||| S:Nat):Int):=by
   rw [show(y:Int) % 256=y by omega];exact or_u8 y S hby hSl
  have hs2:=hs1 (.int .u8 ((y ||| S:Nat):Int)) (UInt8.ofNat (y ||| S)) (byte_val _ hor).symm
  clear hs1
  generalize y ||| S=z at *
  have hqg:q≠g:=by omega
  have hG2:(wc.setCell ⟨q,l.length / 8,none⟩ (.int .u8 (z:Int))).heap[g]?=some (.cells (.slice (some ⟨q,0,none⟩) m.length cap::N l.length::rest).toArray T (0,0)):=by
   rw [Below.heap_setCell _ _ _ _ (by simpa using fun e=>hqg e.symm)];exact hG1
  have hst2:WSt g bv (.slice (some ⟨q,0,none⟩) m.length cap) w (wc.setCell ⟨q,l.length / 8,none⟩ (.int .u8 (z:Int))):=
   hst.trans ⟨(setCell_chg wc _ _).mono (fun k _ h=>Or.inr (by rw [h];rfl)),fun b hb=>Or.inl hb⟩
  have d1:(wc.setCell ⟨q,l.length / 8,none⟩ (.int .u8 (z:Int))).cell? ⟨g,1,none⟩=some (N l.length):=by rw [cell_of_heap hG2];rfl
  have d2:=frozen_of_heap hG2 1
  have HSt2:=hid hst2
  have HS2:=hid hs2
  have HG2:=hid hG2
  clear hst2 hs2 hG2 hst hown1 hG1
  go_upto_region 2 with fail
  go_still_tail 22,(by kernel_rfl)
  change wpList _ _ _ _ _ wc.drew
  go_wp2_with fail
  go_end0
  refine⟨rfl,.slice (some ⟨q,0,none⟩) m.length cap,⟨?_,?_,hgb,hbits.app (by intro c hc;rw [List.mem_singleton]at hc;rw [hc];exact hx)⟩,?_⟩
  · have h2:=heap_setCell_own HG2.out 1 (.int .i64 ((l.length:Int)+1))
    rw [List.setIfInBounds_toArray]at h2
    have e:(N (l++[x]).length:Value)=.int .i64 ((l.length:Int)+1):=by rw [List.length_append];rfl
    rw [e]
    exact h2
  · rw [HSN.out]
    exact(own_set_other HS2.out hgb).drew
  · exact(HSt2.out.trans (b:=.slice (some ⟨q,0,none⟩) m.length cap) (c:=.slice (some ⟨q,0,none⟩) m.length cap) ⟨(setCell_chg _ _ _).mono (fun k _ h=>Or.inl h),fun b hb=>Or.inl hb⟩).frR (Fr.drew (Fr.refl _))
set_option maxRecDepth 512
theorem and1_u64(y:Nat)(h:y<18446744073709551616):bits .and .u64 (y:Int) 1=((y % 2:Nat):Int):=by
 show IntKind.u64.wrap ((BitVec.ofInt 64 (y:Int) &&& BitVec.ofInt 64 ((1:Nat):Int)).toNat:Int)=_
 rw [BitVec.toNat_and,of_int 64 y (by omega),of_int 64 1 (by omega),Nat.and_one_is_mod]
 simp only [IntKind.wrap,IntKind.bits,IntKind.signed]
 simp
 omega
theorem badd2_any(b:Nat)(hb:b<=1)(base g:Nat)(T:TypeId)(rest:List Value)(bv:Value)(l:List UInt8)(w:World)(h:WrB w base g T rest bv l)(hl:l.length<=1000000000)(hs:base<=w.heap.size) :
  Calls Tryz.prog 261 #[.pointer (some ⟨g,0,none⟩),.int .u64 (b:Int)] w fun e w'=>e=.returned (.tuple #[])/\∃ bv',WrB w' base g T rest bv' (l++[UInt8.ofNat b])/\WSt g bv bv' w w':=by
 have e:((UInt8.ofNat b).toNat:Int)=(b:Int):=by rw [UInt8.toNat_ofNat'];omega
 rw [<- e]
 refine badd_any (UInt8.ofNat b) ?_ base g T rest bv l w h hl hs
 have:b=0\/b=1:=by omega
 rcases this with rfl | rfl <;> simp
theorem WrB.drew{w:World}{base g:Nat}{T:TypeId}{rest:List Value}{bv:Value}{l:List UInt8}(h:WrB w base g T rest bv l):WrB w.drew base g T rest bv l:=⟨h.1,h.2.1.drew,h.2.2⟩
theorem sh_zero(x n:Nat)(h:x<2 ^ n):(x:Int) / 2 ^ n=0:=by
 have e:(x:Int) / 2 ^ n=((x / 2 ^ n:Nat):Int):=by simp
 rw [e,Nat.div_eq_of_lt h];rfl
set_option maxRecDepth 100000
theorem bput_any(x n:Nat)(hn:n<=64)(hx:x<2 ^ n)(base g:Nat)(T:TypeId)(rest:List Value)(bv:Value)(l:List UInt8)(w:World)(h:WrB w base g T rest bv l)(hl:l.length+n<=1000000000)(hs:base<=w.heap.size) :
  Calls Tryz.prog 194 #[.pointer (some ⟨g,0,none⟩),.int .u64 (x:Int),N n] w fun e w'=>e=.returned (.int .i64 0)/\∃ bv',WrB w' base g T rest bv' (l++bitsL x n)/\WSt g bv bv' w w':=by
 have hx64:x<18446744073709551616:=by
  calc x < 2 ^ n := hx
   _<=2 ^ 64:=Nat.pow_le_pow_right (by omega) hn
 have hz:=sh_zero x n hx
 have HA:=hid (fun b hb W m bv' (h1:WrB W base g T rest bv' m) (h2:m.length<=1000000000) (h3:base<=W.heap.size)=>badd2_any b hb base g T rest bv' m W h1 h2 h3)
 have hn0:(0:Int)<=n:=by omega
 have hn1:(n:Int)<=64:=by omega
 have hw1:IntKind.i64.wrap ((n:Int) - 1)=(n:Int) - 1:=IntWalk.i64_in _ (by omega)
 have d1:decide ((n:Int)<0)=false:=by simp
 have d2:decide ((64:Int)<n)=false:=by simp;omega
 have hc:decide ((n:Int)<64)=true\/decide ((n:Int)<64)=false:=by cases decide ((n:Int)<64) <;> simp
 rcases hc with d3 | d3
 all_goals
  go_enter Tryz.func194, Tryz.ntmps194
  go_wp2_with fail
  go_loopw [7] (fun iv wr=>∃ (j:Nat) (bv':Value) (m:List UInt8),j<=n/\iv=.int .i64 ((j:Int) - 1)/\WrB wr base g T rest bv' m/\WSt g bv bv' w wr/\m.length<=1000000000 - j/\Hid (l++bitsL x n=m++bitsL x j)) (fun iv _=>(intOf iv+1).toNat)
  case atStart=>exact⟨n,bv,l,Nat.le_refl _,rfl,h,WSt.refl g bv w,by omega,rfl⟩
  case round=>
   clear h
   obtain⟨j,bv',m,hj,rfl,hwr,hst,hml,HE⟩:=hrel
   rcases Nat.eq_zero_or_pos j with rfl | hp
   · have HE2:Hid (l++bitsL x n=m):=by show _=_;rw [HE.out,bitsL,List.append_nil]
     go_wp2_with fail
     go_ret
     exact⟨rfl,bv',by rw [HE2.out];exact hwr,hst⟩
   · obtain⟨i,rfl⟩:∃ i,j=i+1:=⟨j - 1,by omega⟩
     have hi0:((i+1:Nat):Int) - 1=(i:Int):=by omega
     rw [hi0]
     have hw2:IntKind.i64.wrap ((i:Int) - 1)=(i:Int) - 1:=IntWalk.i64_in _ (by omega)
     have hi1:(0:Int)<=i:=by omega
     have hxi:x / 2 ^ i<18446744073709551616:=Nat.lt_of_le_of_lt (Nat.div_le_self _ _) hx64
     have HXI:=hid (and1_u64 (x / 2 ^ i) hxi)
     have hdv:(x:Int) / 2 ^ i=((x / 2 ^ i:Nat):Int):=by simp
     have hb1:x / 2 ^ i % 2<=1:=by omega
     have HE2:Hid (l++bitsL x n=(m++[UInt8.ofNat (x / 2 ^ i % 2)])++bitsL x i):=by show _=_;rw [HE.out,bitsL];simp
     have HC:=hid (HA.out (x / 2 ^ i % 2) hb1 wr.drew m bv' hwr.drew (by omega) (Nat.le_trans hs hst.1.size))
     clear hi0 HE
     generalize x / 2 ^ i=y at *
     have HY:=hid hdv
     clear hdv hz hx
     have hb:bits .and .u64 ((x:Int) / 2 ^ i) 1=((y % 2:Nat):Int):=by rw [HY.out];exact HXI.out
     clear hxi
     generalize y % 2=b at *
     go_upto_region 6 with fail
     go_still_tail 7,(by kernel_rfl)
     change wpList _ _ _ _ _ wr.drew
     generalize hWD:wr.drew=WD at *
     have HWD:=hid hWD
     clear hWD
     go_wp2_with fail
     refine HC.out.mono ?_
     rintro e w1 ⟨rfl,bv2,hwr2,hst2⟩
     go_wp2_with fail
     go_roundw
     case rel=>exact⟨i,bv2,_,by omega,rfl,hwr2,by rw [<- HWD.out]at hst2;exact(hst.frR (Fr.drew (Fr.refl wr))).trans hst2,by rw [List.length_append];simp;omega,HE2⟩
     case measure=>simp [intOf]
set_option maxRecDepth 512
theorem bbytes_any(base g:Nat)(T:TypeId)(rest:List Value)(bv:Value)(l:List UInt8)(w:World)(h:WrB w base g T rest bv l)(hl:l.length<=7999992) :
  Calls Tryz.prog 196 #[.pointer (some ⟨g,0,none⟩)] w fun e w'=>∃ v,e=.returned v/\Ow w' w.heap.size eB v (packW l)/\Fr w w':=by
 obtain⟨hG,hown,hgb,hbits⟩:=h
 have e0:w.cell? ⟨g,0,none⟩=some bv:=by rw [cell_of_heap hG];rfl
 have HC:=hid (BClone_any bv (packW l) w hown.see (by rw [packW_len];omega))
 obtain⟨va,vc,hv⟩:=hown.shape'
 subst hv
 go_enter Tryz.func196, Tryz.ntmps196
 go_wp2_with fail
 refine HC.out.mono ?_
 rintro e w1 ⟨v1,rfl,hown1,hf1⟩
 go_wp2_with fail
 go_ret
 exact⟨_,rfl,hown1,hf1⟩
def WrR(w:World)(base g:Nat)(T:TypeId)(bv:Value)(l:List UInt8):Prop:=w.heap[g]?=some (.cells #[bv] T (0,0))/\Ow w base eB bv l/\g<base/\IsBits l
theorem WrR.drew{w:World}{base g:Nat}{T:TypeId}{bv:Value}{l:List UInt8}(h:WrR w base g T bv l):WrR w.drew base g T bv l:=⟨h.1,h.2.1.drew,h.2.2⟩
def lowL(x k:Nat):List UInt8:=(List.range k).map fun i=>UInt8.ofNat (x / 2 ^ i % 2)
def partW(l:List UInt8)(q:Nat):Nat->Nat
 | 0=>0
 | t+1=>2*partW l q t+bitD l (8*q+t)
theorem jAt{w:World}{v:Value}{l:List Nat}(h:See w eJ v l)(k:Nat)(hk:k<l.length) :
  ∃ b off cap,v=.slice (some ⟨b,off,none⟩) l.length cap/\w.cell? ⟨b,off+k,none⟩=some (N l[k]):=by
 obtain⟨b,off,cap,rfl,h1,h2,h3⟩:=h.cells (by intro e;simp [e]at hk)
 have e0:=h3 k hk 0 (by decide) _ rfl
 exact⟨b,off,cap,rfl,by simpa [eJ] using e0⟩
def AlikeL(L:Nat)(hs:List Hd):Prop:=∀ i (h:i<hs.length),hs[i].n=L
end Go.Proofs.YtghcmindankceaaGreatDoor
