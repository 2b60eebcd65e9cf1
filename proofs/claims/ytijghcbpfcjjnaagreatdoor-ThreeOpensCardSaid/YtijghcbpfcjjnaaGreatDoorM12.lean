/- Parts of the proof of ThreeOpens: Cg B1 B2 B3 E1 Df Dr1. -/
import Derived.Test.YtijghcbpfcjjnaaGreatDoorM11
import Derived.Test.YtijghcbpfcjjnaaGreatDoorM10
import Derived.Test.YtijghcbpfcjjnaaGreatDoorM06
import Derived.Test.YtijghcbpfcjjnaaGreatDoorM09
import Derived.Test.YtijghcbpfcjjnaaGreatDoorM07
import Derived.Test.YtijghcbpfcjjnaaGreatDoorM01
import Derived.Test.YtijghcbpfcjjnaaGreatDoorM22
set_option linter.unusedVariables false
set_option linter.unusedSectionVars false
set_option linter.unusedSimpArgs false
set_option maxHeartbeats 8000000
namespace Go.Proofs.YtijghcbpfcjjnaaGreatDoor
open Go.RowKit Go.Fk
set_option maxRecDepth 100000
theorem bunary_any(B base n a:Nat)(l:List UInt8)(w:World)(hc:BrF w B base l n a)(hl:l.length<=1000000) :
  Calls Tryz.prog 230 #[.pointer (some ⟨B,0,none⟩)] w fun e w'=>e=.returned (.tuple #[N (unaR l a).1,.int .i64 ((unaR l a).2.2:Int)])/\BrF w' B base l n (unaR l a).2.1/\Chg (fun b=>b=B) w w':=by
 have HB:=hid (fun W j (h:Qt w W) (hj:j<n)=>bbit_any B base n a j l W (hc.fr h.fr) hl hj)
 have HC:=hid hc
 have hn8:n<=8000000:=by have:=hc.eq;omega
 have HU:Hid (unaR l a=match unGo l (n - a) a with | some i=>(i - a,i+1,0) | none=>(0,a,1)):=by show _=_;unfold unaR;rw [hc.eq];cases unGo l (8*l.length - a) a <;> rfl
 have HS:Hid (∀ i,i<n->unGo l (n - i) i=if bitR l i=1 then some i else unGo l (n - (i+1)) (i+1)):=fun i h=>by have h2:=hc.eq;subst h2;exact unGo_step l i h
 have HE:Hid (unGo l (n - n) n=none):=by show _=_;rw [Nat.sub_self];rfl
 obtain⟨⟨v,h1,hO⟩,hn,hle⟩:=hc
 have c1:w.cell? ⟨B,1,none⟩=some (N n):=by rw [cell_of_heap h1];rfl
 have c2:w.cell? ⟨B,2,none⟩=some (N a):=by rw [cell_of_heap h1];rfl
 have hvB:=hO.ne_cells h1 (by decide)
 clear hn
 generalize unaR l a=U at *
 go_enter Tryz.func230, Tryz.ntmps230
 go_wp2_with fail
 go_loopw [4] (fun iv wr=>∃ i:Nat,a<=i/\i<=n/\iv=N i/\Hid (unGo l (n - a) a=unGo l (n - i) i)/\Qt w wr) (fun iv _=>n - (intOf iv).toNat)
 case atStart=>exact⟨a,Nat.le_refl _,hle,rfl,rfl,Qt.refl _⟩
 case round=>
  obtain⟨i,hai,hin,rfl,HI,hq⟩:=hrel
  have d1:=hq.fr.cell c1
  by_cases hlt:i<n
  · have HB1:=hid (HB.out wr i hq hlt)
    have HS1:=hid (HS.out i hlt)
    have hb2:=bitR_two l i
    have j1:(i:Int)<n:=by omega
    by_cases hb:bitR l i=1
    · have HU2:Hid (U=(i - a,i+1,0)):=by show _=_;rw [HU.out,HI.out,HS1.out,if_pos hb]
      rw [hb]at HB1
      clear HS1 HI hb hb2
      go_wp2_with fail
      refine(HB1.out).mono ?_
      rintro e w1 ⟨rfl,rfl⟩
      have hq2:=hq
      have h11:=hq2.fr.heap h1
      have d2:wr.cell? ⟨B,2,none⟩=some (N a):=by rw [cell_of_heap h11];rfl
      have z2:=frozen_of_heap h11 2
      have hst:=setCell_chg wr ⟨B,2,none⟩ (.int .i64 ((i:Int)+1))
      have h13:=heap_setCell_own h11 2 (.int .i64 ((i:Int)+1))
      have hO3:=(hO.fr hq2.fr).chg hst (fun i hi e=>hvB (by rw [hi,show i=B from e]))
      have hch:=(hq2.fr.chg _).trans hst fun _ _ h=>h
      have hsub:IntKind.i64.wrap ((i:Int) - a)=(i:Int) - a:=IntWalk.i64_in _ (by omega)
      clear HB1 HB d1
      go_wp2_with fail
      go_ret2
      rw [HU2.out]
      exact⟨by simp [N];omega,⟨⟨v,h13,hO3⟩,HC.out.eq,by show i+1<=n;omega⟩,hch⟩
    · have hb0:bitR l i=0:=by omega
      have HI2:Hid (unGo l (n - a) a=unGo l (n - (i+1)) (i+1)):=by show _=_;rw [HI.out,HS1.out,if_neg hb]
      rw [hb0]at HB1
      clear HS1 HI hb hb2 hb0
      go_wp2_with fail
      refine(HB1.out).mono ?_
      rintro e w1 ⟨rfl,rfl⟩
      have hq2:=hq
      clear HB1 d1
      go_wp2_with fail
      go_roundw
      case rel=>exact⟨i+1,by omega,by omega,by go_num,HI2.out,hq2⟩
      case measure=>simp [intOf];omega
  · obtain rfl:i=n:=by omega
    have HU2:Hid (U=(0,a,1)):=by show _=_;rw [HU.out,HI.out,HE.out]
    have j1:¬((i:Int)<i):=by omega
    clear HI
    go_wp2_with fail
    go_ret2
    rw [HU2.out]
    exact⟨rfl,HC.out.fr hq.fr,hq.fr.chg _⟩
set_option maxRecDepth 512
def WrB(w:World)(base g:Nat)(T:TypeId)(rest:List Value)(bv:Value)(l:List UInt8):Prop:=
 w.heap[g]?=some (.cells (bv::N l.length::rest).toArray T (0,0))/\Ow w base eB bv (packW l)/\g<base/\IsBits l
def WSt(g:Nat)(bv bv':Value)(w w':World):Prop:=Chg (fun k=>k=g\/bv.ownBlock=some k) w w'/\∀ b,bv'.ownBlock=some b->bv.ownBlock=some b\/w.heap.size<=b
theorem WSt.refl(g:Nat)(bv:Value)(w:World):WSt g bv bv w w:=⟨Chg.refl _ w,fun _ h=>.inl h⟩
theorem WSt.trans{g:Nat}{a b c:Value}{w w1 w2:World}(h:WSt g a b w w1)(k:WSt g b c w1 w2):WSt g a c w w2:=
 ⟨h.1.trans k.1 (fun i hi hk => by
  rcases hk with e | e
  · exact .inl e
  · rcases h.2 i e with h2 | h2
    · exact .inr h2
    · omega), fun i hi => by
  rcases k.2 i hi with e | e
  · exact h.2 i e
  · exact .inr (Nat.le_trans h.1.size e)⟩
theorem WSt.fr{g:Nat}{a b:Value}{w w0 w1:World}(hf:Fr w w0)(h:WSt g a b w0 w1):WSt g a b w w1:=
 ⟨(hf.chg _).trans h.1 (fun _ _ h=>h),fun i hi=>(h.2 i hi).imp id fun e=>Nat.le_trans hf.size e⟩
theorem WSt.heap{g:Nat}{a b:Value}{w w':World}(h:WSt g a b w w'){k:Nat}{o:Obj}(hk:w.heap[k]?=some o)(hg:k≠g)(ha:a.ownBlock≠some k):w'.heap[k]?=some o:=
 h.1.heap hk (fun e=>e.elim hg ha)
theorem and1_u64(y:Nat)(h:y<18446744073709551616):bits .and .u64 (y:Int) 1=((y % 2:Nat):Int):=by
 show IntKind.u64.wrap ((BitVec.ofInt 64 (y:Int) &&& BitVec.ofInt 64 ((1:Nat):Int)).toNat:Int)=_
 rw [BitVec.toNat_and,of_int 64 y (by omega),of_int 64 1 (by omega),Nat.and_one_is_mod]
 simp only [IntKind.wrap,IntKind.bits,IntKind.signed]
 simp
 omega
theorem WrB.drew{w:World}{base g:Nat}{T:TypeId}{rest:List Value}{bv:Value}{l:List UInt8}(h:WrB w base g T rest bv l):WrB w.drew base g T rest bv l:=⟨h.1,h.2.1.drew,h.2.2⟩
def WrR(w:World)(base g:Nat)(T:TypeId)(bv:Value)(l:List UInt8):Prop:=w.heap[g]?=some (.cells #[bv] T (0,0))/\Ow w base eB bv l/\g<base/\IsBits l
theorem WrR.drew{w:World}{base g:Nat}{T:TypeId}{bv:Value}{l:List UInt8}(h:WrR w base g T bv l):WrR w.drew base g T bv l:=⟨h.1,h.2.1.drew,h.2.2⟩
def lowL(x k:Nat):List UInt8:=(List.range k).map fun i=>UInt8.ofNat (x / 2 ^ i % 2)
def partW(l:List UInt8)(q:Nat):Nat->Nat
 | 0=>0
 | t+1=>2*partW l q t+bitD l (8*q+t)
set_option maxRecDepth 100000
theorem RCut_any(v:Value)(l:List UInt8)(w:World)(hs:See w eB v l)(hn:l.length<=1000000) :
  Calls Tryz.prog 25 #[v] w fun e w'=>∃ u,e=.returned (.tuple #[u,.int .i64 (errCut l:Int)])/\Ow w' w.heap.size eB u (cutB l)/\Fr w w':=by
 obtain⟨a0,cap,hv,hc1,hc2,_⟩:=hs.shape
 subst hv
 unfold maxLen at hc2
 by_cases h4:l.length<4
 · have h0:okCut l=false:=by unfold okCut;rw [decide_eq_false (by omega),Bool.false_and]
   have HE:Hid (errCut l=1):=by show _=_;unfold errCut;rw [h0];simp [h4]
   have HC:Hid (cutB l=[]):=by show _=_;unfold cutB;rw [h0];simp
   rw [HC.out,HE.out]
   have hlt:(l.length:Int)<4:=by omega
   clear h0 HE HC
   go_enter Tryz.func25, Tryz.ntmps25
   go_wp2_with fail
   go_ret2
   exact⟨_,rfl,Ow.nil,Fr.refl w⟩
 · obtain⟨n,hn4⟩:∃ n,n=l.length - 4:=⟨_,rfl⟩
   obtain⟨htr,hts⟩:=run_to eB 22 Tryz.underlying22 hs n (by omega)
   have hlen:(l.take n).length=n:=by rw [List.length_take];omega
   have hok:okCut l=decide (putB (l.take n)=l):=by unfold okCut;rw [decide_eq_true (by omega),Bool.true_and,hn4]
   have HP:=hid (fun W (h:Fr w W)=>RPut_any _ (l.take n) W (hts.fr h) (by omega))
   have HS:=hid (fun W v' (h:Fr w W) (h2:See W eB v' (putB (l.take n)))=>RSame1_any v' _ (putB (l.take n)) l W h2 (hs.fr h))
   rw [<- hok]at HS
   have HT:=hid (fun W (h:Fr w W)=>hts.fr h)
   have HE:Hid (errCut l=if okCut l then 0 else 5):=by show _=_;unfold errCut;simp [h4]
   have HC:Hid (cutB l=if okCut l then l.take n else []):=by show _=_;rw [hn4];rfl
   have hw:IntKind.i64.wrap ((l.length:Int) - 4)=(n:Int):=by rw [IntWalk.i64_in _ (by omega)];omega
   have hge:¬(l.length:Int)<4:=by omega
   have HLn:=hid hlen
   have hnb:n<=1000000:=by omega
   rw [HE.out,HC.out]
   clear HE HC hok hs hts hlen hn4 h4
   generalize okCut l=R at *
   generalize putB (l.take n)=B at *
   generalize l.take n=q at *
   go_enter Tryz.func25, Tryz.ntmps25
   go_wp2_with fail
   refine(HP.out _ (Fr.refl w)).mono ?_
   rintro e w1 ⟨v1,rfl,hO1,hf1⟩
   have HS1:=hid (HS.out w1 v1 hf1 hO1.see)
   obtain⟨p1,z1,hq1⟩:=hO1.shape'
   subst hq1
   clear hO1
   go_wp2_with fail
   refine HS1.out.mono ?_
   rintro e w2 ⟨rfl,rfl⟩
   cases R
   · go_wp2_with fail
     go_ret2
     exact⟨_,rfl,Ow.nil,hf1⟩
   · have hl:Ow (w1.alloc (.cells #[] 5)) w.heap.size eB (.slice (some ⟨w1.heap.size,0,none⟩) 0 0) []:=own_lit eB w1 #[] [] 0 rfl (Nat.zero_le _) hf1.size
     have hfa:Fr w (w1.alloc (.cells #[] 5)):=hf1.alloc _
     have hT1:=HT.out _ hfa
     go_wp2_with (at_builtin;refine wpList_app eB rfl (.tmp 16) (.tmp 21) 22 rfl Tryz.underlying22 w.heap.size rfl hl _ _ rfl hT1 ?c1 hfa.size ?_)
     case c1=>rw [HLn.out];simp;omega
     intro v5 w5 hap5
     have hf05:=hap5.below hl hfa (Nat.le_refl _) hfa.size
     have own5:Ow w5 w.heap.size eB v5 q:=by simpa using hap5.own
     obtain⟨p5,z5,hq5⟩:=own5.shape'
     subst hq5
     clear hap5 hl hT1
     go_wp2_with fail
     go_ret2
     exact⟨_,rfl,own5,hf05⟩
theorem RMark_any(v:Value)(l:List UInt8)(w:World)(hs:See w eB v l) :
  Calls Tryz.prog 26 #[v] w fun e w'=>e=.returned (.tuple #[N (markV l).1,.int .i64 ((markV l).2:Int)])/\w=w':=by
 obtain⟨a0,cap,hv,hc1,hc2,_⟩:=hs.shape
 subst hv
 unfold maxLen at hc2
 by_cases h4:l.length<=4
 · have h4':(l.length:Int)<5:=by omega
   have HE:=hid (mark_short l h4)
   generalize markV l=mv at *
   go_enter Tryz.func26, Tryz.ntmps26
   go_wp2_with fail
   go_ret2
   exact⟨by rw [HE.out];rfl,rfl⟩
 · obtain⟨b,off,cp,hv0,c0⟩:=hs.cell1 Fk.u8 rfl 0 (by omega)
   simp only [Value.slice.injEq]at hv0
   obtain⟨rfl,_,rfl⟩:=hv0
   have cN:∀ i (h:i<l.length),w.cell? ⟨b,off+i,none⟩=some (.int .u8 (l[i].toNat:Int)):=fun i h=>by
    obtain⟨b',off',cp',hv',c'⟩:=hs.cell1 Fk.u8 rfl i h
    simp only [Value.slice.injEq,Option.some.injEq,Addr.mk.injEq,and_true]at hv'
    obtain⟨⟨rfl,rfl⟩,_,_⟩:=hv'
    exact c'
   have d0:=cN 0 (by omega)
   have d1:=cN 1 (by omega)
   have d2:=cN 2 (by omega)
   have d3:=cN 3 (by omega)
   have d4:=cN 4 (by omega)
   rw [Nat.add_zero]at d0
   have ht:l.take 4=[l[0]'(by omega),l[1]'(by omega),l[2]'(by omega),l[3]'(by omega)]:=by
    apply List.ext_getElem
    · simp;omega
    · intro i hi1 hi2
      rw [List.getElem_take]
      have:i<4:=by simpa using hi2
      match i,this with
      | 0,_=>rfl
      | 1,_=>rfl
      | 2,_=>rfl
      | 3,_=>rfl
   have HMg:=hid (fun h2=>mark_magic l h4 h2)
   have HMy:=hid (fun h2=>mark_yes l h4 h2)
   have HMn:=hid (fun h2=>mark_no l h4 h2)
   rw [ht]at HMg HMy HMn
   rw [getD_at l 4 0 (by omega)]at HMy HMn
   have i0:¬(l.length:Int)<5:=by omega
   have i1:(0:Int)<l.length:=by omega
   have i2:(1:Int)<l.length:=by omega
   have i3:(2:Int)<l.length:=by omega
   have i4:(3:Int)<l.length:=by omega
   have i5:(4:Int)<l.length:=by omega
   clear cN c0 hs ht
   generalize l[0]'(by omega)=x0 at *
   generalize l[1]'(by omega)=x1 at *
   generalize l[2]'(by omega)=x2 at *
   generalize l[3]'(by omega)=x3 at *
   generalize l[4]'(by omega)=x4 at *
   generalize markV l=mv at *
   by_cases hm:x0=70/\x1=73/\x2=82/\x3=75
   · obtain⟨rfl,rfl,rfl,rfl⟩:=hm
     have e0:w.cell? ⟨b,off,none⟩=some (.int .u8 70):=d0
     have e1:w.cell? ⟨b,off+1,none⟩=some (.int .u8 73):=d1
     have e2:w.cell? ⟨b,off+2,none⟩=some (.int .u8 82):=d2
     have e3:w.cell? ⟨b,off+3,none⟩=some (.int .u8 75):=d3
     clear d0 d1 d2 d3
     by_cases hx:1<=x4.toNat/\x4.toNat<=3
     · have HE:=hid (HMy.out rfl hx)
       have hlo:¬(x4.toNat:Int)<1:=by omega
       have hhi:¬(3:Int)<x4.toNat:=by omega
       generalize x4.toNat=x at *
       go_enter Tryz.func26, Tryz.ntmps26
       go_wp2_with fail
       go_ret2
       exact⟨by rw [HE.out];rfl,rfl⟩
     · have HE:=hid (HMn.out rfl hx)
       generalize x4.toNat=x at *
       by_cases hlo:(x:Int)<1
       · go_enter Tryz.func26, Tryz.ntmps26
         go_wp2_with fail
         go_ret2
         exact⟨by rw [HE.out];rfl,rfl⟩
       · have hhi:(3:Int)<x:=by omega
         go_enter Tryz.func26, Tryz.ntmps26
         go_wp2_with fail
         go_ret2
         exact⟨by rw [HE.out];rfl,rfl⟩
   · have HE:=hid (HMg.out (fun e=>hm (by simpa using e)))
     clear HMg HMy HMn
     by_cases h0:x0=70
     · subst h0
       by_cases h1:x1=73
       · subst h1
         by_cases h2:x2=82
         · subst h2
           by_cases h3:x3=75
           · subst h3
             exact absurd ⟨rfl,rfl,rfl,rfl⟩ hm
           · have hn3:¬(x3.toNat:Int)=75:=fun e=>h3 (UInt8.toNat_inj.1 (by show x3.toNat=75;omega))
             have hb3:((x3.toNat:Int) != 75)=true:=by simpa using hn3
             clear h3
             go_enter Tryz.func26, Tryz.ntmps26
             go_wp2_with fail
             go_ret2
             exact⟨by rw [HE.out];rfl,rfl⟩
         · have hn2:¬(x2.toNat:Int)=82:=fun e=>h2 (UInt8.toNat_inj.1 (by show x2.toNat=82;omega))
           have hb2:((x2.toNat:Int) != 82)=true:=by simpa using hn2
           clear h2
           go_enter Tryz.func26, Tryz.ntmps26
           go_wp2_with fail
           go_ret2
           exact⟨by rw [HE.out];rfl,rfl⟩
       · have hn1:¬(x1.toNat:Int)=73:=fun e=>h1 (UInt8.toNat_inj.1 (by show x1.toNat=73;omega))
         have hb1:((x1.toNat:Int) != 73)=true:=by simpa using hn1
         clear h1
         go_enter Tryz.func26, Tryz.ntmps26
         go_wp2_with fail
         go_ret2
         exact⟨by rw [HE.out];rfl,rfl⟩
     · have hn0:¬(x0.toNat:Int)=70:=fun e=>h0 (UInt8.toNat_inj.1 (by show x0.toNat=70;omega))
       have hb0:((x0.toNat:Int) != 70)=true:=by simpa using hn0
       clear h0
       go_enter Tryz.func26, Tryz.ntmps26
       go_wp2_with fail
       go_ret2
       exact⟨by rw [HE.out];rfl,rfl⟩
theorem RCountB_any(v:Value)(l:List UInt8)(w:World)(hs:See w eB v l)(hn:l.length<=1000000) :
  Calls Tryz.prog 13 #[v] w fun e w'=>e=.returned (.bool (countB l))/\Fr w w':=by
 have HC:=hid (RCut_any v l w hs hn)
 have HM:=hid (fun W (h:Fr w W)=>RMark_any v l W (hs.fr h))
 have HB:Hid (countB l=(okCut l && decide (markV l=(3,0)))):=rfl
 have HZ:=hid (err_zero l)
 obtain⟨a0,cap,hv,_⟩:=hs.shape
 subst hv
 clear hs
 generalize countB l=R at *
 generalize hmv:markV l=mv at *
 obtain⟨ver,er⟩:=mv
 clear hmv
 generalize okCut l=ok at *
 generalize errCut l=ec at *
 generalize cutB l=q at *
 simp only at HM
 go_enter Tryz.func13, Tryz.ntmps13
 go_wp2_with fail
 refine(HC.out).mono ?_
 rintro e w1 ⟨u,rfl,hu,hf1⟩
 obtain⟨p1,z1,hq1⟩:=hu.shape'
 subst hq1
 clear hu
 go_wp2_with fail
 refine(HM.out _ hf1).mono ?_
 rintro e w2 ⟨rfl,rfl⟩
 have hf:=hf1
 by_cases h1:ec=0
 · have hok:=HZ.out.1 h1
   subst hok h1
   by_cases h2:er=0
   · subst h2
     by_cases h3:ver=3
     · subst h3
       have HR:Hid (R=true):=by show _=_;rw [HB.out];rfl
       go_wp2_with fail
       go_ret
       exact⟨by rw [HR.out];rfl,hf⟩
     · have h3':¬(ver:Int)=3:=by omega
       have HR:Hid (R=false):=by show _=_;rw [HB.out,Bool.true_and];exact decide_eq_false (fun e=>h3 (Prod.mk.inj e).1)
       have hb:((ver:Int) == 3)=false:=by simpa using h3'
       clear h3
       go_wp2_with fail
       go_ret
       exact⟨by rw [HR.out];rfl,hf⟩
   · have h2':¬(er:Int)=0:=by omega
     have HR:Hid (R=false):=by show _=_;rw [HB.out,Bool.true_and];exact decide_eq_false (fun e=>h2 (Prod.mk.inj e).2)
     clear h2
     go_wp2_with fail
     go_ret
     exact⟨by rw [HR.out];rfl,hf⟩
 · have hok:ok=false:=by cases ok;rfl;exact absurd (HZ.out.2 rfl) h1
   have h1':¬(ec:Int)=0:=by omega
   have HR:Hid (R=false):=by show _=_;rw [HB.out,hok];rfl
   clear h1
   go_wp2_with fail
   go_ret
   exact⟨by rw [HR.out];rfl,hf⟩
set_option maxRecDepth 512
def prTo(cs:List Nat)(fr:Nat->List UInt8)(k:Nat):List UInt8:=((List.range k).map fun i=>numB (cs.getD i 0)++numB (fr i).length).flatten
theorem prTo_succ(cs:List Nat)(fr:Nat->List UInt8)(k:Nat)(h:k<cs.length):prTo cs fr (k+1)=prTo cs fr k++numB cs[k]++numB (fr k).length:=by
 unfold prTo
 rw [List.range_succ,List.map_append,List.flatten_append]
 simp [h]
def dirL(cs:List Nat)(fr:Nat->List UInt8)(a b:Nat):List UInt8:=(((numB cs.sum++numB cs.length)++prTo cs fr cs.length)++numB a)++numB b
theorem groups_sum_le(cs:List Nat)(k:Nat):(cs.take k).sum<=cs.sum:=by
 conv=>rhs;rw [<- List.take_append_drop k cs]
 rw [List.sum_append];omega
theorem prTo_len(cs:List Nat)(fr:Nat->List UInt8)(b:Nat)(hb:b<1000000)(h:∀ k,(fr k).length<=b)(hc:∀ x∈cs,x<1000000)(k:Nat):(prTo cs fr k).length<=k*20:=by
 unfold prTo
 rw [flat_len]
 refine Nat.le_trans (wtS_le _ 20 _ fun i _=>?_) ?_
 · have h1:=numB_le (fr i).length (by have:=h i;omega)
   have h2:cs.getD i 0<1000000:=by
    by_cases hi:i<cs.length
    · simp only [List.getD_eq_getElem?_getD,List.getElem?_eq_getElem hi]
      exact hc _ (List.getElem_mem hi)
    · simp [List.getD_eq_getElem?_getD,List.getElem?_eq_none (by omega:cs.length<=i)]
   have h3:=numB_le (cs.getD i 0) (by omega)
   show(numB (cs.getD i 0)++numB (fr i).length).length<=20
   rw [List.length_append];omega
 · rw [List.length_range];exact Nat.le_refl _
theorem bcheck_any(o:Opt)(w:World):Calls Tryz.prog 32 #[optV o] w fun e w'=>e=.returned (.int .i64 (if opt2 o then 0 else 9))/\Fr w w':=by
 have HC:=hid (fun W=>OCheck2_any ⟨o.b,o.plain,o.bu,0,0,0⟩ ⟨rfl,rfl,rfl⟩ W)
 have HE:Hid ((if opt2 ⟨o.b,o.plain,o.bu,0,0,0⟩then(0:Int)else 9)=if opt2 o then 0 else 9):=rfl
 rw [HE.out]at HC
 generalize (if opt2 o then(0:Int)else 9)=R at *
 go_enter Tryz.func32, Tryz.ntmps32
 go_wp2_with fail
 refine(HC.out _).mono ?_
 rintro e w1 ⟨rfl,hf1⟩
 go_wp2_with fail
 go_ret
 exact⟨rfl,((Fr.refl w).alloc _).trans hf1⟩
theorem rbcheck_any(o:Opt)(w:World):Calls Tryz.prog 44 #[optV o] w fun e w'=>e=.returned (.int .i64 (if opt2 o then 0 else 9))/\Fr w w':=by
 have HC:=hid (fun W=>ROCheck2_any ⟨o.b,o.plain,o.bu,0,0,0⟩ ⟨rfl,rfl,rfl⟩ W)
 have HE:Hid ((if opt2 ⟨o.b,o.plain,o.bu,0,0,0⟩then(0:Int)else 9)=if opt2 o then 0 else 9):=rfl
 rw [HE.out]at HC
 generalize (if opt2 o then(0:Int)else 9)=R at *
 go_enter Tryz.func44, Tryz.ntmps44
 go_wp2_with fail
 refine(HC.out _).mono ?_
 rintro e w1 ⟨rfl,hf1⟩
 go_wp2_with fail
 go_ret
 exact⟨rfl,((Fr.refl w).alloc _).trans hf1⟩
theorem numAt{w:World}{v:Value}{l:List Nat}(h:See w eJ v l)(k:Nat)(hk:k<l.length):∃ b off cap,v=.slice (some ⟨b,off,none⟩) l.length cap/\w.cell? ⟨b,off+k,none⟩=some (N l[k]):=h.cell1 N rfl k hk
theorem sum_snoc(l:List Nat)(k:Nat)(h:k<l.length):(l.take (k+1)).sum=(l.take k).sum+l[k]:=by
 rw [List.take_succ_eq_append_getElem h,List.sum_append];simp
theorem bsum_any(v:Value)(l:List Nat)(w:World)(hs:See w eJ v l)(hl:l.length<=1000000)(hb:l.sum<=1000000000) :
  Calls Tryz.prog 81 #[v] w fun e w'=>e=.returned (N l.sum)/\w=w':=by
 have HS:=hid (fun k hk=>numAt hs k hk)
 have HTk:=hid (groups_sum_le l)
 have HSn:=hid (sum_snoc l)
 have HAl:Hid ((l.take l.length).sum=l.sum):=by show _=_;rw [List.take_length]
 obtain⟨a0,cap,hv,hcap1,hcap2,hnone⟩:=hs.shape
 subst hv
 unfold maxLen at hcap2
 generalize l.sum=T at *
 go_enter Tryz.func81, Tryz.ntmps81
 go_wp2_with fail
 go_loopw [3,8] (fun sv iv wr=>∃ k:Nat,k<=l.length/\iv=N k/\sv=N (l.take k).sum/\w=wr) (fun _ iv _=>l.length - (intOf iv).toNat)
 case atStart=>exact⟨0,Nat.zero_le _,rfl,by simp,rfl⟩
 case round=>
  obtain⟨k,hk,rfl,rfl,rfl⟩:=hrel
  have h1:=HTk.out k
  by_cases hlt:k<l.length
  · obtain⟨b,off,cap',hv,c0⟩:=HS.out k hlt
    cases hv
    have HN:=hid (HSn.out k hlt)
    have h2:=HTk.out (k+1)
    generalize hm2:(l.take (k+1)).sum=m2 at *
    have HM2:=hid hm2
    clear hm2
    generalize (l.take k).sum=m at *
    generalize l[k]=x at *
    have h3:m2=m+x:=HN.out
    have i1:(0:Int)<=k:=by omega
    have i2:(k:Int)<l.length:=by omega
    have HH:=hid h3
    clear h3
    have hw:IntKind.i64.wrap ((m:Int)+x)=(m:Int)+x:=IntWalk.i64_in _ (by have:=HH.out;omega)
    go_wp2_with fail
    exact⟨⟨k+1,by omega,by go_num,by rw [HM2.out,HH.out];go_num,by first | rfl | trivial⟩,by simp [intOf];omega⟩
  · obtain rfl:k=l.length:=by omega
    have hnl:¬(l.length:Int)<l.length:=by omega
    rw [HAl.out]
    go_wp2_with fail
    go_ret
    exact⟨rfl,rfl⟩
def szL(fr:Nat->List UInt8)(k:Nat):List Nat:=(List.range k).map fun i=>(fr i).length
set_option maxRecDepth 100000
theorem dbytes_any (g : Nat) (cv sv : Value) (cs : List Nat) (fr : Nat → List UInt8) (a b : Nat) (w : World) (hg : w.heap[g]? = some (.cells #[cv, sv, N a, N b] 62 (0, 0))) (hc : See w eJ cv cs) (hs : See w eJ sv (szL fr cs.length))
    (hl:cs.length<=60) (hsum:cs.sum<=60) (hfr:∀ k,(fr k).length<=6025) (ha:a<=1000000) (hb:b<=1000000) :
    Calls Tryz.prog 59 #[.pointer (some ⟨g,0,none⟩)] w fun e w'=>∃ u,e=.returned u/\Ow w' w.heap.size eB u (dirL cs fr a b)/\Fr w w':=by
  have HNm:=hid (fun n (h:n<18446744073709551616) W=>Num_any n h W)
  have HSu:=hid (fun W (h:See W eJ cv cs)=>bsum_any cv cs W h (by omega) (by omega))
  have hcx:∀ x∈cs,x<=60:=fun x hx=>by
    obtain⟨i,hi,rfl⟩:=List.mem_iff_getElem.1 hx
    have h1:=groups_sum_le cs (i+1)
    rw [sum_snoc cs i hi]at h1
    omega
  have HCx:=hid hcx
  have HPl:=hid (fun k=>prTo_len cs fr 6025 (by omega) hfr (fun x hx=>by have:=hcx x hx;omega) k)
  have HSn:=hid (fun k h=>prTo_succ cs fr k h)
  have HD:Hid (dirL cs fr a b=(((numB cs.sum++numB cs.length)++prTo cs fr cs.length)++numB a)++numB b):=rfl
  have HP0:Hid (prTo cs fr 0=[]):=rfl
  have HFr:=hid hfr
  have HSz:Hid (∀ k (h:k<cs.length) (h2:k<(szL fr cs.length).length),(szL fr cs.length)[k]=(fr k).length):=fun k h h2=>by simp [szL]
  have hszl:(szL fr cs.length).length=cs.length:=by simp [szL]
  have HC:=hid (fun W (h:Fr w W) k hk=>numAt (hc.fr h) k hk)
  have HS:=hid (fun W (h:Fr w W) k hk=>numAt (hs.fr h) k hk)
  have HCs:=hid (fun W (h:Fr w W)=>hc.fr h)
  have HSl:=hid hszl
  obtain⟨ca,cc,hcv,_⟩:=hc.shape
  subst hcv
  obtain⟨sa,sc,hsv,_⟩:=hs.shape
  rw [hszl]at hsv
  subst hsv
  have HG:=hid (fun W (h:Fr w W)=>h.heap hg)
  clear hc hs hcx hfr hszl
  generalize hT:dirL cs fr a b=T at *
  clear hT
  have x0:w.cell? ⟨g,0,none⟩=some (.slice ca cs.length cc):=by rw [cell_of_heap hg];rfl
  have hn1:=numB_le cs.sum (by omega)
  have hn2:=numB_le cs.length (by omega)
  have HN1:=hid (HNm.out cs.sum (by omega))
  have HN2:=hid (HNm.out cs.length (by omega))
  have hA1:=fun W va vb sa sb=>all2_any va vb (numB cs.sum) (numB cs.length) W sa sb (by omega)
  have HA1:=hid hA1
  have HA0:Hid (∀ m,m=(numB cs.sum++numB cs.length)->m.length<=20):=fun m h=>by rw [h,List.length_append];omega
  clear hA1
  generalize cs.sum=S0 at *
  have hw1:IntKind.u64.wrap (S0:Int)=(S0:Int):=IntWalk.u64_in _ (by omega)
  have hw2:IntKind.u64.wrap (cs.length:Int)=(cs.length:Int):=IntWalk.u64_in _ (by omega)
  go_enter Tryz.func59, Tryz.ntmps59
  go_upto_region 1 with fail
  go_region_held3 (fun w' => w'.cell? ⟨g, 0, none⟩ = some (.slice ca cs.length cc))
    (first | go_keep)
    ((first
      | (go_at_call 81; refine (HSu.out _ (HCs.out _ (Fr.refl w).drew)).mono ?_; rintro e w1 ⟨rfl, rfl⟩)
      | (go_at_call_of 103 (Value.int IntKind.u64 (S0 : Int)); refine (HN1.out _).mono ?_; rintro e w2 ⟨v2, rfl, hO2, hf2⟩; obtain ⟨p2, z2, hq2⟩ := hO2.shape'; subst hq2; have y0 := hf2.cell x0)
      | (go_at_call_of 103 (Value.int IntKind.u64 (cs.length : Int)); refine (HN2.out _).mono ?_; rintro e w3 ⟨v3, rfl, hO3, hf3⟩; obtain ⟨p3, z3, hq3⟩ := hO3.shape'; subst hq3; have z0 := hf3.cell y0)
      | (go_at_call 61; refine (HA1.out _ _ _ (hO2.fr hf3).see hO3.see).mono ?_; rintro e w4 ⟨v4, rfl, hO4, hf4⟩; have u0 := hf4.cell z0)))
  have hf04:Fr w w4:=(Fr.refl w).drew.trans (hf2.trans (hf3.trans hf4))
  obtain⟨m0,hm0⟩:∃ m0,m0=numB S0++numB cs.length:=⟨_,rfl⟩
  have hml:=HA0.out m0 hm0
  rw [<- hm0]at hO4 HD
  have hO4':Ow w4 w.heap.size eB v4 m0:=by exact hO4.rebase (by have:=((Fr.refl w).drew.trans (hf2.trans hf3)).size;exact this)
  clear hm0 HA0 HA1 HN1 HN2 HSu hO2 hO3 hO4 hf2 hf3 hf4 x0 y0 z0 hn1 hn2 hw1
  have c4:w4.cell? ⟨g,0,none⟩=some (.slice ca cs.length cc):=u0
  clear u0
  obtain⟨p4,z4,hq4⟩:=hO4'.shape'
  subst hq4
  go_wp2_with fail
  go_loopw [3,27] (fun ov iv wr=>∃ k:Nat,k<=cs.length/\iv=N k/\Ow wr w.heap.size eB ov (m0++prTo cs fr k)/\Fr w wr) (fun _ iv _=>cs.length - (intOf iv).toNat)
  case atStart=>exact⟨0,Nat.zero_le _,rfl,by rw [HP0.out,List.append_nil];exact hO4',hf04⟩
  case round=>
    clear hO4' hf04 c4
    obtain⟨k,hk,rfl,hO,hf⟩:=hrel
    have hgr:=HG.out wr hf
    have hpl:=HPl.out k
    by_cases hlt:k<cs.length
    · have x1:wr.cell? ⟨g,1,none⟩=some (.slice sa cs.length sc):=by rw [cell_of_heap hgr];rfl
      obtain⟨b1,off1,cap1,hv1,d1⟩:=HC.out wr hf k hlt
      cases hv1
      obtain⟨b2,off2,cap2,hv2,d2⟩:=HS.out wr hf k (by rw [HSl.out];exact hlt)
      rw [HSl.out]at hv2
      cases hv2
      rw [HSz.out k hlt]at d2
      have hxk:=HCx.out _ (List.getElem_mem hlt)
      have hfk:=HFr.out k
      have HN:=hid (HSn.out k hlt)
      have hpl2:=HPl.out (k+1)
      generalize hm2:prTo cs fr (k+1)=q2 at *
      have HM2:=hid hm2
      clear hm2
      generalize prTo cs fr k=q at *
      generalize cs[k]=x at *
      generalize (fr k).length=y at *
      have HN1:=hid (HNm.out x (by omega))
      have HN2:=hid (HNm.out y (by omega))
      have hn1:=numB_le x (by omega)
      have hn2:=numB_le y (by omega)
      have hkl:k*20<=60*20:=Nat.mul_le_mul_right _ (by omega)
      obtain⟨om,hom⟩:∃ om,om=m0++q:=⟨_,rfl⟩
      rw [<- hom]at hO
      have hol:om.length<=1300:=by rw [hom,List.length_append];omega
      have HOm:=hid hom
      have HA1:=hid (fun W va vb vc sa sb sc=>all3_any va vb vc om (numB x) (numB y) W sa sb sc (by omega))
      clear hom hpl hpl2 hkl
      have hw1:IntKind.u64.wrap (x:Int)=(x:Int):=IntWalk.u64_in _ (by omega)
      have hw3:IntKind.u64.wrap (y:Int)=(y:Int):=IntWalk.u64_in _ (by omega)
      have i1:(0:Int)<=k:=by omega
      have i2:(k:Int)<cs.length:=by omega
      obtain⟨oa,oc,hov⟩:=hO.shape'
      subst hov
      go_upto_region 5 with fail
      go_region_held3 (fun w' => w'.cell? ⟨g, 1, none⟩ = some (.slice (some ⟨b2, off2, none⟩) cs.length sc) ∧ w'.cell? ⟨b2, off2 + k, none⟩ = some (N y))
        (first | go_keep)
        ((first
          | (go_at_call_of 103 (Value.int IntKind.u64 (x : Int)); refine (HN1.out _).mono ?_; rintro e w2 ⟨v2, rfl, hO2, hf2⟩; obtain ⟨p2, z2, hq2⟩ := hO2.shape'; subst hq2; have y0 := hf2.cell x1; have y1 := hf2.cell d2)
          | (go_at_call_of 103 (Value.int IntKind.u64 (y : Int)); refine (HN2.out _).mono ?_; rintro e w3 ⟨v3, rfl, hO3, hf3⟩; obtain ⟨p3, z3, hq3⟩ := hO3.shape'; subst hq3; have z0 := hf3.cell y0; have z1 := hf3.cell y1)
          | (go_at_call 61; refine (HA1.out _ _ _ _ (hO.see.fr ((Fr.refl wr).drew.trans (hf2.trans hf3))) (hO2.fr hf3).see hO3.see).mono ?_; rintro e w4 ⟨v4, rfl, hO4, hf4⟩; have u0 := hf4.cell z0; have u1 := hf4.cell z1)))
      have hf4':Fr w w3:=hf.trans ((Fr.refl wr).drew.trans (hf2.trans hf3))
      have hfin:=hf4'.trans hf4
      have hO4':=hO4.rebase hf4'.size
      obtain⟨p4,z4,hq4⟩:=hO4'.shape'
      subst hq4
      clear x1 d1 d2 y0 y1 z0 z1 u0 u1 hO2 hO3 hO4 hO hf2 hf3 hf4 hf4' hgr
      go_wp2_with fail
      go_roundw
      case rel=>exact⟨k+1,by omega,by go_num,by rw [HM2.out,HN.out,<- List.append_assoc,<- List.append_assoc,<- HOm.out];exact hO4',hfin⟩
      case measure=>simp [intOf];omega
    · obtain rfl:k=cs.length:=by omega
      have hnl:¬(cs.length:Int)<cs.length:=by omega
      have x2:wr.cell? ⟨g,2,none⟩=some (N a):=by rw [cell_of_heap hgr];rfl
      have x3:wr.cell? ⟨g,3,none⟩=some (N b):=by rw [cell_of_heap hgr];rfl
      obtain⟨om,hom⟩:∃ om,om=m0++prTo cs fr cs.length:=⟨_,rfl⟩
      rw [<- hom]at hO HD
      have hol:om.length<=1300:=by rw [hom,List.length_append];have:cs.length*20<=60*20:=Nat.mul_le_mul_right _ hl;omega
      have HN1:=hid (HNm.out a (by omega))
      have HN2:=hid (HNm.out b (by omega))
      have hn1:=numB_le a (by omega)
      have hn2:=numB_le b (by omega)
      have HA1:=hid (fun W va vb vc sa sb sc=>all3_any va vb vc om (numB a) (numB b) W sa sb sc (by omega))
      rw [<- HD.out]at HA1
      clear hom hpl
      have hw1:IntKind.u64.wrap (a:Int)=(a:Int):=IntWalk.u64_in _ (by omega)
      have hw3:IntKind.u64.wrap (b:Int)=(b:Int):=IntWalk.u64_in _ (by omega)
      obtain⟨oa,oc,hov⟩:=hO.shape'
      subst hov
      go_upto_region 7 with fail
      go_region_held3 (fun w' => w'.cell? ⟨g, 2, none⟩ = some (N a) ∧ w'.cell? ⟨g, 3, none⟩ = some (N b))
        (first | go_keep)
        ((first
          | (go_at_call 103; refine (HN1.out _).mono ?_; rintro e w2 ⟨v2, rfl, hO2, hf2⟩; obtain ⟨p2, z2, hq2⟩ := hO2.shape'; subst hq2; have y0 := hf2.cell x2; have y1 := hf2.cell x3; clear HN1)
          | (go_at_call 103; refine (HN2.out _).mono ?_; rintro e w3 ⟨v3, rfl, hO3, hf3⟩; obtain ⟨p3, z3, hq3⟩ := hO3.shape'; subst hq3; have z0 := hf3.cell y0; have z1 := hf3.cell y1)
          | (go_at_call 61; refine (HA1.out _ _ _ _ (hO.see.fr ((Fr.refl wr).drew.trans (hf2.trans hf3))) (hO2.fr hf3).see hO3.see).mono ?_; rintro e w4 ⟨v4, rfl, hO4, hf4⟩; have u0 := hf4.cell z0; have u1 := hf4.cell z1)))
      have hf4':Fr w w3:=hf.trans ((Fr.refl wr).drew.trans (hf2.trans hf3))
      go_wp2_with fail
      go_ret
      exact⟨_,rfl,hO4.rebase hf4'.size,hf4'.trans hf4⟩
set_option maxRecDepth 512
end Go.Proofs.YtijghcbpfcjjnaaGreatDoor
