/- Parts of the proof of ThreeOpens: T4 Mr2. -/
import Derived.Test.YtijghcbpfcjjnaaGreatDoorM10
import Derived.Test.YtijghcbpfcjjnaaGreatDoorM31
import Derived.Test.YtijghcbpfcjjnaaGreatDoorM15
import Derived.Test.YtijghcbpfcjjnaaGreatDoorM29
set_option linter.unusedVariables false
set_option linter.unusedSectionVars false
set_option linter.unusedSimpArgs false
set_option maxHeartbeats 8000000
namespace Go.Proofs.YtijghcbpfcjjnaaGreatDoor
open Go.RowKit Go.Fk
structure RdAt (w:World) (B base k m c:Nat) (ov:Value) (out:List UInt8) (bv:Value) (bad:List Nat) (n:Nat):Prop where
 h:w.heap[B]?=some (.cells #[N k,N m,N c,ov,bv,N n] 130 (0,0))
 o:Ow w base eB ov out
 b:Ow w base eJ bv bad
theorem RdAt.fr{w w':World}{B base k m c n:Nat}{ov bv:Value}{out:List UInt8}{bad:List Nat}(h:RdAt w B base k m c ov out bv bad n)(hf:Fr w w'):RdAt w' B base k m c ov out bv bad n:=⟨hf.heap h.h,h.o.fr hf,h.b.fr hf⟩
set_option maxRecDepth 100000
theorem part_any(B base k m c n:Nat)(ov bv v:Value)(out l:List UInt8)(bad:List Nat)(w:World)(hR:RdAt w B base k m c ov out bv bad n)(hs:See w eB v l)(h4:4<=l.length)(hl:l.length<=5000)(hn:n<=100000)(hbl:bad.length<=100000)(hb:base<=w.heap.size)(ht:Crc w) :
  Calls Tryz.prog 123 #[.pointer (some ⟨B,0,none⟩),v] w fun e w'=>∃ u,e=.returned (.tuple #[u,.bool (okCut l)])/\Ow w' w.heap.size eB u (cutB l)/\∃ bv',RdAt w' B base k m c ov out bv' (if okCut l then bad else bad++[n]) (n+1)/\Chg (fun k=>k=B\/bv.ownBlock=some k) w w'/\(∀ b,bv'.ownBlock=some b->bv.ownBlock=some b\/w.heap.size<=b):=by
 have HC:=hid (Cut_any v l w hs (by omega) ht)
 have HE:Hid (errCut l=if okCut l then 0 else 5):=by show _=_;unfold errCut;simp [show ¬l.length<4 by omega]
 rw [HE.out]at HC
 obtain⟨h0,ho,hbad⟩:=hR
 have hBo:ov.ownBlock≠some B:=ho.ne_cells h0 (by decide)
 have hBb:bv.ownBlock≠some B:=hbad.ne_cells h0 (by decide)
 have hbB:bv.ownBlock=none\/bv.ownBlock≠ov.ownBlock:=own_ne hbad ho (by decide)
 obtain⟨pa,pc,hpv⟩:=hbad.shape'
 subst hpv
 clear HE
 generalize cutB l=q at *
 generalize okCut l=ok at *
 go_enter Tryz.func123, Tryz.ntmps123
 go_wp2_with fail
 refine(HC.out).mono ?_
 rintro e w1 ⟨u,rfl,hu,hf1⟩
 have h1:=hf1.heap h0
 have ho1:=ho.fr hf1
 have hb1:=hbad.fr hf1
 have hs1:base<=w1.heap.size:=Nat.le_trans hb hf1.size
 have c2:w1.cell? ⟨B,4,none⟩=some (.slice pa bad.length pc):=by rw [cell_of_heap h1];rfl
 have c3:w1.cell? ⟨B,5,none⟩=some (N n):=by rw [cell_of_heap h1];rfl
 have z2:=frozen_of_heap h1 4
 have hbw:∀ i,(Value.slice pa bad.length pc).ownBlock=some i->i<w.heap.size:=fun i hi=>(hbad.lt i hi).2
 have hBw:B<w.heap.size:=(Array.getElem?_eq_some_iff.1 h0).1
 clear HC h0 ho hbad hs ht
 go_upto_if 14 with fail
 go_cut []from 13 to 28 (fun wx=>∃ bv',wx.heap[B]?=some (.cells #[N k,N m,N c,ov,bv',N n] 130 (0,0))/\Ow wx base eJ bv' (if ok then bad else bad++[n])/\Chg (fun k=>k=B\/(Value.slice pa bad.length pc).ownBlock=some k) w1 wx/\(∀ b,bv'.ownBlock=some b->(Value.slice pa bad.length pc).ownBlock=some b\/w1.heap.size<=b))
 case first=>
  cases ok
  · have HC1:Hid (bad.length+[n].length<=2147483648):=by show _<=_;simp;omega
    have hD:=hb1.drew
    have HSZ:Hid (base<=w1.drew.heap.size):=hs1
    have hgb:∀ i,(Value.slice pa bad.length pc).ownBlock=some i->base<=i:=fun i hi=>(hb1.lt i hi).1
    have hfa:Fr w1 (w1.alloc (.cells #[N n] 3)):=(Fr.refl w1).alloc _
    have c2a:=hfa.cell c2
    have c3a:=hfa.cell c3
    clear ho1 hfa
    go_upto_region 3 with fail
    go_region_law (refine step_app1d eJ rfl (.tmp 19) (.tmp 24) 30 rfl Tryz.underlying30 base rfl hD [n] _ _ _ rfl rfl rfl HC1.out HSZ.out ?_
                   intro v' w4 hap
                   have own4 := hap.own
                   have HA4 : Hid (Chg (fun k => (Value.slice pa bad.length pc).ownBlock = some k) w1 w4) := hap.chg'
                   have HN4 : Hid (∀ b, v'.ownBlock = some b → (Value.slice pa bad.length pc).ownBlock = some b ∨ w1.heap.size ≤ b) := hap.fresh
                   have k0 := hap.chg'.heap (show w1.drew.heap[B]? = _ from h1) hBb
                   have e3 : w4.cell? ⟨B, 4, none⟩ = some (.slice pa bad.length pc) := by rw [cell_of_heap k0]; rfl
                   have e4 : w4.frozen? ⟨B, 4, none⟩ = false := frozen_of_heap k0 4
                   clear hap
                   obtain ⟨va, vc, hv'⟩ := own4.shape'
                   subst hv')
    all_goals go_wp2_with fail
    all_goals go_meet
    all_goals refine⟨.slice va (bad.length+1) vc,?_,?_,(HA4.out.mono (fun k _ h=>Or.inr h)).trans (setCell_chg w4 ⟨B,4,none⟩ _) (fun k _ h=>Or.inl h),fun b hb=>HN4.out b (by simpa using hb)⟩
    all_goals first
     | (have hk:=heap_setCell_own k0 4 (.slice va (bad.length+1) vc);simpa using hk)
     | (have ho9:=own4.chg (setCell_chg w4 ⟨B,4,none⟩ (.slice va (bad.length+1) vc)) (fun k hk e=>(own4.ne_cells k0 (by decide)) (by rw [hk,show k=B from e]));simpa using ho9)
  · go_wp2_with fail
    go_meet
    exact⟨_,h1,hb1,Chg.refl _ _,fun b h=>.inl h⟩
 case rest=>
  obtain⟨bv',h2,hb2,hc2,hn2⟩:=hcut
  have hf1s:=hf1.size
  have hcw:∀ i,(i=B\/(Value.slice pa bad.length pc).ownBlock=some i)->i<w.heap.size:=fun i e=>by
   rcases e with e | e
   · rw [e];exact hBw
   · exact hbw i e
  have hu2:=hu.chg hc2 (fun i hi e=>by have h8:=(hu.lt i hi).1;have h9:=hcw i e;omega)
  have ho2 := ho1.chg hc2 (fun i hi e => by
   rcases e with e | e
   · exact hBo (by rw [hi, e])
   · rcases hbB with h | h
     · rw [h] at e; cases e
     · exact h (e.trans hi.symm))
  obtain⟨ua,uc,hu9⟩:=hu2.shape'
  subst hu9
  have d5:wc.cell? ⟨B,5,none⟩=some (N n):=by rw [cell_of_heap h2];rfl
  have z5:=frozen_of_heap h2 5
  have hst:=setCell_chg wc ⟨B,5,none⟩ (.int .i64 ((n:Int)+1))
  have h3:=heap_setCell_own h2 5 (.int .i64 ((n:Int)+1))
  have hBu:(Value.slice ua q.length uc).ownBlock≠some B:=hu2.ne_cells h2 (by decide)
  have hBb2:bv'.ownBlock≠some B:=hb2.ne_cells h2 (by decide)
  have hu3:=hu2.chg hst (fun i hi e=>hBu (by rw [hi,show i=B from e]))
  have ho3:=ho2.chg hst (fun i hi e=>hBo (by rw [hi,show i=B from e]))
  have hb3:=hb2.chg hst (fun i hi e=>hBb2 (by rw [hi,show i=B from e]))
  clear hu hu2 ho1 ho2 hb1 hb2 h1 c2 c3 z2
  cases ok
  · go_wp2_with fail
    go_ret2
    exact⟨_,rfl,hu3,bv',⟨h3,ho3,hb3⟩,((hf1.chg _).trans hc2 (fun _ _ h=>h)).trans hst (fun _ _ h=>.inl h),fun b hb=>(hn2 b hb).imp id (fun h=>by omega)⟩
  · go_wp2_with fail
    go_ret2
    exact⟨_,rfl,hu3,bv',⟨h3,ho3,hb3⟩,((hf1.chg _).trans hc2 (fun _ _ h=>h)).trans hst (fun _ _ h=>.inl h),fun b hb=>(hn2 b hb).imp id (fun h=>by omega)⟩
set_option maxRecDepth 512
set_option maxRecDepth 100000
theorem RStack_any(k m b c1 c2:Nat)(a1 a2:Option Addr)(l1 l2:List UInt8)(w:World)
  (hb:w.heap[b]?=some (.cells #[N k,N k,.slice a1 (k*k) c1,N m,N k,.slice a2 (m*k) c2] 175 (0,0)))
  (hs1:See w eB (.slice a1 (k*k) c1) l1) (hs2:See w eB (.slice a2 (m*k) c2) l2) (hl1:l1.length=k*k) (hl2:l2.length=m*k) (hk:1<=k) (hkm:k+m<=255) :
  Calls Tryz.prog 142 #[.slice (some ⟨b,0,none⟩) 2 2] w fun e w'=>∃ u,e=.returned (.tuple #[.agg #[N (k+m),N k,u],.int .i64 0])/\Ow w' w.heap.size eB u (l1++l2)/\Fr w w':=by
 have hkk:k*k<=255*255:=Nat.mul_le_mul (by omega) (by omega)
 have hmk:m*k<=255*255:=Nat.mul_le_mul (by omega) (by omega)
 have M1:=hid (RMMay_any k k a1 c1 (by omega) (by omega))
 have M2:=hid (RMMay_any m k a2 c2 (by omega) (by omega))
 have HL1:=hid hl1
 have HL2:=hid hl2
 clear hl1 hl2
 generalize k*k=kk at *
 generalize m*k=mk at *
 have q0:w.cell? ⟨b,0,none⟩=some (N k):=by rw [cell_of_heap hb];rfl
 have q1:w.cell? ⟨b,1,none⟩=some (N k):=by rw [cell_of_heap hb];rfl
 have q2:w.cell? ⟨b,2,none⟩=some (.slice a1 kk c1):=by rw [cell_of_heap hb];rfl
 have q3:w.cell? ⟨b,3,none⟩=some (N m):=by rw [cell_of_heap hb];rfl
 have q4:w.cell? ⟨b,4,none⟩=some (N k):=by rw [cell_of_heap hb];rfl
 have q5:w.cell? ⟨b,5,none⟩=some (.slice a2 mk c2):=by rw [cell_of_heap hb];rfl
 obtain⟨km,hkm9⟩:∃ q,q=k+m:=⟨_,rfl⟩
 rw [<- hkm9]
 have hw9:IntKind.i64.wrap ((k:Int)+m)=(km:Int):=by rw [show(k:Int)+m=(km:Int) by omega];exact wrap_i64 _ (by omega)
 have hk255:¬(255:Int)<k:=by omega
 have hkm255:¬(255:Int)<km:=by omega
 have hkm1:k+m<=255:=hkm
 have hk0w:IntKind.i64.wrap (k:Int)=(k:Int):=wrap_i64 _ (by omega)
 clear hb hkm9 hkm
 go_enter Tryz.func142, Tryz.ntmps142
 have hb0:((w.alloc (.cells #[.int .i64 0,.int .i64 0,.slice none 0 0] 175)).alloc (.cells #[.int .i64 0,N k,.slice none 0 0] 175)).heap[w.heap.size]?=some (.cells #[.int .i64 0,.int .i64 0,.slice none 0 0] 175 (0,0)):=by
  rw [heap_old _ _ _ (by simp),heap_new _ _ _ rfl]
 have hb1:((w.alloc (.cells #[.int .i64 0,.int .i64 0,.slice none 0 0] 175)).alloc (.cells #[.int .i64 0,N k,.slice none 0 0] 175)).heap[w.heap.size+1]?=some (.cells #[.int .i64 0,N k,.slice none 0 0] 175 (0,0)):=heap_new _ _ _ (by simp)
 have hf0:Fr w ((w.alloc (.cells #[.int .i64 0,.int .i64 0,.slice none 0 0] 175)).alloc (.cells #[.int .i64 0,N k,.slice none 0 0] 175)):=((Fr.refl w).alloc _).alloc _
 have hs0:((w.alloc (.cells #[.int .i64 0,.int .i64 0,.slice none 0 0] 175)).alloc (.cells #[.int .i64 0,N k,.slice none 0 0] 175)).heap.size=w.heap.size+2:=by simp
 have q1a:(w.alloc (.cells #[.int .i64 0,.int .i64 0,.slice none 0 0] 175)).cell? ⟨b,1,none⟩=some (N k):=((Fr.refl w).alloc _).cell q1
 go_upto_region 5 with fail
 clear q1a
 generalize (w.alloc (.cells #[.int .i64 0,.int .i64 0,.slice none 0 0] 175)).alloc (.cells #[.int .i64 0,N k,.slice none 0 0] 175)=w0 at *
 generalize hg:w.heap.size=g at *
 go_loopw [5] (fun iv wr=>∃ (i r:Nat) (sv:Value) (L:List UInt8),iv=N i/\Hid ((i=0/\r=0/\L=[])\/(i=1/\r=k/\L=l1)\/(i=2/\r=km/\L=l1++l2))/\wr.heap[g]?=some (.cells #[.int .i64 0,.int .i64 0,.slice none 0 0] 175 (0,0))/\wr.heap[g+1]?=some (.cells #[N r,N k,sv] 175 (0,0))/\Ow wr (g+2) eB sv L/\Fr w wr/\g+2<=wr.heap.size) (fun iv _=>2 - (intOf iv).toNat)
 case atStart=>exact⟨0,0,_,[],rfl,.inl ⟨rfl,rfl,rfl⟩,hb0,hb1,Ow.nil,hf0,by omega⟩
 case round=>
  clear hb0 hb1 hf0 hs0
  obtain⟨i,r,sv,L,rfl,HH,h0,h1,hown,hf,hs⟩:=hrel
  have p0:=hf.cell q0
  have p1:=hf.cell q1
  have p2:=hf.cell q2
  have p3:=hf.cell q3
  have p4:=hf.cell q4
  have p5:=hf.cell q5
  have hneq:∀ q,sv.ownBlock=some q->g+2<=q:=fun q hq=>(hown.lt q hq).1
  rcases HH.out with⟨rfl,rfl,rfl⟩ | ⟨rfl,hr,hL⟩ | ⟨rfl,hr,rfl⟩
  · have f0:wr.cell? ⟨g+1,0,none⟩=some (.int .i64 0):=by rw [cell_of_heap h1];rfl
    have f1:wr.cell? ⟨g+1,1,none⟩=some (N k):=by rw [cell_of_heap h1];rfl
    go_upto_region 7 with fail
    go_region_held3 (fun w' => w'.cell? ⟨g + 1, 0, none⟩ = some (.int .i64 0) ∧ w'.cell? ⟨g + 1, 1, none⟩ = some (N k) ∧ w'.cell? ⟨b, 0, none⟩ = some (N k) ∧ w'.cell? ⟨b, 1, none⟩ = some (N k) ∧ w'.cell? ⟨b, 2, none⟩ = some (.slice a1 kk c1))
     (first | go_keep)
     ((first
      | (go_at_call 196; refine (M1.out _).mono ?_; rintro e U ⟨rfl, hfU⟩; have f0 := hfU.cell f0; have f1 := hfU.cell f1; have p0 := hfU.cell p0; have p1 := hfU.cell p1; have p2 := hfU.cell p2)))
    have hfU:=(Fr.refl wr).drew.trans hfU
    have h1U:=hfU.heap h1
    have h0U:=hfU.heap h0
    have hoU:=hown.fr hfU
    have hfwU:=hf.trans hfU
    have hsU:g+2<=U.heap.size:=by have:=hfU.size;omega
    have g0:=frozen_of_heap h1U 0
    clear hfU h1 h0 hown hf hs
    go_wp2_with fail
    go_cut []from 49 to 58 (fun wx=>wx.heap[g]?=some (.cells #[.int .i64 0,.int .i64 0,.slice none 0 0] 175 (0,0))/\wx.heap[g+1]?=some (.cells #[(N k),N k,sv] 175 (0,0))/\Ow wx (g+2) eB sv ([]:List UInt8)/\Fr w wx/\g+2<=wx.heap.size)
    case first=>
     go_region
     all_goals go_wp2_with fail
     all_goals go_meet
     have hst:=setCell_chg U ⟨g+1,0,none⟩ (N k)
     exact⟨hst.heap h0U (fun e=>by have e:g=g+1:=e;omega),heap_setCell_own h1U 0 _,(hoU.chg hst (fun k hk e=>by have e:k=g+1:=e;have:=hneq k hk;omega)).drew,Fr.drew (Chg.below hfwU hst (by rw [hg];omega) (fun i e=>by have e:i=g+1:=e;rw [hg];omega)),by simp [World.setCell];omega⟩
    case rest=>
     obtain⟨h0X,h1X,hoX,hfX,hsX⟩:=hcut
     clear h1U h0U hoU hfwU hsU g0 f0 f1 p0 p1 p2 p3 p4 p5
     have f2:wc.cell? ⟨g+1,2,none⟩=some sv:=by rw [cell_of_heap h1X];rfl
     have p2:=hfX.cell q2
     have hsD:=(hs1.fr hfX).drew
     have hoD:=hoX.drew
     have HC1:Hid (([]:List UInt8).length+l1.length<=2147483648):=by show _<=_;first | (rw [HL1.out];simp;omega) | (rw [HL1.out,HL2.out];omega)
     go_upto_region 10 with fail
     go_region_law (refine step_app eB rfl (.tmp 59) (.tmp 64) 22 rfl Tryz.underlying22 (g + 2) rfl hoD _ _ rfl hsD HC1.out hsX ?_
                    intro v' w4 hap
                    have own4 := hap.own
                    obtain ⟨q9, hq9⟩ : ∃ q, q = l1 := ⟨_, rfl⟩
                    have own4 : Ow w4 (g + 2) eB v' q9 := by rw [hq9]; exact own4
                    have HQ9 := hid hq9
                    clear hq9
                    obtain ⟨va, vc, hv'⟩ := own4.shape'
                    subst hv'
                    have h14 := hap.chg'.heap (show wc.drew.heap[g + 1]? = _ from h1X) (fun e => by have := hneq _ e; omega)
                    have h04 := hap.chg'.heap (show wc.drew.heap[g]? = _ from h0X) (fun e => by have := hneq _ e; omega)
                    have hf4 : Fr w w4 := hap.below hoD (Fr.drew hfX) (by rw [hg]; omega) (Fr.drew hfX).size
                    have hs4 : g + 2 ≤ w4.heap.size := Nat.le_trans hsX hap.size
                    have e3 : w4.cell? ⟨g + 1, 2, none⟩ = some sv := by rw [cell_of_heap h14]; rfl
                    have e4 := frozen_of_heap h14 2
                    have hne4 : ∀ q, (Value.slice va q9.length vc).ownBlock = some q → g + 2 ≤ q := fun q hq => (own4.lt q hq).1)
     all_goals go_wp2_with fail
     all_goals go_roundw
     all_goals first
      | (simp [intOf];done)
      | exact⟨1,_,_,_,by go_num,.inr (.inl ⟨rfl,rfl,HQ9.out⟩),by rw [Below.heap_setCell _ _ _ _ (by simp)];exact h04,heap_setCell_own h14 2 _,own4.chg (setCell_chg w4 ⟨g+1,2,none⟩ _) (fun k hk e=>by have e:k=g+1:=e;have:=hne4 k hk;omega),Chg.below hf4 (setCell_chg w4 ⟨g+1,2,none⟩ _) hf4.size (fun i e=>by have e:i=g+1:=e;rw [hg];omega),by simp [World.setCell];omega⟩
  · obtain rfl:k=r:=hr.symm
    obtain rfl:l1=L:=hL.symm
    have f0:wr.cell? ⟨g+1,0,none⟩=some (N k):=by rw [cell_of_heap h1];rfl
    have f1:wr.cell? ⟨g+1,1,none⟩=some (N k):=by rw [cell_of_heap h1];rfl
    go_upto_region 7 with fail
    go_region_held3 (fun w' => w'.cell? ⟨g + 1, 0, none⟩ = some (N k) ∧ w'.cell? ⟨g + 1, 1, none⟩ = some (N k) ∧ w'.cell? ⟨b, 3, none⟩ = some (N m) ∧ w'.cell? ⟨b, 4, none⟩ = some (N k) ∧ w'.cell? ⟨b, 5, none⟩ = some (.slice a2 mk c2))
     (first | go_keep)
     ((first
      | (go_at_call 196; refine (M2.out _).mono ?_; rintro e U ⟨rfl, hfU⟩; have f0 := hfU.cell f0; have f1 := hfU.cell f1; have p3 := hfU.cell p3; have p4 := hfU.cell p4; have p5 := hfU.cell p5)))
    have hfU:=(Fr.refl wr).drew.trans hfU
    have h1U:=hfU.heap h1
    have h0U:=hfU.heap h0
    have hoU:=hown.fr hfU
    have hfwU:=hf.trans hfU
    have hsU:g+2<=U.heap.size:=by have:=hfU.size;omega
    have g0:=frozen_of_heap h1U 0
    clear hfU h1 h0 hown hf hs
    go_wp2_with fail
    go_cut []from 49 to 58 (fun wx=>wx.heap[g]?=some (.cells #[.int .i64 0,.int .i64 0,.slice none 0 0] 175 (0,0))/\wx.heap[g+1]?=some (.cells #[(N km),N k,sv] 175 (0,0))/\Ow wx (g+2) eB sv l1/\Fr w wx/\g+2<=wx.heap.size)
    case first=>
     go_region
     all_goals go_wp2_with fail
     all_goals go_meet
     have hst:=setCell_chg U ⟨g+1,0,none⟩ (N km)
     exact⟨hst.heap h0U (fun e=>by have e:g=g+1:=e;omega),heap_setCell_own h1U 0 _,(hoU.chg hst (fun k hk e=>by have e:k=g+1:=e;have:=hneq k hk;omega)).drew,Fr.drew (Chg.below hfwU hst (by rw [hg];omega) (fun i e=>by have e:i=g+1:=e;rw [hg];omega)),by simp [World.setCell];omega⟩
    case rest=>
     obtain⟨h0X,h1X,hoX,hfX,hsX⟩:=hcut
     clear h1U h0U hoU hfwU hsU g0 f0 f1 p0 p1 p2 p3 p4 p5
     have f2:wc.cell? ⟨g+1,2,none⟩=some sv:=by rw [cell_of_heap h1X];rfl
     have p2:=hfX.cell q5
     have hsD:=(hs2.fr hfX).drew
     have hoD:=hoX.drew
     have HC1:Hid (l1.length+l2.length<=2147483648):=by show _<=_;first | (rw [HL2.out];simp;omega) | (rw [HL1.out,HL2.out];omega)
     go_upto_region 10 with fail
     go_region_law (refine step_app eB rfl (.tmp 59) (.tmp 64) 22 rfl Tryz.underlying22 (g + 2) rfl hoD _ _ rfl hsD HC1.out hsX ?_
                    intro v' w4 hap
                    have own4 := hap.own
                    obtain ⟨q9, hq9⟩ : ∃ q, q = l1 ++ l2 := ⟨_, rfl⟩
                    have own4 : Ow w4 (g + 2) eB v' q9 := by rw [hq9]; exact own4
                    have HQ9 := hid hq9
                    clear hq9
                    obtain ⟨va, vc, hv'⟩ := own4.shape'
                    subst hv'
                    have h14 := hap.chg'.heap (show wc.drew.heap[g + 1]? = _ from h1X) (fun e => by have := hneq _ e; omega)
                    have h04 := hap.chg'.heap (show wc.drew.heap[g]? = _ from h0X) (fun e => by have := hneq _ e; omega)
                    have hf4 : Fr w w4 := hap.below hoD (Fr.drew hfX) (by rw [hg]; omega) (Fr.drew hfX).size
                    have hs4 : g + 2 ≤ w4.heap.size := Nat.le_trans hsX hap.size
                    have e3 : w4.cell? ⟨g + 1, 2, none⟩ = some sv := by rw [cell_of_heap h14]; rfl
                    have e4 := frozen_of_heap h14 2
                    have hne4 : ∀ q, (Value.slice va q9.length vc).ownBlock = some q → g + 2 ≤ q := fun q hq => (own4.lt q hq).1)
     all_goals go_wp2_with fail
     all_goals go_roundw
     all_goals first
      | (simp [intOf];done)
      | exact⟨2,_,_,_,by go_num,.inr (.inr ⟨rfl,rfl,HQ9.out⟩),by rw [Below.heap_setCell _ _ _ _ (by simp)];exact h04,heap_setCell_own h14 2 _,own4.chg (setCell_chg w4 ⟨g+1,2,none⟩ _) (fun k hk e=>by have e:k=g+1:=e;have:=hne4 k hk;omega),Chg.below hf4 (setCell_chg w4 ⟨g+1,2,none⟩ _) hf4.size (fun i e=>by have e:i=g+1:=e;rw [hg];omega),by simp [World.setCell];omega⟩
  · obtain rfl:km=r:=hr.symm
    have hinf:(Tryz.prog.info? 175).map (·.size)=some 3:=by kernel_rfl
    have hone:(#[N km,N k,sv]:Array Value).all (·.oneCell')=true:=by
     obtain⟨va,vc,hv⟩:=hown.shape'
     subst hv
     rw [List.all_toArray]
     rfl
    have hset:Ow (wr.setRow g #[N km,N k,sv]) (g+2) eB sv (l1++l2):=hown.chg (setRow_chg wr g _) fun q hq=>by have:=hneq q hq;show ¬q=g;omega
    have hfin:Fr w (wr.setRow g #[N km,N k,sv]):=Chg.below hf (setRow_chg wr g _) hf.size (fun q hq=>by rw [hq];omega)
    have z0:=cell_setRow_same wr g 0 _ #[N km,N k,sv] _ _ h0
    have z1:=cell_setRow_same wr g 1 _ #[N km,N k,sv] _ _ h0
    have z2:=cell_setRow_same wr g 2 _ #[N km,N k,sv] _ _ h0
    clear p0 p1 p2 p3 p4 p5 q0 q1 q2 q3 q4 q5 hown M1 M2 HH
    generalize hLL:l1++l2=LL at *
    go_wp2_with (first | (refine wpList_load_row rfl 175 (.tmp 4) rfl (g+1) rfl 175 #[N km,N k,sv] (0,0) _ h1 Tryz.underlying175 rfl hinf ?_) | (refine wpList_store_row rfl 175 (.tmp 2) (.tmp 67) rfl g #[N km,N k,sv] rfl rfl 175 _ h0 hinf rfl hone ?_))
    exact bodyPost_ret (v:=.tuple #[.agg #[N km,N k,sv],.int .i64 0]) (by simp [results,Tryz.results142,go_sem, *]) rfl ⟨_,rfl,hset.rebase (by omega),hfin⟩
set_option maxRecDepth 512
end Go.Proofs.YtijghcbpfcjjnaaGreatDoor
