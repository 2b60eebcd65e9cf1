/- Parts of the proof of ThreeOpens: Cc Cd Ce V0 R1 N4 O4 De Cf. -/
import Derived.Test.YtijghcbpfcjjnaaGreatDoorM10
import Derived.Test.YtijghcbpfcjjnaaGreatDoorM22
import Derived.Test.YtijghcbpfcjjnaaGreatDoorM05
set_option linter.unusedVariables false
set_option linter.unusedSectionVars false
set_option linter.unusedSimpArgs false
set_option maxHeartbeats 8000000
namespace Go.Proofs.YtijghcbpfcjjnaaGreatDoor
open Go.RowKit Go.Fk
set_option maxRecDepth 100000
theorem limited_any(most:Nat)(hm:most<9223372036854775808)(v:Value)(l:List UInt8)(w:World)(hs:See w eB v l)(hl:l.length<=1000000) :
  Calls Tryz.prog 127 #[v,N most] w fun e w'=>e=.returned (.tuple #[N (limL most l).1,N (limL most l).2.1,.int .i64 ((limL most l).2.2:Int)])/\w=w':=by
 have HS:=hid (scan_any v l w hs hl)
 have hlt:=numL_lt l
 have HL:Hid (limL most l=if(numL l).2.2=0 then(if most<(numL l).1 then(0,0,6)else numL l)else(0,0,(numL l).2.2)):=rfl
 obtain⟨a0,cap,hv,_⟩:=hs.shape
 subst hv
 clear hs
 generalize limL most l=R at *
 generalize numL l=q at *
 obtain⟨x,n,er⟩:=q
 by_cases h0:er=0
 · subst h0
   have h1:¬(most:Int)<0:=by omega
   by_cases h2:most<x
   · have HE:Hid (R=(0,0,6)):=by show _=_;rw [HL.out,if_pos rfl,if_pos h2]
     have h3:(most:Int)<x:=by omega
     have HM:=hid hm
     have hw1:IntKind.u64.wrap (most:Int)=(most:Int):=IntWalk.u64_in _ (by omega)
     clear HL
     go_enter Tryz.func127, Tryz.ntmps127
     go_wp2_with fail
     refine(HS.out).mono ?_
     rintro e w1 ⟨rfl,rfl⟩
     go_wp2_with fail
     go_ret3
     rw [HE.out]
     exact⟨rfl,rfl⟩
   · have HE:Hid (R=(x,n,0)):=by show _=_;rw [HL.out,if_pos rfl,if_neg h2]
     have h3:¬(most:Int)<x:=by omega
     have hw1:IntKind.u64.wrap (most:Int)=(most:Int):=IntWalk.u64_in _ (by omega)
     have hw2:IntKind.i64.wrap (x:Int)=(x:Int):=IntWalk.i64_in _ (by omega)
     clear HL
     go_enter Tryz.func127, Tryz.ntmps127
     go_wp2_with fail
     refine(HS.out).mono ?_
     rintro e w1 ⟨rfl,rfl⟩
     go_wp2_with fail
     go_ret3
     rw [HE.out]
     exact⟨rfl,rfl⟩
 · have HE:Hid (R=(0,0,er)):=by show _=_;rw [HL.out];simp only;rw [if_neg h0]
   have h3:¬(er:Int)=0:=by omega
   clear HL
   go_enter Tryz.func127, Tryz.ntmps127
   go_wp2_with fail
   refine(HS.out).mono ?_
   rintro e w1 ⟨rfl,rfl⟩
   go_wp2_with fail
   go_ret3
   rw [HE.out]
   exact⟨rfl,rfl⟩
theorem num1_any(Bx:Nat)(xv v:Value)(l:List UInt8)(w:World)(hx:w.heap[Bx]?=some (.cells #[xv] 95 (0,0)))(hs:See w eB v l)(hl:l.length<=1000000) :
  Calls Tryz.prog 225 #[v,.pointer (some ⟨Bx,0,none⟩)] w fun e w'=>e=.returned (.tuple #[N (numL l).2.1,.int .i64 ((numL l).2.2:Int)])/\w'.heap[Bx]?=some (.cells #[.int .u64 ((numL l).1:Int)] 95 (0,0))/\Chg (fun b=>b=Bx) w w':=by
 have HS:=hid (scan_any v l w hs hl)
 have c0:w.cell? ⟨Bx,0,none⟩=some xv:=by rw [cell_of_heap hx];rfl
 have z0:=frozen_of_heap hx 0
 have hst:=setCell_chg w ⟨Bx,0,none⟩ (.int .u64 ((numL l).1:Int))
 have h1:=heap_setCell_own hx 0 (.int .u64 ((numL l).1:Int))
 obtain⟨a0,cap,hv,_⟩:=hs.shape
 subst hv
 clear hs
 generalize numL l=q at *
 go_enter Tryz.func225, Tryz.ntmps225
 go_wp2_with fail
 refine(HS.out).mono ?_
 rintro e w1 ⟨rfl,rfl⟩
 go_wp2_with fail
 go_ret2
 exact⟨rfl,h1,hst⟩
theorem int1_any(most:Nat)(hm:most<9223372036854775808)(Bm Bx:Nat)(xv v:Value)(l:List UInt8)(w:World)(hmo:w.heap[Bm]?=some (.cells #[N most] 3 (0,0)))(hx:w.heap[Bx]?=some (.cells #[xv] 3 (0,0)))(hs:See w eB v l)(hl:l.length<=1000000) :
  Calls Tryz.prog 126 #[v,.pointer (some ⟨Bm,0,none⟩),.pointer (some ⟨Bx,0,none⟩)] w fun e w'=>e=.returned (.tuple #[N (limL most l).2.1,.int .i64 ((limL most l).2.2:Int)])/\w'.heap[Bx]?=some (.cells #[N (limL most l).1] 3 (0,0))/\Chg (fun b=>b=Bx) w w':=by
 have HS:=hid (limited_any most hm v l w hs hl)
 have m0:w.cell? ⟨Bm,0,none⟩=some (N most):=by rw [cell_of_heap hmo];rfl
 have c0:w.cell? ⟨Bx,0,none⟩=some xv:=by rw [cell_of_heap hx];rfl
 have z0:=frozen_of_heap hx 0
 have hst:=setCell_chg w ⟨Bx,0,none⟩ (N (limL most l).1)
 have h1:=heap_setCell_own hx 0 (N (limL most l).1)
 obtain⟨a0,cap,hv,_⟩:=hs.shape
 subst hv
 clear hs
 generalize limL most l=q at *
 go_enter Tryz.func126, Tryz.ntmps126
 go_wp2_with fail
 refine(HS.out).mono ?_
 rintro e w1 ⟨rfl,rfl⟩
 go_wp2_with fail
 go_ret2
 exact⟨rfl,h1,hst⟩
theorem Num_cur(B base:Nat)(s:Cs)(l:List UInt8)(w:World)(hc:CurF w 183 B base l s.at_ s.er)(hl:l.length<=1000000) :
  Calls Tryz.prog 190 #[.pointer (some ⟨B,0,none⟩)] w fun e w'=>e=.returned (.int .u64 ((s.num l).1:Int))/\CurF w' 183 B base l (s.num l).2.at_ (s.num l).2.er/\Chg (fun b=>b=B) w w':=by
 have hmf:∀ (fn:Fn) (first cap:Array Value) (w:World),(Instr.makeFunc fn first cap).run Tryz.prog w=.ok (.func fn first cap) w:=fun _ _ _ _=>rfl
 have hBw:B<w.heap.size:=by obtain⟨⟨v,h1,_⟩,_⟩:=hc;exact(Array.getElem?_eq_some_iff.1 h1).1
 have g0:(w.alloc (.cells #[.int .u64 0] 95)).heap[w.heap.size]?=some (.cells #[.int .u64 0] 95 (0,0)):=heap_new _ _ _ rfl
 have hf:Fr w (w.alloc (.cells #[.int .u64 0] 95)):=(Fr.refl w).alloc _
 have hdl:(l.drop s.at_).length<=1000000:=by rw [List.length_drop];omega
 have hle:s.at_<=l.length:=hc.le
 have HR := hid (read_any 225 [.pointer (some ⟨w.heap.size, 0, none⟩)] (.inl ⟨rfl, _, rfl⟩) (fun b => b = w.heap.size) (fun W => W.heap[w.heap.size]? = some (.cells #[.int .u64 ((numL (l.drop s.at_)).1 : Int)] 95 (0, 0))) B base s (numL (l.drop s.at_)) l _ (hc.fr hf)
  (hid fun W v hW hs => (num1_any w.heap.size _ v _ W (hW.heap g0) hs hdl)) (fun h => by have := numL_ok _ h; rw [List.length_drop] at this; omega)
  (by intro g hg; obtain rfl : g = w.heap.size := hg; exact ⟨by omega, _, _, _, g0, by decide⟩) hl)
 have HN:Hid (s.num l=(s.val (numL (l.drop s.at_)),s.step (numL (l.drop s.at_)))):=rfl
 have HV:Hid (s.val (numL (l.drop s.at_))=if s.er=0/\(numL (l.drop s.at_)).2.2=0 then(numL (l.drop s.at_)).1 else 0):=rfl
 rw [HN.out]
 clear g0 hc hdl hle HN
 generalize s.step (numL (l.drop s.at_))=s2 at *
 generalize s.val (numL (l.drop s.at_))=x2 at *
 generalize numL (l.drop s.at_)=q at *
 by_cases hk:s.er=0/\q.2.2=0
 · rw [decide_eq_true hk]at HR
   rw [if_pos hk]at HV
   have h0:=hid hk.1
   clear hk
   go_enter Tryz.func190, Tryz.ntmps190
   go_wp2_with fail
   refine(HR.out).mono ?_
   rintro e w3 ⟨rfl,_,w2,hQ,hg1,hg2,hC⟩
   have hx:=hg2.heap (hQ h0.out) (by omega)
   have c1:w3.cell? ⟨w.heap.size,0,none⟩=some (.int .u64 (q.1:Int)):=by rw [cell_of_heap hx];rfl
   have hfin:Chg (fun b=>b=B) w w3:=((hf.chg _).trans (G':=fun b=>b=w.heap.size) hg1 fun i hi h=>by omega).trans hg2 fun i _ h=>h
   clear HR hg1 hg2 hQ hx
   go_wp2_with fail
   go_ret
   rw [HV.out]
   exact⟨rfl,hC,hfin⟩
 · rw [decide_eq_false hk]at HR
   rw [if_neg hk]at HV
   clear hk
   go_enter Tryz.func190, Tryz.ntmps190
   go_wp2_with fail
   refine(HR.out).mono ?_
   rintro e w3 ⟨rfl,_,w2,hQ,hg1,hg2,hC⟩
   have hfin:Chg (fun b=>b=B) w w3:=((hf.chg _).trans (G':=fun b=>b=w.heap.size) hg1 fun i hi h=>by omega).trans hg2 fun i _ h=>h
   clear HR hg1 hg2 hQ
   go_wp2_with fail
   go_ret
   rw [HV.out]
   exact⟨rfl,hC,hfin⟩
theorem Int_cur(most:Nat)(hm:most<9223372036854775808)(B base:Nat)(s:Cs)(l:List UInt8)(w:World)(hc:CurF w 183 B base l s.at_ s.er)(hl:l.length<=1000000) :
  Calls Tryz.prog 77 #[.pointer (some ⟨B,0,none⟩),N most] w fun e w'=>e=.returned (N (s.int l most).1)/\CurF w' 183 B base l (s.int l most).2.at_ (s.int l most).2.er/\Chg (fun b=>b=B) w w':=by
 have hmf:∀ (fn:Fn) (first cap:Array Value) (w:World),(Instr.makeFunc fn first cap).run Tryz.prog w=.ok (.func fn first cap) w:=fun _ _ _ _=>rfl
 have hBw:B<w.heap.size:=by obtain⟨⟨v,h1,_⟩,_⟩:=hc;exact(Array.getElem?_eq_some_iff.1 h1).1
 have g0:((w.alloc (.cells #[N most] 3)).alloc (.cells #[.int .i64 0] 3)).heap[w.heap.size]?=some (.cells #[N most] 3 (0,0)):=by
  rw [heap_old _ _ _ (by simp),heap_new _ _ _ rfl]
 have g1:((w.alloc (.cells #[N most] 3)).alloc (.cells #[.int .i64 0] 3)).heap[w.heap.size+1]?=some (.cells #[.int .i64 0] 3 (0,0)):=heap_new _ _ _ (by simp)
 have hf:Fr w ((w.alloc (.cells #[N most] 3)).alloc (.cells #[.int .i64 0] 3)):=((Fr.refl w).alloc _).alloc _
 have hdl:(l.drop s.at_).length<=1000000:=by rw [List.length_drop];omega
 have hle:s.at_<=l.length:=hc.le
 have HR := hid (read_any 126 [.pointer (some ⟨w.heap.size, 0, none⟩), .pointer (some ⟨w.heap.size + 1, 0, none⟩)] (.inr (.inl ⟨rfl, _, _, rfl⟩)) (fun b => b = w.heap.size + 1) (fun W => W.heap[w.heap.size + 1]? = some (.cells #[N (limL most (l.drop s.at_)).1] 3 (0, 0))) B base s (limL most (l.drop s.at_)) l _ (hc.fr hf)
  (hid fun W v hW hs => (int1_any most hm w.heap.size (w.heap.size + 1) _ v _ W (hW.heap g0) (hW.heap g1) hs hdl)) (fun h => by have := limL_ok _ _ h; rw [List.length_drop] at this; omega)
  (by intro g hg; obtain rfl : g = w.heap.size + 1 := hg; exact ⟨by omega, _, _, _, g1, by decide⟩) hl)
 have HN:Hid (s.int l most=(s.val (limL most (l.drop s.at_)),s.step (limL most (l.drop s.at_)))):=rfl
 have HV:Hid (s.val (limL most (l.drop s.at_))=if s.er=0/\(limL most (l.drop s.at_)).2.2=0 then(limL most (l.drop s.at_)).1 else 0):=rfl
 rw [HN.out]
 clear g0 g1 hc hdl hle HN
 generalize s.step (limL most (l.drop s.at_))=s2 at *
 generalize s.val (limL most (l.drop s.at_))=x2 at *
 generalize limL most (l.drop s.at_)=q at *
 by_cases hk:s.er=0/\q.2.2=0
 · rw [decide_eq_true hk]at HR
   rw [if_pos hk]at HV
   have h0:=hid hk.1
   clear hk
   go_enter Tryz.func77, Tryz.ntmps77
   go_wp2_with fail
   refine(HR.out).mono ?_
   rintro e w3 ⟨rfl,_,w2,hQ,hg1,hg2,hC⟩
   have hx:=hg2.heap (hQ h0.out) (by omega)
   have c1:w3.cell? ⟨w.heap.size+1,0,none⟩=some (N q.1):=by rw [cell_of_heap hx];rfl
   have hfin:Chg (fun b=>b=B) w w3:=((hf.chg _).trans (G':=fun b=>b=w.heap.size+1) hg1 fun i hi h=>by omega).trans hg2 fun i _ h=>h
   clear HR hg1 hg2 hQ hx
   go_wp2_with fail
   go_ret
   rw [HV.out]
   exact⟨rfl,hC,hfin⟩
 · rw [decide_eq_false hk]at HR
   rw [if_neg hk]at HV
   clear hk
   go_enter Tryz.func77, Tryz.ntmps77
   go_wp2_with fail
   refine(HR.out).mono ?_
   rintro e w3 ⟨rfl,_,w2,hQ,hg1,hg2,hC⟩
   have hfin:Chg (fun b=>b=B) w w3:=((hf.chg _).trans (G':=fun b=>b=w.heap.size+1) hg1 fun i hi h=>by omega).trans hg2 fun i _ h=>h
   clear HR hg1 hg2 hQ
   go_wp2_with fail
   go_ret
   rw [HV.out]
   exact⟨rfl,hC,hfin⟩
set_option maxRecDepth 512
set_option maxRecDepth 100000
theorem text1_any (most : Nat) (hm : most < 9223372036854775808) (Bm Bx : Nat) (v : Value) (l : List UInt8) (w : World) (hmo : w.heap[Bm]? = some (.cells #[N most] 3 (0, 0))) (hx : w.heap[Bx]? = some (.cells #[S []] 9 (0, 0))) (hs : See w eB v l) (hl : l.length ≤ 1000000) :
    Calls Tryz.prog 260 #[v,.pointer (some ⟨Bm,0,none⟩),.pointer (some ⟨Bx,0,none⟩)] w fun e w'=>e=.returned (.tuple #[N (txtL most l).2.1,.int .i64 ((txtL most l).2.2:Int)])/\w'.heap[Bx]?=some (.cells #[S (txtL most l).1] 9 (0,0))/\Chg (fun b=>b=Bx) w w':=by
  have HS:=hid (limited_any most hm v l w hs hl)
  have m0:w.cell? ⟨Bm,0,none⟩=some (N most):=by rw [cell_of_heap hmo];rfl
  have c0:w.cell? ⟨Bx,0,none⟩=some (S []):=by rw [cell_of_heap hx];rfl
  have z0:=frozen_of_heap hx 0
  have HD:Hid (txtL most l=if(limL most l).2.2=0 then(if l.length<(limL most l).2.1+(limL most l).1 then([],0,1)else((l.drop (limL most l).2.1).take (limL most l).1,(limL most l).2.1+(limL most l).1,0))else([],0,(limL most l).2.2)):=rfl
  have hok:=limL_ok most l
  obtain⟨a0,cap,hv,_⟩:=hs.shape
  subst hv
  generalize txtL most l=T at *
  by_cases h0:(limL most l).2.2=0
  · have hq:=hok h0
    rw [if_pos h0]at HD
    have hw1:IntKind.i64.wrap ((l.length:Int) - ((limL most l).2.1:Int))=(l.length:Int) - ((limL most l).2.1:Int):=IntWalk.i64_in _ (by omega)
    by_cases h1:l.length<(limL most l).2.1+(limL most l).1
    · rw [if_pos h1]at HD
      have h2:(l.length:Int) - ((limL most l).2.1:Int)<((limL most l).1:Int):=by omega
      clear hs hok hq h1
      rw [h0]at HS
      clear h0
      generalize (limL most l).1=x at *
      generalize (limL most l).2.1=n at *
      go_enter Tryz.func260, Tryz.ntmps260
      go_wp2_with fail
      refine(HS.out).mono ?_
      rintro e w1 ⟨rfl,rfl⟩
      go_wp2_with fail
      go_ret2
      rw [HD.out]
      exact⟨rfl,hx,Chg.refl _ _⟩
    · rw [if_neg h1]at HD
      have h2:¬(l.length:Int) - ((limL most l).2.1:Int)<((limL most l).1:Int):=by omega
      have hqe:(l.take ((limL most l).2.1+(limL most l).1)).drop (limL most l).2.1=(l.drop (limL most l).2.1).take (limL most l).1:=by rw [List.drop_take,Nat.add_sub_cancel_left]
      obtain⟨f1,f2,hmid,hms⟩:=run_mid eB 22 Tryz.underlying22 hs (limL most l).2.1 ((limL most l).2.1+(limL most l).1) (by omega) (by omega)
      rw [hqe,Nat.add_sub_cancel_left]at *
      have hmid2:∀ W,(Instr.slice 22 (.slice a0 l.length cap) (some (.int .i64 ((limL most l).2.1:Int))) (some (.int .i64 (((limL most l).2.1:Int)+((limL most l).1:Int)))) none).run Tryz.prog W=.ok (.slice f1 (limL most l).1 f2) W:=hmid
      have hcv:=conv_at _ _ w hms
      have hw2:IntKind.i64.wrap (((limL most l).2.1:Int)+((limL most l).1:Int))=((limL most l).2.1:Int)+((limL most l).1:Int):=IntWalk.i64_in _ (by omega)
      have hst:=setCell_chg w ⟨Bx,0,none⟩ (S ((l.drop (limL most l).2.1).take (limL most l).1))
      have hx1:=heap_setCell_own hx 0 (S ((l.drop (limL most l).2.1).take (limL most l).1))
      clear hs hok hq h1 hms hmid hqe
      rw [h0]at HS
      clear h0
      generalize (l.drop (limL most l).2.1).take (limL most l).1=q at *
      generalize (limL most l).1=x at *
      generalize (limL most l).2.1=n at *
      go_enter Tryz.func260, Tryz.ntmps260
      go_wp2_with fail
      refine(HS.out).mono ?_
      rintro e w1 ⟨rfl,rfl⟩
      go_wp2_with fail
      go_ret2
      rw [HD.out]
      exact⟨by simp,hx1,hst⟩
  · rw [if_neg h0]at HD
    have h1:¬((limL most l).2.2:Int)=0:=by omega
    clear hs hok h0
    generalize (limL most l).2.2=er at *
    go_enter Tryz.func260, Tryz.ntmps260
    go_wp2_with fail
    refine(HS.out).mono ?_
    rintro e w1 ⟨rfl,rfl⟩
    go_wp2_with fail
    go_ret2
    rw [HD.out]
    exact⟨rfl,hx,Chg.refl _ _⟩
theorem Text_cur(most:Nat)(hm:most<9223372036854775808)(B base:Nat)(s:Cs)(l:List UInt8)(w:World)(hc:CurF w 183 B base l s.at_ s.er)(hl:l.length<=1000000) :
  Calls Tryz.prog 227 #[.pointer (some ⟨B,0,none⟩),N most] w fun e w'=>e=.returned (S (s.text l most).1)/\CurF w' 183 B base l (s.text l most).2.at_ (s.text l most).2.er/\Chg (fun b=>b=B) w w':=by
 have hmf:∀ (fn:Fn) (first cap:Array Value) (w:World),(Instr.makeFunc fn first cap).run Tryz.prog w=.ok (.func fn first cap) w:=fun _ _ _ _=>rfl
 have hBw:B<w.heap.size:=by obtain⟨⟨v,h1,_⟩,_⟩:=hc;exact(Array.getElem?_eq_some_iff.1 h1).1
 obtain⟨W0,hW0⟩:∃ W0,W0=(w.alloc (.cells #[N most] 3)).alloc (.cells #[S []] 9):=⟨_,rfl⟩
 have g0:W0.heap[w.heap.size]?=some (.cells #[N most] 3 (0,0)):=by
  rw [hW0,heap_old _ _ _ (by simp),heap_new _ _ _ rfl]
 have g1:W0.heap[w.heap.size+1]?=some (.cells #[S []] 9 (0,0)):=by rw [hW0];exact heap_new _ _ _ (by simp)
 have hf:Fr w W0:=by rw [hW0];exact((Fr.refl w).alloc _).alloc _
 have hdl:(l.drop s.at_).length<=1000000:=by rw [List.length_drop];omega
 have hle:s.at_<=l.length:=hc.le
 have HR := hid (read_any 260 [.pointer (some ⟨w.heap.size, 0, none⟩), .pointer (some ⟨w.heap.size + 1, 0, none⟩)] (.inr (.inr (.inr ⟨rfl, _, _, rfl⟩))) (fun b => b = w.heap.size + 1) (fun W => W.heap[w.heap.size + 1]? = some (.cells #[S (txtL most (l.drop s.at_)).1] 9 (0, 0))) B base s (0, (txtL most (l.drop s.at_)).2) l W0 (hc.fr hf)
  (hid fun W v hW hs => (text1_any most hm w.heap.size (w.heap.size + 1) v _ W (hW.heap g0) (hW.heap g1) hs hdl)) (fun h => by have := (txtL_ok _ _ h).2.1; rw [List.length_drop] at this; show s.at_ + (txtL most (l.drop s.at_)).2.1 ≤ _; omega)
  (by intro g hg; obtain rfl : g = w.heap.size + 1 := hg; exact ⟨by omega, _, _, _, g1, by decide⟩) hl)
 have HN:Hid (s.text l most=(if s.er=0 then(txtL most (l.drop s.at_)).1 else [],s.step (0,(txtL most (l.drop s.at_)).2))):=rfl
 rw [HN.out]
 clear g0 hc hdl hle HN
 generalize s.step (0,(txtL most (l.drop s.at_)).2)=s2 at *
 generalize decide (s.er=0/\(0,(txtL most (l.drop s.at_)).2).2.2=0)=ok at *
 generalize (txtL most (l.drop s.at_)).1=q at *
 have HG:=hid g1
 obtain⟨q2,hq2⟩:∃ q2,q2=(if s.er=0 then q else []):=⟨_,rfl⟩
 rw [<- hq2]
 have HQ2:=hid hq2
 clear hq2
 clear g1
 go_enter Tryz.func227, Tryz.ntmps227
 go_wp2_with fail
 rw [<- hW0]
 refine(HR.out).mono ?_
 rintro e w3 ⟨rfl,hno,w2,hQ,hg1,hg2,hC⟩
 have hfin:Chg (fun b=>b=B) w w3:=((hf.chg _).trans (G':=fun b=>b=w.heap.size+1) hg1 fun i hi h=>by omega).trans hg2 fun i _ h=>h
 have hx:w3.heap[w.heap.size+1]?=some (.cells #[S q2] 9 (0,0)):=by
  rw [HQ2.out]
  by_cases h:s.er=0
  · rw [if_pos h];exact hg2.heap (hQ h) (by omega)
  · rw [if_neg h,<- hno h];exact HG.out
 have c1:w3.cell? ⟨w.heap.size+1,0,none⟩=some (S q2):=by rw [cell_of_heap hx];rfl
 clear HR hg1 hg2 hQ hx hno HG hW0
 go_wp2_with fail
 go_ret
 exact⟨rfl,hC,hfin⟩
set_option maxRecDepth 512
set_option maxRecDepth 100000
theorem Take_no(B base k:Nat)(s:Cs)(l:List UInt8)(w:World)(hc:CurF w 183 B base l s.at_ s.er)(hk:¬s.er=0\/l.length<s.at_+k)(hl:l.length<=1000000) :
  Calls Tryz.prog 121 #[.pointer (some ⟨B,0,none⟩),N k] w fun e w'=>e=.returned (.slice none 0 0)/\CurF w' 183 B base l (s.step (0,0,1)).at_ (s.step (0,0,1)).er/\Chg (fun b=>b=B) w w':=by
 have hmf:∀ (fn:Fn) (first cap:Array Value) (w:World),(Instr.makeFunc fn first cap).run Tryz.prog w=.ok (.func fn first cap) w:=fun _ _ _ _=>rfl
 have hBw:B<w.heap.size:=by obtain⟨⟨v,h1,_⟩,_⟩:=hc;exact(Array.getElem?_eq_some_iff.1 h1).1
 obtain⟨W0,hW0⟩:∃ W0,W0=(w.alloc (.cells #[N k] 3)).alloc (.cells #[.slice none 0 0] 22):=⟨_,rfl⟩
 have g0:W0.heap[w.heap.size]?=some (.cells #[N k] 3 (0,0)):=by
  rw [hW0,heap_old _ _ _ (by simp),heap_new _ _ _ rfl]
 have g1:W0.heap[w.heap.size+1]?=some (.cells #[.slice none 0 0] 22 (0,0)):=by rw [hW0];exact heap_new _ _ _ (by simp)
 have hf:Fr w W0:=by rw [hW0];exact((Fr.refl w).alloc _).alloc _
 have hdl:(l.drop s.at_).length=l.length - s.at_:=by rw [List.length_drop]
 have HX:Hid (∃ R:Ending->World->Prop,Calls Tryz.prog 125 #[.pointer (some ⟨B,0,none⟩),.func (.func 181) #[] #[.pointer (some ⟨w.heap.size,0,none⟩),.pointer (some ⟨w.heap.size+1,0,none⟩)]] W0 R/\∀ e w',R e w'->(∃ b,e=.returned (.bool b))/\Chg (fun b=>b=B) W0 w'/\CurF w' 183 B base l (s.step (0,0,1)).at_ (s.step (0,0,1)).er):=by
  by_cases h0:s.er=0
  · have HT:Hid (∀ W v,Fr W0 W->See W eB v (l.drop s.at_)->Calls Tryz.prog 181 (v::[.pointer (some ⟨w.heap.size,0,none⟩),.pointer (some ⟨w.heap.size+1,0,none⟩)]).toArray W fun e w'=>e=.returned (.tuple #[N (0:Nat),.int .i64 ((1:Nat):Int)])/\True/\Chg (fun _=>False) W w'):=fun W v hW hs=>(take1_no w.heap.size (w.heap.size+1) k v _ W (hW.heap g0) hs (by rw [hdl];have:=hc.le;omega)).mono (by rintro e w' ⟨rfl,rfl⟩;exact⟨rfl,trivial,Chg.refl _ _⟩)
    refine⟨_,read_any 181 [.pointer (some ⟨w.heap.size,0,none⟩),.pointer (some ⟨w.heap.size+1,0,none⟩)] (.inr (.inr (.inl ⟨rfl,_,_,rfl⟩))) (fun _=>False) (fun _=>True) B base s (0,0,1) l W0 (hc.fr hf) HT (fun h=>by cases h) (fun g h=>h.elim) hl,?_⟩
    rintro e w' ⟨rfl,_,w3,_,h1,h2,h3⟩
    exact⟨⟨_,rfl⟩,(h1.mono fun _ _ h=>h.elim).trans h2 fun _ _ h=>h,h3⟩
  · refine⟨_,read_no _ B base s.at_ s.er l W0 (hc.fr hf) h0,?_⟩
    rintro e w' ⟨rfl,rfl⟩
    refine⟨⟨_,rfl⟩,Chg.refl _ _,?_⟩
    unfold Cs.step
    rw [if_neg h0];exact hc.fr hf
 obtain⟨R,HR0,HR1⟩:=HX.out
 have HR:=hid HR0
 have HQ:=hid HR1
 have HG:=hid g1
 clear HX HR0 HR1 g0 g1 hdl hk
 generalize s.step (0,0,1)=s2 at *
 go_enter Tryz.func121, Tryz.ntmps121
 go_wp2_with fail
 rw [<- hW0]
 refine(HR.out).mono ?_
 intro e w3 hr
 obtain⟨⟨b,rfl⟩,hg,hC⟩:=HQ.out e w3 hr
 have hx:=hg.heap HG.out (by omega)
 have c1:w3.cell? ⟨w.heap.size+1,0,none⟩=some (.slice none 0 0):=by rw [cell_of_heap hx];rfl
 have hfin:Chg (fun b=>b=B) w w3:=(hf.chg _).trans hg fun _ _ h=>h
 clear HR HQ HG hr hx hg hW0
 go_wp2_with fail
 go_ret
 exact⟨rfl,hC,hfin⟩
set_option maxRecDepth 512
theorem Take_cur(B base k:Nat)(s:Cs)(l:List UInt8)(w:World)(hc:CurF w 183 B base l s.at_ s.er)(hl:l.length<=1000000)(hb:base<=w.heap.size) :
  Calls Tryz.prog 121 #[.pointer (some ⟨B,0,none⟩),N k] w fun e w'=>∃ u,e=.returned u/\Ow w' w.heap.size eB u (s.take l k).1/\CurF w' 183 B base l (s.take l k).2.at_ (s.take l k).2.er/\Chg (fun b=>b=B) w w':=by
 by_cases h0:s.er=0
 · by_cases h1:l.length<s.at_+k
   · refine(Take_no B base k s l w hc (.inr h1) hl).mono ?_
     rintro e w' ⟨rfl,hC,hg⟩
     have h2:s.take l k=([],⟨s.at_,1⟩):=by unfold Cs.take;rw [if_pos h0,if_pos h1]
     have h3:s.step (0,0,1)=⟨s.at_,1⟩:=by unfold Cs.step;rw [if_pos h0,if_neg (by decide)]
     rw [h2];rw [h3]at hC
     exact⟨_,rfl,Ow.nil,hC,hg⟩
   · rw [h0]at hc
     refine(Take_yes B base s.at_ k l w hc (by omega) hl hb).mono ?_
     rintro e w' ⟨u,rfl,hO,hC,hg⟩
     have h2:s.take l k=((l.drop s.at_).take k,⟨s.at_+k,0⟩):=by unfold Cs.take;rw [if_pos h0,if_neg h1]
     rw [h2]
     exact⟨u,rfl,hO,hC,hg⟩
 · refine(Take_no B base k s l w hc (.inl h0) hl).mono ?_
   rintro e w' ⟨rfl,hC,hg⟩
   have h2:s.take l k=([],s):=by unfold Cs.take;rw [if_neg h0]
   have h3:s.step (0,0,1)=s:=by unfold Cs.step;rw [if_neg h0]
   rw [h2];rw [h3]at hC
   exact⟨_,rfl,Ow.nil,hC,hg⟩
theorem take1_len(s:Cs)(l:List UInt8):(s.take l 1).1=[]\/∃ x,(s.take l 1).1=[x]:=by
 unfold Cs.take
 split
 · split
   · exact .inl rfl
   · show(l.drop s.at_).take 1=[]\/∃ x,(l.drop s.at_).take 1=[x]
     cases l.drop s.at_ with
     | nil=>exact .inl rfl
     | cons x t=>exact .inr ⟨x,rfl⟩
 · exact .inl rfl
set_option maxRecDepth 100000
theorem Byte_cur (B base : Nat) (s : Cs) (l : List UInt8) (w : World) (hc : CurF w 183 B base l s.at_ s.er) (hl : l.length ≤ 1000000) (hb : base ≤ w.heap.size) :
    Calls Tryz.prog 72 #[.pointer (some ⟨B,0,none⟩)] w fun e w'=>e=.returned (.int .u8 ((s.byte l).1:Int))/\CurF w' 183 B base l (s.byte l).2.at_ (s.byte l).2.er/\Chg (fun b=>b=B) w w':=by
  have HT:=hid (Take_cur B base 1 s l w hc hl hb)
  have HB:Hid (s.byte l=((((s.take l 1).1).getD 0 0).toNat,(s.take l 1).2)):=rfl
  rw [HB.out]
  have h1:=take1_len s l
  clear hc HB
  generalize (s.take l 1).1=q at *
  generalize (s.take l 1).2=s2 at *
  rcases h1 with rfl | ⟨x,rfl⟩
  · go_enter Tryz.func72, Tryz.ntmps72
    go_wp2_with fail
    refine(HT.out).mono ?_
    rintro e w1 ⟨u,rfl,hO,hC,hch⟩
    obtain⟨p,z,hq⟩:=hO.shape'
    subst hq
    clear HT hO
    go_wp2_with fail
    go_ret
    exact⟨rfl,hC,hch⟩
  · go_enter Tryz.func72, Tryz.ntmps72
    go_wp2_with fail
    refine(HT.out).mono ?_
    rintro e w1 ⟨u,rfl,hO,hC,hch⟩
    obtain⟨b,off,cp,hv,c0⟩:=hO.see.cell1 Fk.u8 rfl 0 (by simp)
    subst hv
    have d0:w1.cell? ⟨b,off,none⟩=some (.int .u8 (x.toNat:Int)):=c0
    clear hO c0 HT
    go_wp2_with fail
    go_ret
    exact⟨rfl,hC,hch⟩
theorem Left_cur(B base n er:Nat)(l:List UInt8)(w:World)(hc:CurF w 183 B base l n er) :
  Calls Tryz.prog 128 #[.pointer (some ⟨B,0,none⟩)] w fun e w'=>e=.returned (N (l.length - n))/\Fr w w':=by
 have HR:=hid (rest_any B base n er l w hc)
 clear hc
 generalize l.length - n=m at *
 go_enter Tryz.func128, Tryz.ntmps128
 go_wp2_with fail
 refine(HR.out).mono ?_
 rintro e w1 ⟨a,cp,rfl,_,hf⟩
 clear HR
 go_wp2_with fail
 go_ret
 exact⟨rfl,hf⟩
theorem At_cur(B base n er:Nat)(l:List UInt8)(w:World)(hc:CurF w 183 B base l n er) :
  Calls Tryz.prog 132 #[.pointer (some ⟨B,0,none⟩)] w fun e w'=>e=.returned (N n)/\w=w':=by
 obtain⟨⟨v,h1,ho⟩,hle⟩:=hc
 have c1:w.cell? ⟨B,1,none⟩=some (N n):=by rw [cell_of_heap h1];rfl
 clear h1 ho
 go_enter Tryz.func132, Tryz.ntmps132
 go_wp2_with fail
 go_ret
 exact⟨rfl,rfl⟩
theorem Fail_cur(er:Nat)(B base:Nat)(s:Cs)(l:List UInt8)(w:World)(hc:CurF w 183 B base l s.at_ s.er) :
  Calls Tryz.prog 122 #[.pointer (some ⟨B,0,none⟩),.int .i64 (er:Int)] w fun e w'=>e=.returned (.tuple #[])/\CurF w' 183 B base l (s.fail er).at_ (s.fail er).er/\Chg (fun b=>b=B) w w':=by
 obtain⟨⟨v,h1,hO⟩,hle⟩:=hc
 have c2:w.cell? ⟨B,2,none⟩=some (.int .i64 (s.er:Int)):=by rw [cell_of_heap h1];rfl
 by_cases h0:s.er=0
 · have HF:Hid (s.fail er=⟨s.at_,er⟩):=by show _=_;unfold Cs.fail;rw [if_pos h0]
   rw [h0]at c2
   have z1:=frozen_of_heap h1 2
   have hvB:=hO.ne_cells h1 (by decide)
   have hst:=setCell_chg w ⟨B,2,none⟩ (.int .i64 (er:Int))
   have h14:=heap_setCell_own h1 2 (.int .i64 (er:Int))
   have hOv4:=hO.chg hst (fun i hi e=>hvB (by rw [hi,show i=B from e]))
   clear hO h0
   go_enter Tryz.func122, Tryz.ntmps122
   go_wp2_with fail
   go_end0
   rw [HF.out]
   exact⟨rfl,⟨⟨v,h14,hOv4⟩,hle⟩,hst⟩
 · have HF:Hid (s.fail er=s):=by show _=_;unfold Cs.fail;rw [if_neg h0]
   have h2:¬(s.er:Int)=0:=by omega
   have HC:=hid (CurF.mk ⟨v,h1,hO⟩ hle)
   clear h1 hO h0
   go_enter Tryz.func122, Tryz.ntmps122
   go_wp2_with fail
   go_end0
   rw [HF.out]
   exact⟨rfl,HC.out,Chg.refl _ _⟩
theorem End_cur(B base:Nat)(s:Cs)(l:List UInt8)(w:World)(hc:CurF w 183 B base l s.at_ s.er) :
  Calls Tryz.prog 79 #[.pointer (some ⟨B,0,none⟩)] w fun e w'=>e=.returned (.int .i64 ((s.fin l).er:Int))/\CurF w' 183 B base l (s.fin l).at_ (s.fin l).er/\Chg (fun b=>b=B) w w':=by
 have HL:=hid (Left_cur B base s.at_ s.er l w hc)
 have hle:=hc.le
 by_cases h0:s.at_<l.length
 · have HF:Hid (s.fin l=s.fail 2):=by
     show _=_
     unfold Cs.fin Cs.fail
     by_cases h:s.er=0
     · rw [if_pos ⟨h,h0⟩,if_pos h]
     · rw [if_neg (fun e=>h e.1),if_neg h]
   rw [HF.out]
   have HFa:=hid (fun W (h:Fr w W)=>Fail_cur 2 B base s l W (hc.fr h))
   have HE:=hid (fun(s2:Cs) W (h:CurF W 183 B base l s2.at_ s2.er)=>CErr_any B base s2.at_ s2.er l W h)
   obtain⟨m,hm⟩:∃ m,m=l.length - s.at_:=⟨_,rfl⟩
   have h1:(0:Int)<m:=by omega
   rw [<- hm]at HL
   clear hc hm h0 hle HF
   generalize s.fail 2=s2 at *
   go_enter Tryz.func79, Tryz.ntmps79
   go_wp2_with fail
   refine(HL.out).mono ?_
   rintro e w1 ⟨rfl,hf1⟩
   have HFa1:=hid (HFa.out w1 hf1)
   go_wp2_with fail
   refine(HFa1.out).mono ?_
   rintro e w2 ⟨rfl,hC,hg⟩
   have HE2:=hid (HE.out s2 w2 hC)
   go_wp2_with fail
   refine(HE2.out).mono ?_
   rintro e w3 ⟨rfl,rfl⟩
   go_wp2_with fail
   go_ret
   exact⟨rfl,hC,(hf1.chg _).trans hg fun _ _ h=>h⟩
 · have HF:Hid (s.fin l=s):=by show _=_;unfold Cs.fin;rw [if_neg (fun e=>h0 e.2)]
   rw [HF.out]
   have HE:=hid (fun W (h:Fr w W)=>CErr_any B base s.at_ s.er l W (hc.fr h))
   have HC:=hid hc
   obtain hm:l.length - s.at_=0:=by omega
   rw [hm]at HL
   clear hc hm h0 hle HF
   go_enter Tryz.func79, Tryz.ntmps79
   go_wp2_with fail
   refine(HL.out).mono ?_
   rintro e w1 ⟨rfl,hf1⟩
   have HE2:=hid (HE.out w1 hf1)
   go_wp2_with fail
   refine(HE2.out).mono ?_
   rintro e w3 ⟨rfl,rfl⟩
   go_wp2_with fail
   go_ret
   exact⟨rfl,HC.out.fr hf1,hf1.chg _⟩
set_option maxRecDepth 512
theorem cells_hd(ps:List Hd):eHB.cells ps=ps.map Hd.v:=by
 induction ps with
 | nil=>rfl
 | cons p ps ih=>
  show [p.v]++eHB.cells ps=_
  rw [ih];rfl
theorem hd_of{w:World}{v:Value}{l:List UInt8}(h:See w eB v l):∃ p:Hd,v=p.v:=by
 obtain⟨a,cap,hv,_⟩:=h.shape
 exact⟨⟨a,_,cap⟩,hv⟩
theorem lit_sees2(w:World)(cs:Array Value)(T:TypeId)(ps:List Hd)(ls:List (List UInt8))(n:Nat)(hn:n=ps.length)(hcs:cs.toList=ps.map Hd.v)(hl:ps.length=ls.length)(hm:ps.length<=1000000)(h:∀ i (h1:i<ps.length) (h2:i<ls.length),See w eB ps[i].v ls[i]) :
  Sees2 (w.alloc (.cells cs T)) eHB eB (.slice (some ⟨w.heap.size,0,none⟩) n n) ps ls:=
 ⟨see_new eHB w ps cs T n hn (by rw [hcs,cells_hd]) (by unfold maxLen;omega),hl,fun i h1 h2=>(h i h1 h2).fr ((Fr.refl w).alloc _)⟩
theorem all2_any(va vb:Value)(la lb:List UInt8)(W:World)(ha:See W eB va la)(hb:See W eB vb lb)(hn:la.length+lb.length<=1000000) :
  Calls Tryz.prog 61 #[.slice (some ⟨W.heap.size,0,none⟩) 2 2] (W.alloc (.cells #[va,vb] 22)) fun e w'=>∃ v,e=.returned v/\Ow w' W.heap.size eB v (la++lb)/\Fr W w':=by
 obtain⟨pa,rfl⟩:=hd_of ha
 obtain⟨pb,rfl⟩:=hd_of hb
 have h2 := lit_sees2 W #[pa.v, pb.v] 22 [pa, pb] [la, lb] 2 rfl rfl rfl (by simp) (fun i h1 h2 => by
  match i, h1 with
  | 0, _ => exact ha
  | 1, _ => exact hb)
 refine(All_any _ _ _ _ h2 (by simp;omega)).mono ?_
 rintro e w' ⟨v,rfl,ho,hf⟩
 exact⟨v,rfl,by simpa using ho.rebase (b:=W.heap.size) (by simp),((Fr.refl W).alloc _).trans hf⟩
theorem all3_any(va vb vc:Value)(la lb lc:List UInt8)(W:World)(ha:See W eB va la)(hb:See W eB vb lb)(hc:See W eB vc lc)(hn:la.length+lb.length+lc.length<=1000000) :
  Calls Tryz.prog 61 #[.slice (some ⟨W.heap.size,0,none⟩) 3 3] (W.alloc (.cells #[va,vb,vc] 22)) fun e w'=>∃ v,e=.returned v/\Ow w' W.heap.size eB v (la++lb++lc)/\Fr W w':=by
 obtain⟨pa,rfl⟩:=hd_of ha
 obtain⟨pb,rfl⟩:=hd_of hb
 obtain⟨pc,rfl⟩:=hd_of hc
 have h2 := lit_sees2 W #[pa.v, pb.v, pc.v] 22 [pa, pb, pc] [la, lb, lc] 3 rfl rfl rfl (by simp) (fun i h1 h2 => by
  match i, h1 with
  | 0, _ => exact ha
  | 1, _ => exact hb
  | 2, _ => exact hc)
 refine(All_any _ _ _ _ h2 (by simp;omega)).mono ?_
 rintro e w' ⟨v,rfl,ho,hf⟩
 exact⟨v,rfl,by simpa using ho.rebase (b:=W.heap.size) (by simp),((Fr.refl W).alloc _).trans hf⟩
set_option maxRecDepth 100000
theorem rmay_any(k m:Nat)(hk:1<=k)(hkm:k+m<=255)(w:World):Calls Tryz.prog 114 #[N k,N m] w fun e w'=>e=.returned (.bool true)/\w=w':=by
 have h1:(1:Int)<=k:=by omega
 have h2:(0:Int)<=m:=by omega
 have h3:(k:Int)<=255:=by omega
 have h4:(m:Int)<=255:=by omega
 have h5:(k:Int)+m<=255:=by omega
 go_enter Tryz.func114, Tryz.ntmps114
 go_wp2_with fail
 go_ret
 exact⟨rfl,rfl⟩
theorem RMay_any(k m:Nat)(hk:1<=k)(hkm:k+m<=255)(w:World):Calls Tryz.prog 138 #[N k,N m] w fun e w'=>e=.returned (.bool true)/\w=w':=by
 have h1:(1:Int)<=k:=by omega
 have h2:(0:Int)<=m:=by omega
 have h3:(k:Int)<=255:=by omega
 have h4:(m:Int)<=255 - k:=by omega
 go_enter Tryz.func138, Tryz.ntmps138
 go_wp2_with fail
 go_ret
 exact⟨rfl,rfl⟩
set_option maxRecDepth 512
def AlikeL(L:Nat)(hs:List Hd):Prop:=∀ i (h:i<hs.length),hs[i].n=L
theorem alike_of{w:World}{v:Value}{hs:List Hd}{ls:List (List UInt8)}{L:Nat}(hv:Sees2 w eHB eB v hs ls)(hl:∀ p∈ls,p.length=L):AlikeL L hs:=by
 intro i h
 have h2:i<ls.length:=by rw [<- hv.2.1];exact h
 obtain⟨a,cap,hh,_⟩:=(hv.2.2 i h h2).shape
 have e:=hl _ (List.getElem_mem h2)
 generalize hs[i]=x at *
 obtain⟨xa,xn,xc⟩:=x
 simp only [Hd.v,Value.slice.injEq]at hh
 rw [<- e]
 exact hh.2.1
set_option maxRecDepth 100000
theorem alike_any(v:Value)(hs:List Hd)(L:Nat)(w:World)(hv:See w eHB v hs)(hl:AlikeL L hs) :
  Calls Tryz.prog 115 #[v] w fun e w'=>e=.returned (.bool true)/\w=w':=by
 obtain⟨a,cap,hva,hc1,hc2,hnn⟩:=hv.shape
 subst hva
 unfold maxLen at hc2
 go_enter Tryz.func115, Tryz.ntmps115
 go_wp2_with fail
 go_loop [7] (fun iv=>∃ i:Nat,i<=hs.length/\iv=N i) (fun iv=>hs.length - (intOf iv).toNat)
 case atStart=>exact⟨0,Nat.zero_le _,rfl⟩
 case round=>
  obtain⟨i,hi,rfl⟩:=hrel
  by_cases hlt:i<hs.length
  · obtain⟨b,off,c,hv1,e1⟩:=hv.cell1 (fun(h:Hd)=>h.v) rfl i hlt
    obtain⟨b2,off2,c2,hv2,e2⟩:=hv.cell1 (fun(h:Hd)=>h.v) rfl 0 (by omega)
    have g1:=hl i hlt
    have g2:=hl 0 (by omega)
    generalize hs[i]=x at *
    generalize hs[0]'(by omega)=y at *
    obtain⟨xa,xn,xc⟩:=x
    obtain⟨ya,yn,yc⟩:=y
    simp only at g1 g2
    subst g1 g2
    cases hv1
    simp only [Value.slice.injEq,Option.some.injEq,Addr.mk.injEq,and_true]at hv2
    obtain⟨⟨rfl,rfl⟩,_,rfl⟩:=hv2
    simp only [Hd.v,Nat.add_zero]at e1 e2
    have i1:(0:Int)<=i:=by omega
    have i2:(i:Int)<hs.length:=by omega
    have i3:(0:Int)<hs.length:=by omega
    go_wp2_with fail
    go_round
    case rel=>exact⟨i+1,by omega,by go_num⟩
    case measure=>simp [intOf];omega
  · obtain rfl:i=hs.length:=by omega
    have hnl:¬((hs.length:Int)<hs.length):=by omega
    go_wp2_with fail
    go_ret
    exact⟨rfl,rfl⟩
theorem RAlike_any(v:Value)(hs:List Hd)(L:Nat)(w:World)(hp:1<=hs.length)(hv:See w eHB v hs)(hl:AlikeL L hs) :
  Calls Tryz.prog 139 #[v] w fun e w'=>e=.returned (.bool true)/\Fr w w':=by
 obtain⟨a,cap,hva,hc1,hc2,hnn⟩:=hv.shape
 subst hva
 unfold maxLen at hc2
 go_enter Tryz.func139, Tryz.ntmps139
 go_wp2_with fail
 go_loopw [3] (fun iv wr=>∃ i:Nat,1<=i/\i<=hs.length/\iv=N i/\Fr w wr) (fun iv _=>hs.length - (intOf iv).toNat)
 case atStart=>exact⟨1,Nat.le_refl _,hp,rfl,Fr.refl w⟩
 case round=>
  obtain⟨i,hi1,hi,rfl,hf⟩:=hrel
  by_cases hlt:i<hs.length
  · obtain⟨b,off,c,hv1,e1⟩:=(hv.fr hf).cell1 (fun(h:Hd)=>h.v) rfl i hlt
    obtain⟨b2,off2,c2,hv2,e2⟩:=(hv.fr hf).cell1 (fun(h:Hd)=>h.v) rfl 0 (by omega)
    have g1:=hl i hlt
    have g2:=hl 0 (by omega)
    generalize hs[i]=x at *
    generalize hs[0]'(by omega)=y at *
    obtain⟨xa,xn,xc⟩:=x
    obtain⟨ya,yn,yc⟩:=y
    simp only at g1 g2
    subst g1 g2
    cases hv1
    simp only [Value.slice.injEq,Option.some.injEq,Addr.mk.injEq,and_true]at hv2
    obtain⟨⟨rfl,rfl⟩,_,rfl⟩:=hv2
    simp only [Hd.v,Nat.add_zero]at e1 e2
    have i1:(0:Int)<=i:=by omega
    have i2:(i:Int)<hs.length:=by omega
    have i3:(0:Int)<hs.length:=by omega
    go_wp2_with fail
    go_quiet (fail)
    go_wp2_with fail
    go_roundw
    case rel=>exact⟨i+1,by omega,by omega,by go_num,hf.drewN _⟩
    case measure=>simp [intOf];omega
  · obtain rfl:i=hs.length:=by omega
    have hnl:¬((hs.length:Int)<hs.length):=by omega
    go_wp2_with fail
    go_ret
    exact⟨rfl,hf⟩
set_option maxRecDepth 512
set_option maxRecDepth 100000
theorem BConcat_big(v:Value)(hs:List Hd)(ls:List (List UInt8))(w:World)(hv:Sees2 w eHB eB v hs ls)(hn:ls.flatten.length<=100000000) :
  Calls Tryz.prog 110 #[v] w fun e w'=>∃ v,e=.returned v/\Ow w' w.heap.size eB v ls.flatten/\Fr w w':=by
 obtain⟨a,cap,hva,hc1,hc2,hnn⟩:=hv.1.shape
 unfold maxLen at hc2
 subst hva
 have hlen:=hv.2.1
 have HL:=hid hlen
 have HN:=hid hnn
 clear hlen hnn
 have hll:ls.length<=9223372036854775807:=by have:=HL.out;omega
 go_enter Tryz.func110, Tryz.ntmps110
 go_wp2_with fail
 go_loop [3,11] (fun nv iv=>∃ k n:Nat,k<=hs.length/\iv=N k/\nv=N n/\Hid (n=(ls.take k).flatten.length)) (fun _ iv=>hs.length - (intOf iv).toNat)
 case atStart=>exact⟨0,0,Nat.zero_le _,rfl,rfl,rfl⟩
 case round=>
  obtain⟨k,n,hk,rfl,rfl,HK⟩:=hrel
  have hnl:n<=100000000:=by have h1:=flat_take_le ls k;have:=HK.out;omega
  by_cases hlt:k<hs.length
  · obtain⟨b,off,cap',hv2,e0⟩:=hv.1.cell1 (fun(h:Hd)=>h.v) rfl k hlt
    have hlt2:k<ls.length:=by have:=HL.out;omega
    have hsee:=hv.2.2 k hlt hlt2
    have HK2:Hid (n+ls[k].length=(ls.take (k+1)).flatten.length):=by show _=_;rw [flat_snoc ls k hlt2,List.length_append,<- HK.out]
    have hl2:=flat_take_le ls (k+1)
    have hl3:n+ls[k].length<=100000000:=by have:=HK2.out;omega
    obtain⟨a2,c2,hh,_⟩:=hsee.shape
    generalize hs[k]=h at *
    obtain⟨ha,hn2,hcc⟩:=h
    simp only [Hd.v,Value.slice.injEq]at hh
    obtain⟨rfl,hnn,rfl⟩:=hh
    rw [<- hnn]at HK2 hl3
    clear hnn hl2
    simp only [Hd.v]at e0
    cases hv2
    have i1:(0:Int)<=k:=by omega
    have i2:(k:Int)<hs.length:=by omega
    have hw1:IntKind.i64.wrap ((n:Int)+hn2)=(n:Int)+hn2:=IntWalk.i64_in _ (by omega)
    have hge:¬(n:Int)+hn2<0:=by omega
    go_wp2_with fail
    go_round
    case rel=>exact⟨k+1,n+hn2,by omega,by go_num,by go_num,HK2⟩
    case measure=>simp [intOf];omega
  · have HK2:Hid (n=ls.flatten.length):=by have:=HK.out;rw [List.take_of_length_le (by have:=HL.out;omega)]at this;exact this
    clear HK
    go_wp2_with fail
    refine(BGrow_any n _ (by omega)).mono ?_
    rintro e w1 ⟨v1,rfl,hown1,hf1⟩
    go_wp2_with fail
    go_loopw [6,27] (fun ov iv wr=>∃ k:Nat,k<=hs.length/\iv=N k/\Ow wr w.heap.size eB ov (ls.take k).flatten/\Fr w wr) (fun _ iv _=>hs.length - (intOf iv).toNat)
    case atStart=>exact⟨0,Nat.zero_le _,rfl,hown1,hf1⟩
    case round=>
     clear hown1
     obtain⟨k,hk2,rfl,hown,hf⟩:=hrel
     by_cases hlt:k<hs.length
     · have hv2:=hv.fr hf
       obtain⟨b,off,cap',hv3,e0⟩:=hv2.1.cell1 (fun(h:Hd)=>h.v) rfl k hlt
       have hlt2:k<ls.length:=by have:=HL.out;omega
       have hsee:=hv2.2.2 k hlt hlt2
       have HF:Hid ((ls.take (k+1)).flatten=(ls.take k).flatten++ls[k]):=flat_snoc ls k hlt2
       have hl2:=flat_take_le ls (k+1)
       rw [HF.out,List.length_append]at hl2
       generalize hs[k]=h at *
       cases hv3
       have i1:(0:Int)<=k:=by omega
       have i2:(k:Int)<hs.length:=by omega
       go_wp2_with (at_builtin;refine wpList_app eB rfl (.tmp 31) (.tmp 32) 22 rfl Tryz.underlying22 w.heap.size rfl hown _ _ rfl hsee ?c1 hf.size ?_)
       case c1=>omega
       intro v' w4 hap
       go_wp2_with fail
       go_roundw
       case rel=>exact⟨k+1,by omega,by go_num,by rw [HF.out];exact hap.own,hap.below hown hf (Nat.le_refl _) hf.size⟩
       case measure=>simp [intOf];omega
     · rw [List.take_of_length_le (by have:=HL.out;omega)]at hown
       go_wp2_with fail
       go_ret
       exact⟨_,rfl,hown,hf⟩
set_option maxRecDepth 512
theorem All_big(v:Value)(hs:List Hd)(ls:List (List UInt8))(w:World)(hv:Sees2 w eHB eB v hs ls)(hn:ls.flatten.length<=100000000) :
  Calls Tryz.prog 61 #[v] w fun e w'=>∃ v,e=.returned v/\Ow w' w.heap.size eB v ls.flatten/\Fr w w':=by
 obtain⟨a,cap,hva,_⟩:=hv.1.shape
 have HC:=hid (BConcat_big v hs ls w hv hn)
 subst hva
 go_enter Tryz.func61, Tryz.ntmps61
 go_wp2_with fail
 refine HC.out.mono ?_
 rintro e w1 ⟨v1,rfl,hown,hf⟩
 go_wp2_with fail
 go_ret
 exact⟨_,rfl,hown,hf⟩
theorem all3_big(va vb vc:Value)(la lb lc:List UInt8)(W:World)(ha:See W eB va la)(hb:See W eB vb lb)(hc:See W eB vc lc)(hn:la.length+lb.length+lc.length<=100000000) :
  Calls Tryz.prog 61 #[.slice (some ⟨W.heap.size,0,none⟩) 3 3] (W.alloc (.cells #[va,vb,vc] 22)) fun e w'=>∃ v,e=.returned v/\Ow w' W.heap.size eB v (la++lb++lc)/\Fr W w':=by
 obtain⟨pa,rfl⟩:=hd_of ha
 obtain⟨pb,rfl⟩:=hd_of hb
 obtain⟨pc,rfl⟩:=hd_of hc
 have h2 := lit_sees2 W #[pa.v, pb.v, pc.v] 22 [pa, pb, pc] [la, lb, lc] 3 rfl rfl rfl (by simp) (fun i h1 h2 => by
  match i, h1 with
  | 0, _ => exact ha
  | 1, _ => exact hb
  | 2, _ => exact hc)
 refine(All_big _ _ _ _ h2 (by simp;omega)).mono ?_
 rintro e w' ⟨v,rfl,ho,hf⟩
 exact⟨v,rfl,by simpa using ho.rebase (b:=W.heap.size) (by simp),((Fr.refl W).alloc _).trans hf⟩
theorem mark_short(l:List UInt8)(h:l.length<=4):markV l=(0,1):=by unfold markV;rw [if_pos h]
theorem mark_magic(l:List UInt8)(h:¬l.length<=4)(h2:¬l.take 4=[70,73,82,75]):markV l=(0,3):=by unfold markV;rw [if_neg h,if_neg h2]
theorem mark_yes(l:List UInt8)(h:¬l.length<=4)(h2:l.take 4=[70,73,82,75])(h3:1<=(l.getD 4 0).toNat/\(l.getD 4 0).toNat<=3):markV l=((l.getD 4 0).toNat,0):=by unfold markV;rw [if_neg h,if_pos h2,if_pos h3]
theorem mark_no(l:List UInt8)(h:¬l.length<=4)(h2:l.take 4=[70,73,82,75])(h3:¬(1<=(l.getD 4 0).toNat/\(l.getD 4 0).toNat<=3)):markV l=(0,4):=by unfold markV;rw [if_neg h,if_pos h2,if_neg h3]
set_option maxRecDepth 100000
theorem OMarked_any(v:Value)(l:List UInt8)(w:World)(hs:See w eB v l) :
  Calls Tryz.prog 120 #[v] w fun e w'=>e=.returned (.tuple #[N (markV l).1,.int .i64 ((markV l).2:Int)])/\Fr w w':=by
 obtain⟨a0,cap,hv,hc1,hc2,_⟩:=hs.shape
 subst hv
 unfold maxLen at hc2
 by_cases h4:l.length<=4
 · have h4':(l.length:Int)<=4:=by omega
   have HE:=hid (mark_short l h4)
   rw [HE.out]
   go_enter Tryz.func120, Tryz.ntmps120
   go_wp2_with fail
   go_ret2
   exact⟨rfl,Fr.refl w⟩
 · have h4':¬(l.length:Int)<=4:=by omega
   obtain⟨htr,hts⟩:=run_to eB 22 Tryz.underlying22 hs 4 (by omega)
   have hconv:=fun W (h:Fr w W)=>conv_at _ (l.take 4) W (hts.fr h)
   have HCv:=hid hconv
   have hcw:=hconv w (Fr.refl w)
   clear hconv
   have i1:(4:Int)<l.length:=by omega
   by_cases hm:l.take 4=[70,73,82,75]
   · rw [hm]at hcw
     obtain⟨b,off,cp,hv9,e9⟩:=hs.cell1 Fk.u8 rfl 4 (by omega)
     simp only [Value.slice.injEq]at hv9
     obtain⟨rfl,hk,rfl⟩:=hv9
     clear hk
     rw [<- getD_at l 4 0 (by omega)]at e9
     have e10:w.cell? ⟨b,off+4,none⟩=some (.int .u8 ((l.getD 4 0).toNat:Int)):=e9
     have HMy:=hid (mark_yes l h4 hm)
     have HMn:=hid (mark_no l h4 hm)
     have HW:=hid (fun x=>ow_any x 1 3)
     have hxl:=(l.getD 4 0).toNat_lt
     generalize (l.getD 4 0).toNat=x at *
     generalize markV l=mv at *
     have hw1:IntKind.i64.wrap (x:Int)=(x:Int):=wrap_i64 _ (by omega)
     clear e9 hts hm
     go_enter Tryz.func120, Tryz.ntmps120
     go_wp2_with fail
     refine((HW.out _) _).mono ?_
     rintro e w1 ⟨rfl,rfl⟩
     by_cases hx:1<=x/\x<=3
     · have HE:=hid (HMy.out hx)
       have hdx:decide ((1:Int)<=(x:Int)/\(x:Int)<=3)=true:=decide_eq_true (by omega)
       rw [hdx]
       go_wp2_with fail
       go_ret2
       exact⟨by rw [HE.out];rfl,Fr.refl w⟩
     · have HE:=hid (HMn.out hx)
       have hdx:decide ((1:Int)<=(x:Int)/\(x:Int)<=3)=false:=decide_eq_false (by omega)
       rw [hdx]
       go_wp2_with fail
       go_ret2
       exact⟨by rw [HE.out];rfl,Fr.refl w⟩
   · have HE:=hid (mark_magic l h4 hm)
     rw [HE.out]
     have hne2:¬(⟨(l.take 4).toArray⟩:ByteArray)=⟨#[70,73,82,75]⟩:=by
      intro e
      have:=congrArg (fun b:ByteArray=>b.data.toList) e
      exact hm (by simpa using this)
     have hb1:(l.take 4 == [70,73,82,75])=false:=by simpa using hm
     have hb5:¬(l.take 4).toArray=#[70,73,82,75]:=fun e=>hm (by simpa using congrArg Array.toList e)
     go_enter Tryz.func120, Tryz.ntmps120
     go_wp2_with fail
     go_ret2
     exact⟨rfl,Fr.refl w⟩
set_option maxRecDepth 512
theorem err_zero(l:List UInt8):(errCut l=0)↔okCut l=true:=by
 unfold errCut
 cases h:okCut l
 · simp;split <;> omega
 · simp
set_option maxRecDepth 100000
theorem counts_any(v:Value)(l:List UInt8)(w:World)(hs:See w eB v l)(hn:l.length<=1000000)(ht:Crc w) :
  Calls Tryz.prog 70 #[v] w fun e w'=>e=.returned (.bool (countB l))/\Fr w w':=by
 have HC:=hid (Cut_any v l w hs hn ht)
 have HM:=hid (fun W (h:Fr w W)=>OMarked_any v l W (hs.fr h))
 have HB:Hid (countB l=(okCut l && decide (markV l=(3,0)))):=rfl
 have HZ:=hid (err_zero l)
 obtain⟨a0,cap,hv,_⟩:=hs.shape
 subst hv
 clear hs ht
 generalize countB l=R at *
 generalize hmv:markV l=mv at *
 obtain⟨ver,er⟩:=mv
 clear hmv
 generalize okCut l=ok at *
 generalize errCut l=ec at *
 generalize cutB l=q at *
 simp only at HM
 go_enter Tryz.func70, Tryz.ntmps70
 go_wp2_with fail
 refine(HC.out).mono ?_
 rintro e w1 ⟨u,rfl,hu,hf1⟩
 obtain⟨p1,z1,hq1⟩:=hu.shape'
 subst hq1
 clear hu
 go_wp2_with fail
 refine(HM.out _ hf1).mono ?_
 rintro e w2 ⟨rfl,hf2⟩
 have hf:=hf1.trans hf2
 by_cases h1:ec=0
 · have hok:=HZ.out.1 h1
   subst hok h1
   by_cases h2:er=0
   · subst h2
     by_cases h3:ver=3
     · subst h3
       have HR:Hid (R=true):=by show _=_;rw [HB.out];rfl
       go_wp2_with fail
       go_ret
       exact⟨by rw [HR.out];rfl,hf⟩
     · have h3':¬(ver:Int)=3:=by omega
       have HR:Hid (R=false):=by show _=_;rw [HB.out,Bool.true_and];exact decide_eq_false (fun e=>h3 (Prod.mk.inj e).1)
       have hb:((ver:Int) == 3)=false:=by simpa using h3'
       clear h3
       go_wp2_with fail
       go_ret
       exact⟨by rw [HR.out];rfl,hf⟩
   · have h2':¬(er:Int)=0:=by omega
     have HR:Hid (R=false):=by show _=_;rw [HB.out,Bool.true_and];exact decide_eq_false (fun e=>h2 (Prod.mk.inj e).2)
     clear h2
     go_wp2_with fail
     go_ret
     exact⟨by rw [HR.out];rfl,hf⟩
 · have hok:ok=false:=by cases ok;rfl;exact absurd (HZ.out.2 rfl) h1
   have h1':¬(ec:Int)=0:=by omega
   have HR:Hid (R=false):=by show _=_;rw [HB.out,hok];rfl
   clear h1
   go_wp2_with fail
   go_ret
   exact⟨by rw [HR.out];rfl,hf⟩
theorem copies_no(v:Value)(l:List UInt8)(w:World)(hs:See w eB v l)(hl:l.length<42) :
  Calls Tryz.prog 30 #[v] w fun e w'=>e=.returned (.tuple #[.slice none 0 0,.slice none 0 0,.bool false])/\Fr w w':=by
 obtain⟨a0,cap,hv,_⟩:=hs.shape
 subst hv
 have h42:(l.length:Int)<42:=by omega
 go_enter Tryz.func30, Tryz.ntmps30
 go_wp2_with fail
 exact bodyPost_ret (v:=.tuple #[.slice none 0 0,.slice none 0 0,.bool false]) (by simp [results,Tryz.results30,go_sem, *]) rfl ⟨rfl,Fr.refl w⟩
theorem copies_any(v:Value)(l:List UInt8)(w:World)(hs:See w eB v l)(hl:42<=l.length) :
  Calls Tryz.prog 30 #[v] w fun e w'=>∃ v1 v2,e=.returned (.tuple #[v1,v2,.bool true])/\See w' eB v1 (l.take 21)/\See w' eB v2 (l.drop (l.length - 21))/\Fr w w':=by
 obtain⟨a0,cap,hv,hc1,hc2,_⟩:=hs.shape
 subst hv
 unfold maxLen at hc2
 have h42:¬(l.length:Int)<42:=by omega
 obtain⟨htr,hts⟩:=run_to eB 22 Tryz.underlying22 hs 21 (by omega)
 obtain⟨f1,f2,hfr,hfs⟩:=run_from eB 22 Tryz.underlying22 hs (l.length - 21) (by omega)
 have hw1:IntKind.i64.wrap ((l.length:Int) - 21)=((l.length - 21:Nat):Int):=by rw [show(l.length:Int) - 21=((l.length - 21:Nat):Int) by omega];exact IntWalk.i64_in _ (by omega)
 have HT:=hid hts
 have HF:=hid hfs
 clear hts hfs hs
 generalize l.length - (l.length - 21)=m at *
 generalize hk:l.length - 21=k at *
 clear hk
 go_enter Tryz.func30, Tryz.ntmps30
 go_wp2_with fail
 go_quiet (fail)
 go_wp2_with fail
 exact bodyPost_ret (v:=.tuple #[.slice a0 21 cap,.slice f1 m f2,.bool true]) (by simp [results,Tryz.results30,go_sem, *]) rfl ⟨_,_,rfl,HT.out.fr ((Fr.refl w).drewN _),HF.out.fr ((Fr.refl w).drewN _),(Fr.refl w).drewN _⟩
set_option maxRecDepth 512
def headOf(l:List UInt8):List UInt8:=if countB (l.take 21)then l.take 21 else l.drop (l.length - 21)
def hasB(l:List UInt8):Bool:=countB (l.take 21) || countB (l.drop (l.length - 21))
set_option maxRecDepth 100000
theorem choose_short(v:Value)(l:List UInt8)(w:World)(hs:See w eB v l)(hl:l.length<42) :
  Calls Tryz.prog 27 #[v] w fun e w'=>e=.returned (.tuple #[.slice none 0 0,.int .i64 1])/\Fr w w':=by
 have HC:=hid (copies_no v l w hs hl)
 obtain⟨a0,cap,hv,_⟩:=hs.shape
 subst hv
 clear hs
 go_enter Tryz.func27, Tryz.ntmps27
 go_wp2_with fail
 refine(HC.out).mono ?_
 rintro e w1 ⟨rfl,hf1⟩
 go_wp2_with fail
 go_ret2
 exact⟨rfl,hf1⟩
theorem choose_any(v:Value)(l:List UInt8)(w:World)(hs:See w eB v l)(hl:42<=l.length)(hn:l.length<=1000000)(ht:Crc w) :
  Calls Tryz.prog 27 #[v] w fun e w'=>∃ u,e=.returned (.tuple #[u,.int .i64 ((if hasB l then 0 else 5:Nat):Int)])/\(hasB l=true->See w' eB u (headOf l))/\(hasB l=false->u=.slice none 0 0)/\Fr w w':=by
 have HC:=hid (copies_any v l w hs hl)
 have H1:=hid (fun W v1 (h:See W eB v1 (l.take 21)) (h2:Fr w W)=>counts_any v1 (l.take 21) W h (by rw [List.length_take];omega) (ht.fr h2))
 have H2:=hid (fun W v1 (h:See W eB v1 (l.drop (l.length - 21))) (h2:Fr w W)=>counts_any v1 (l.drop (l.length - 21)) W h (by rw [List.length_drop];omega) (ht.fr h2))
 have HH:Hid (hasB l=(countB (l.take 21) || countB (l.drop (l.length - 21)))):=rfl
 have HO:Hid (headOf l=if countB (l.take 21)then l.take 21 else l.drop (l.length - 21)):=rfl
 obtain⟨a0,cap,hv,_⟩:=hs.shape
 subst hv
 clear hs ht
 generalize l.take 21=L1 at *
 generalize l.drop (l.length - 21)=L2 at *
 generalize countB L1=b1 at *
 generalize countB L2=b2 at *
 generalize hasB l=R at *
 generalize headOf l=H at *
 obtain⟨ec,hec⟩:∃ q:Nat,q=(if R then 0 else 5):=⟨_,rfl⟩
 rw [<- hec]
 have HEc:=hid hec
 clear hec
 go_enter Tryz.func27, Tryz.ntmps27
 go_wp2_with fail
 refine(HC.out).mono ?_
 rintro e w1 ⟨v1,v2,rfl,hs1,hs2,hf1⟩
 have H1':=hid (H1.out w1 v1 hs1 hf1)
 obtain⟨p1,z1,hq1,_⟩:=hs1.shape
 subst hq1
 obtain⟨p2,z2,hq2,_⟩:=hs2.shape
 subst hq2
 go_wp2_with fail
 refine(H1'.out).mono ?_
 rintro e w2 ⟨rfl,hf2⟩
 have hf02:=hf1.trans hf2
 cases b1 with
 | true=>
  have HR:Hid (R=true):=by show _=_;rw [HH.out];rfl
  have HO':Hid (H=L1):=by show _=_;rw [HO.out];rfl
  go_wp2_with fail
  go_ret2
  exact⟨_,by rw [HEc.out,HR.out];rfl,fun _=>by rw [HO'.out];exact hs1.fr hf2,fun h=>(by rw [HR.out]at h;cases h),hf02⟩
 | false=>
  have HO':Hid (H=L2):=by show _=_;rw [HO.out];rfl
  have H2':=hid (H2.out w2 _ (hs2.fr hf2) hf02)
  go_wp2_with fail
  refine(H2'.out).mono ?_
  rintro e w3 ⟨rfl,hf3⟩
  have hf03:=hf02.trans hf3
  cases b2 with
  | true=>
   have HR:Hid (R=true):=by show _=_;rw [HH.out];rfl
   go_wp2_with fail
   go_ret2
   exact⟨_,by rw [HEc.out,HR.out];rfl,fun _=>by rw [HO'.out];exact hs2.fr (hf2.trans hf3),fun h=>(by rw [HR.out]at h;cases h),hf03⟩
  | false=>
   have HR:Hid (R=false):=by show _=_;rw [HH.out];rfl
   go_wp2_with fail
   go_ret2
   exact⟨_,by rw [HEc.out,HR.out];rfl,fun h=>(by rw [HR.out]at h;cases h),fun _=>rfl,hf03⟩
set_option maxRecDepth 512
structure BrF (w:World) (B base:Nat) (l:List UInt8) (n a:Nat):Prop where
 h:∃ v,w.heap[B]?=some (.cells #[v,N n,N a] 355 (0,0))/\Ow w base eB v l
 eq:n=8*l.length
 le:a<=n
theorem BrF.fr{w w':World}{B base n a:Nat}{l:List UInt8}(h:BrF w B base l n a)(hf:Fr w w'):BrF w' B base l n a:=by
 obtain⟨⟨v,h1,h2⟩,h3,h4⟩:=h
 exact⟨⟨v,hf.heap h1,h2.fr hf⟩,h3,h4⟩
set_option maxRecDepth 100000
theorem BNew_any(v:Value)(l:List UInt8)(w:World)(hs:See w eB v l)(hn:l.length<=1000000) :
  Calls Tryz.prog 228 #[v] w fun e w'=>∃ B,e=.returned (.pointer (some ⟨B,0,none⟩))/\BrF w' B w.heap.size l (8*l.length) 0/\Fr w w'/\w.heap.size<=B:=by
 have HC:=hid (BClone_any v l w hs hn)
 obtain⟨a0,cap,hv,_⟩:=hs.shape
 subst hv
 clear hs
 go_enter Tryz.func228, Tryz.ntmps228
 go_wp2_with fail
 refine(HC.out).mono ?_
 rintro e w1 ⟨u,rfl,hu,hf⟩
 obtain⟨p,z,hq⟩:=hu.shape'
 subst hq
 go_wp2_with fail
 go_ret
 exact⟨w1.heap.size,rfl,⟨⟨_,by rw [heap_new _ _ _ rfl];simp,hu.fr ((Fr.refl w1).alloc _)⟩,rfl,Nat.zero_le _⟩,hf.alloc _,hf.size⟩
theorem BLeft_any(B base n a:Nat)(l:List UInt8)(w:World)(hc:BrF w B base l n a)(hl:l.length<=1000000) :
  Calls Tryz.prog 231 #[.pointer (some ⟨B,0,none⟩)] w fun e w'=>e=.returned (.int .i64 ((n:Int) - a))/\Qt w w':=by
 obtain⟨⟨v,h1,ho⟩,hn,hle⟩:=hc
 have c1:w.cell? ⟨B,1,none⟩=some (N n):=by rw [cell_of_heap h1];rfl
 have c2:w.cell? ⟨B,2,none⟩=some (N a):=by rw [cell_of_heap h1];rfl
 have hw:IntKind.i64.wrap ((n:Int) - a)=(n:Int) - a:=IntWalk.i64_in _ (by omega)
 clear h1 ho hn
 go_enter Tryz.func231, Tryz.ntmps231
 go_wp2_with fail
 go_quiet (fail)
 go_wp2_with fail
 go_ret
 exact⟨rfl,Qt.drewN _ _⟩
theorem bbit_any(B base n a i:Nat)(l:List UInt8)(w:World)(hc:BrF w B base l n a)(hl:l.length<=1000000)(hi:i<n) :
  Calls Tryz.prog 261 #[.pointer (some ⟨B,0,none⟩),N i] w fun e w'=>e=.returned (.int .u64 (bitR l i:Int))/\w=w':=by
 obtain⟨⟨v,h1,ho⟩,hn,hle⟩:=hc
 have hi8:i / 8<l.length:=by omega
 obtain⟨b,off,cp,hv,c0⟩:=ho.see.cell1 Fk.u8 rfl (i / 8) hi8
 subst hv
 have c1:w.cell? ⟨B,0,none⟩=some (.slice (some ⟨b,off,none⟩) l.length cp):=by rw [cell_of_heap h1];rfl
 have d0:w.cell? ⟨b,off+i / 8,none⟩=some (.int .u8 (l[i / 8].toNat:Int)):=c0
 have hx:=l[i / 8].toNat_lt
 have HB:Hid (bits .and .u64 (IntKind.u64.wrap ((l[i / 8].toNat:Int) / 2 ^ (7 - i % 8))) 1=(bitR l i:Int)):=by
  show _=_
  have h1:l[i / 8].toNat / 2 ^ (7 - i % 8)<=l[i / 8].toNat:=Nat.div_le_self _ _
  rw [show(l[i / 8].toNat:Int) / 2 ^ (7 - i % 8)=((l[i / 8].toNat / 2 ^ (7 - i % 8):Nat):Int)from by simp,bitR_at l i hi8]
  generalize l[i / 8].toNat / 2 ^ (7 - i % 8)=q at *
  rw [IntWalk.u64_in _ (by omega),and1_u64 _ (by omega)]
 generalize l[i / 8].toNat=x at *
 generalize bitR l i=r at *
 have j1:IntKind.i64.wrap ((i:Int) / 8)=(i:Int) / 8:=IntWalk.i64_in _ (by omega)
 have j2:(i:Int).tmod 8=(i:Int) % 8:=Int.tmod_eq_emod_of_nonneg (by omega)
 have j2':IntKind.i64.wrap ((i:Int) % 8)=(i:Int) % 8:=IntWalk.i64_in _ (by omega)
 have j3:IntKind.i64.wrap (7 - (i:Int) % 8)=7 - (i:Int) % 8:=IntWalk.i64_in _ (by omega)
 have i1:(i:Int) / 8<l.length:=by omega
 have i2:(0:Int)<=(i:Int) / 8:=by omega
 have i3:((i:Int) / 8).toNat=i / 8:=by omega
 have i4:(0:Int)<=7 - (i:Int) % 8:=by omega
 have i5:(7 - (i:Int) % 8).toNat=7 - i % 8:=by omega
 clear c0 ho h1 hn hi8
 go_enter Tryz.func261, Tryz.ntmps261
 go_wp2_with fail
 go_ret
 exact⟨by rw [HB.out];rfl,rfl⟩
set_option maxRecDepth 512
theorem BrF.drewN{w:World}{B base n a:Nat}{l:List UInt8}(h:BrF w B base l n a)(m:Nat):BrF (w.drewN m) B base l n a:=h.fr ((Fr.refl w).drewN m)
theorem or_u64m(a b:Nat)(ha:a<18446744073709551616)(hb:b<18446744073709551616):bits .or .u64 (a:Int) (b:Int)=((a ||| b:Nat):Int):=by
 have hx:a ||| b<2 ^ 64:=Nat.or_lt_two_pow (by omega) (by omega)
 show IntKind.u64.wrap ((BitVec.ofInt 64 (a:Int) ||| BitVec.ofInt 64 (b:Int)).toNat:Int)=_
 rw [BitVec.toNat_or,of_int 64 a (by omega),of_int 64 b (by omega)]
 exact IntWalk.u64_in _ (by omega)
set_option maxRecDepth 100000
theorem bnum_any(B base n a i k:Nat)(l:List UInt8)(w:World)(hc:BrF w B base l n a)(hl:l.length<=1000000)(hk:k<=64)(hi:i<=n) :
  Calls Tryz.prog 262 #[.pointer (some ⟨B,0,none⟩),N i,N k] w fun e w'=>e=.returned (.int .u64 (Fk.numAt l i k:Int))/\Qt w w':=by
 have HB:=hid (fun W j (h:Qt w W) (hj:j<n)=>bbit_any B base n a j l W (hc.fr h.fr) hl hj)
 have c1:w.cell? ⟨B,1,none⟩=some (N n):=by obtain⟨⟨v,h1,_⟩,_⟩:=hc;rw [cell_of_heap h1];rfl
 have hn8:n<=8000000:=by have:=hc.eq;omega
 have HO:Hid (∀ j,n<=j->bitR l j=0):=fun j hj=>bitR_out l j (by have:=hc.eq;omega)
 have HT:=hid (fun j=>bitR_two l (i+j))
 have HL:=hid (fun j=>numAt_lt l i j)
 clear hc
 go_enter Tryz.func262, Tryz.ntmps262
 go_wp2_with fail
 go_loopw [7,8] (fun xv iv wr=>∃ j x:Nat,j<=k/\iv=.int .i64 ((i:Int)+j)/\xv=.int .u64 (x:Int)/\Hid (x=Fk.numAt l i j)/\Qt w wr) (fun _ iv _=>i+k - (intOf iv).toNat)
 case atStart=>exact⟨0,0,Nat.zero_le _,by simp,rfl,rfl,Qt.refl _⟩
 case round=>
  obtain⟨j,x,hj,rfl,rfl,HX,hq⟩:=hrel
  have d1:=hq.fr.cell c1
  have hw1:IntKind.i64.wrap ((i:Int)+k)=(i:Int)+k:=IntWalk.i64_in _ (by omega)
  by_cases hlt:j<k
  · have hxb:x<9223372036854775808:=by
      have h1:=HL.out j
      have h2:(2:Nat) ^ j<=2 ^ 63:=Nat.pow_le_pow_right (by omega) (by omega)
      rw [<- HX.out]at h1
      omega
    have HXb:=hid hxb
    have hw2:IntKind.u64.wrap ((x:Int)*2)=((2*x:Nat):Int):=by rw [IntWalk.u64_in _ (by omega)];omega
    have hw3:IntKind.i64.wrap ((i:Int)+j+1)=(i:Int)+j+1:=IntWalk.i64_in _ (by omega)
    have j1:(i:Int)+j<(i:Int)+k:=by omega
    clear hxb
    by_cases hn:i+j<n
    · have hb2:=HT.out j
      have HB1:=hid (HB.out wr (i+j) hq hn)
      rw [show N (i+j)=.int .i64 ((i:Int)+j)from by simp [N]]at HB1
      have HX2:Hid (Fk.numAt l i (j+1)=2*x+bitR l (i+j)):=by show _=_;rw [HX.out];rfl
      have j2:(i:Int)+j<n:=by omega
      have HOr:Hid (bits .or .u64 (2*(x:Int)) ((bitR l (i+j):Nat):Int)=((2*x+bitR l (i+j):Nat):Int)):=by
       show _=_;have:=HXb.out;rw [show 2*(x:Int)=((2*x:Nat):Int)from by simp,or_u64m _ _ (by omega) (by omega),or1 _ _ (by omega)]
      generalize bitR l (i+j)=b at *
      go_wp2_with fail
      refine(HB1.out).mono ?_
      rintro e w1 ⟨rfl,rfl⟩
      clear HB1
      go_wp2_with fail
      go_roundw
      case rel=>exact⟨j+1,2*x+b,by omega,by go_num,by rw [<- HOr.out],by show _=_;rw [HX2.out],hq⟩
      case measure=>simp [intOf];omega
    · have HX2:Hid (2*x=Fk.numAt l i (j+1)):=by show _=_;rw [HX.out];show _=2*Fk.numAt l i j+bitR l (i+j);rw [HO.out _ (by omega)];rfl
      have j2:¬(i:Int)+j<n:=by omega
      go_wp2_with fail
      go_roundw
      case rel=>exact⟨j+1,2*x,by omega,by go_num,rfl,HX2.out,hq⟩
      case measure=>simp [intOf];omega
  · obtain rfl:j=k:=by omega
    have j1:¬(i:Int)+j<(i:Int)+j:=by omega
    go_wp2_with fail
    go_ret
    exact⟨by rw [HX.out];rfl,hq⟩
theorem Get_any(B base n a k:Nat)(l:List UInt8)(w:World)(hc:BrF w B base l n a)(hl:l.length<=1000000)(hk:k<=64) :
  Calls Tryz.prog 232 #[.pointer (some ⟨B,0,none⟩),N k] w fun e w'=>e=.returned (.tuple #[.int .u64 ((if n<a+k then 0 else Fk.numAt l a k:Nat):Int),.int .i64 ((if n<a+k then 1 else 0:Nat):Int)])/\BrF w' B base l n (if n<a+k then a else a+k)/\Chg (fun b=>b=B) w w':=by
 have HL:=hid (BLeft_any B base n a l w hc hl)
 have hn8:n<=8000000:=by have:=hc.eq;omega
 have k1:¬(k:Int)<0:=by omega
 have k2:¬(64:Int)<k:=by omega
 by_cases h:n<a+k
 · rw [if_pos h,if_pos h,if_pos h]
   have HC:=hid hc
   have k3:(n:Int) - a<k:=by omega
   clear hc h
   go_enter Tryz.func232, Tryz.ntmps232
   go_wp2_with fail
   refine(HL.out).mono ?_
   rintro e w1 ⟨rfl,hq⟩
   go_wp2_with fail
   go_ret2
   exact⟨rfl,HC.out.fr hq.fr,hq.fr.chg _⟩
 · rw [if_neg h,if_neg h,if_neg h]
   have k3:¬(n:Int) - a<k:=by omega
   have HNm:=hid (fun W (hf:Fr w W)=>bnum_any B base n a a k l W (hc.fr hf) hl hk hc.le)
   have hw:IntKind.i64.wrap ((a:Int)+k)=(a:Int)+k:=IntWalk.i64_in _ (by omega)
   obtain⟨⟨v,h1,hO⟩,hn,hle⟩:=hc
   have HN:=hid hn
   have HLe:Hid (a+k<=n):=by show _<=_;omega
   have hvB:=hO.ne_cells h1 (by decide)
   clear hn h
   generalize Fk.numAt l a k=x at *
   go_enter Tryz.func232, Tryz.ntmps232
   go_wp2_with fail
   refine(HL.out).mono ?_
   rintro e w1 ⟨rfl,hq⟩
   have h11:=hq.fr.heap h1
   have c2:w1.cell? ⟨B,2,none⟩=some (N a):=by rw [cell_of_heap h11];rfl
   have HN2:=hid (fun m=>HNm.out (w1.drewN m) (hq.fr.drewN m))
   clear HNm
   go_wp2_with fail
   go_quiet ((go_at_call 262;exact Calls.quiet_of (HN2.out _)))
   have hf2:Fr w (w1.drewN nq):=hq.fr.drewN nq
   generalize w1.drewN nq=w2 at *
   have h12:=hf2.heap h1
   have d2:w2.cell? ⟨B,2,none⟩=some (N a):=by rw [cell_of_heap h12];rfl
   have z2:=frozen_of_heap h12 2
   have hst:=setCell_chg w2 ⟨B,2,none⟩ (.int .i64 ((a:Int)+k))
   have h13:=heap_setCell_own h12 2 (.int .i64 ((a:Int)+k))
   have hO3:=(hO.fr hf2).chg hst (fun i hi e=>hvB (by rw [hi,show i=B from e]))
   have hch:Chg (fun b=>b=B) w (w2.setCell ⟨B,2,none⟩ (.int .i64 ((a:Int)+k))):=(hf2.chg _).trans hst fun _ _ h=>h
   clear HN2 c2
   go_wp2_with fail
   go_ret2
   exact⟨rfl,⟨⟨v,h13,hO3⟩,HN.out,HLe.out⟩,hch⟩
set_option maxRecDepth 512
end Go.Proofs.YtijghcbpfcjjnaaGreatDoor
