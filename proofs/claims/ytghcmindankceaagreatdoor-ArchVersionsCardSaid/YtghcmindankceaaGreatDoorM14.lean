/- Parts of the proof of ArchVersions: Cd Ce O4 De. -/
import Derived.Test.YtghcmindankceaaGreatDoorM13
import Derived.Test.YtghcmindankceaaGreatDoorM12
import Derived.Test.YtghcmindankceaaGreatDoorM21
set_option linter.unusedVariables false
set_option linter.unusedSectionVars false
set_option linter.unusedSimpArgs false
set_option maxHeartbeats 8000000
namespace Go.Proofs.YtghcmindankceaaGreatDoor
open Go.RowKit Go.Fk
set_option maxRecDepth 100000
theorem text1_any (most : Nat) (hm : most < 9223372036854775808) (Bm Bx : Nat) (v : Value) (l : List UInt8) (w : World) (hmo : w.heap[Bm]? = some (.cells #[N most] 3 (0, 0))) (hx : w.heap[Bx]? = some (.cells #[S []] 9 (0, 0))) (hs : See w eB v l) (hl : l.length ≤ 1000000) :
    Calls Tryz.prog 280 #[v,.pointer (some ⟨Bm,0,none⟩),.pointer (some ⟨Bx,0,none⟩)] w fun e w'=>e=.returned (.tuple #[N (txtL most l).2.1,.int .i64 ((txtL most l).2.2:Int)])/\w'.heap[Bx]?=some (.cells #[S (txtL most l).1] 9 (0,0))/\Chg (fun b=>b=Bx) w w':=by
  have HS:=hid (limited_any most hm v l w hs hl)
  have m0:w.cell? ⟨Bm,0,none⟩=some (N most):=by rw [cell_of_heap hmo];rfl
  have c0:w.cell? ⟨Bx,0,none⟩=some (S []):=by rw [cell_of_heap hx];rfl
  have z0:=frozen_of_heap hx 0
  have HD:Hid (txtL most l=if(limL most l).2.2=0 then(if l.length<(limL most l).2.1+(limL most l).1 then([],0,1)else((l.drop (limL most l).2.1).take (limL most l).1,(limL most l).2.1+(limL most l).1,0))else([],0,(limL most l).2.2)):=rfl
  have hok:=limL_ok most l
  obtain⟨a0,cap,hv,_⟩:=hs.shape
  subst hv
  generalize txtL most l=T at *
  by_cases h0:(limL most l).2.2=0
  · have hq:=hok h0
    rw [if_pos h0]at HD
    have hw1:IntKind.i64.wrap ((l.length:Int) - ((limL most l).2.1:Int))=(l.length:Int) - ((limL most l).2.1:Int):=IntWalk.i64_in _ (by omega)
    by_cases h1:l.length<(limL most l).2.1+(limL most l).1
    · rw [if_pos h1]at HD
      have h2:(l.length:Int) - ((limL most l).2.1:Int)<((limL most l).1:Int):=by omega
      clear hs hok hq h1
      rw [h0]at HS
      clear h0
      generalize (limL most l).1=x at *
      generalize (limL most l).2.1=n at *
      go_enter Tryz.func280, Tryz.ntmps280
      go_wp2_with fail
      refine(HS.out).mono ?_
      rintro e w1 ⟨rfl,rfl⟩
      go_wp2_with fail
      go_ret2
      rw [HD.out]
      exact⟨rfl,hx,Chg.refl _ _⟩
    · rw [if_neg h1]at HD
      have h2:¬(l.length:Int) - ((limL most l).2.1:Int)<((limL most l).1:Int):=by omega
      have hqe:(l.take ((limL most l).2.1+(limL most l).1)).drop (limL most l).2.1=(l.drop (limL most l).2.1).take (limL most l).1:=by rw [List.drop_take,Nat.add_sub_cancel_left]
      obtain⟨f1,f2,hmid,hms⟩:=run_mid eB 22 Tryz.underlying22 hs (limL most l).2.1 ((limL most l).2.1+(limL most l).1) (by omega) (by omega)
      rw [hqe,Nat.add_sub_cancel_left]at *
      have hmid2:∀ W,(Instr.slice 22 (.slice a0 l.length cap) (some (.int .i64 ((limL most l).2.1:Int))) (some (.int .i64 (((limL most l).2.1:Int)+((limL most l).1:Int)))) none).run Tryz.prog W=.ok (.slice f1 (limL most l).1 f2) W:=hmid
      have hcv:=conv_at _ _ w hms
      have hw2:IntKind.i64.wrap (((limL most l).2.1:Int)+((limL most l).1:Int))=((limL most l).2.1:Int)+((limL most l).1:Int):=IntWalk.i64_in _ (by omega)
      have hst:=setCell_chg w ⟨Bx,0,none⟩ (S ((l.drop (limL most l).2.1).take (limL most l).1))
      have hx1:=heap_setCell_own hx 0 (S ((l.drop (limL most l).2.1).take (limL most l).1))
      clear hs hok hq h1 hms hmid hqe
      rw [h0]at HS
      clear h0
      generalize (l.drop (limL most l).2.1).take (limL most l).1=q at *
      generalize (limL most l).1=x at *
      generalize (limL most l).2.1=n at *
      go_enter Tryz.func280, Tryz.ntmps280
      go_wp2_with fail
      refine(HS.out).mono ?_
      rintro e w1 ⟨rfl,rfl⟩
      go_wp2_with fail
      go_ret2
      rw [HD.out]
      exact⟨by simp,hx1,hst⟩
  · rw [if_neg h0]at HD
    have h1:¬((limL most l).2.2:Int)=0:=by omega
    clear hs hok h0
    generalize (limL most l).2.2=er at *
    go_enter Tryz.func280, Tryz.ntmps280
    go_wp2_with fail
    refine(HS.out).mono ?_
    rintro e w1 ⟨rfl,rfl⟩
    go_wp2_with fail
    go_ret2
    rw [HD.out]
    exact⟨rfl,hx,Chg.refl _ _⟩
theorem Text_cur(most:Nat)(hm:most<9223372036854775808)(B base:Nat)(s:Cs)(l:List UInt8)(w:World)(hc:CurF w 242 B base l s.at_ s.er)(hl:l.length<=1000000) :
  Calls Tryz.prog 223 #[.pointer (some ⟨B,0,none⟩),N most] w fun e w'=>e=.returned (S (s.text l most).1)/\CurF w' 242 B base l (s.text l most).2.at_ (s.text l most).2.er/\Chg (fun b=>b=B) w w':=by
 have hmf:∀ (fn:Fn) (first cap:Array Value) (w:World),(Instr.makeFunc fn first cap).run Tryz.prog w=.ok (.func fn first cap) w:=fun _ _ _ _=>rfl
 have hBw:B<w.heap.size:=by obtain⟨⟨v,h1,_⟩,_⟩:=hc;exact(Array.getElem?_eq_some_iff.1 h1).1
 obtain⟨W0,hW0⟩:∃ W0,W0=(w.alloc (.cells #[N most] 3)).alloc (.cells #[S []] 9):=⟨_,rfl⟩
 have g0:W0.heap[w.heap.size]?=some (.cells #[N most] 3 (0,0)):=by
  rw [hW0,heap_old _ _ _ (by simp),heap_new _ _ _ rfl]
 have g1:W0.heap[w.heap.size+1]?=some (.cells #[S []] 9 (0,0)):=by rw [hW0];exact heap_new _ _ _ (by simp)
 have hf:Fr w W0:=by rw [hW0];exact((Fr.refl w).alloc _).alloc _
 have hdl:(l.drop s.at_).length<=1000000:=by rw [List.length_drop];omega
 have hle:s.at_<=l.length:=hc.le
 have HR := hid (read_any 280 [.pointer (some ⟨w.heap.size, 0, none⟩), .pointer (some ⟨w.heap.size + 1, 0, none⟩)] (.inr (.inr (.inr ⟨rfl, _, _, rfl⟩))) (fun b => b = w.heap.size + 1) (fun W => W.heap[w.heap.size + 1]? = some (.cells #[S (txtL most (l.drop s.at_)).1] 9 (0, 0))) B base s (0, (txtL most (l.drop s.at_)).2) l W0 (hc.fr hf)
  (hid fun W v hW hs => (text1_any most hm w.heap.size (w.heap.size + 1) v _ W (hW.heap g0) (hW.heap g1) hs hdl)) (fun h => by have := (txtL_ok _ _ h).2.1; rw [List.length_drop] at this; show s.at_ + (txtL most (l.drop s.at_)).2.1 ≤ _; omega)
  (by intro g hg; obtain rfl : g = w.heap.size + 1 := hg; exact ⟨by omega, _, _, _, g1, by decide⟩) hl)
 have HN:Hid (s.text l most=(if s.er=0 then(txtL most (l.drop s.at_)).1 else [],s.step (0,(txtL most (l.drop s.at_)).2))):=rfl
 rw [HN.out]
 clear g0 hc hdl hle HN
 generalize s.step (0,(txtL most (l.drop s.at_)).2)=s2 at *
 generalize decide (s.er=0/\(0,(txtL most (l.drop s.at_)).2).2.2=0)=ok at *
 generalize (txtL most (l.drop s.at_)).1=q at *
 have HG:=hid g1
 obtain⟨q2,hq2⟩:∃ q2,q2=(if s.er=0 then q else []):=⟨_,rfl⟩
 rw [<- hq2]
 have HQ2:=hid hq2
 clear hq2
 clear g1
 go_enter Tryz.func223, Tryz.ntmps223
 go_wp2_with fail
 rw [<- hW0]
 refine(HR.out).mono ?_
 rintro e w3 ⟨rfl,hno,w2,hQ,hg1,hg2,hC⟩
 have hfin:Chg (fun b=>b=B) w w3:=((hf.chg _).trans (G':=fun b=>b=w.heap.size+1) hg1 fun i hi h=>by omega).trans hg2 fun i _ h=>h
 have hx:w3.heap[w.heap.size+1]?=some (.cells #[S q2] 9 (0,0)):=by
  rw [HQ2.out]
  by_cases h:s.er=0
  · rw [if_pos h];exact hg2.heap (hQ h) (by omega)
  · rw [if_neg h,<- hno h];exact HG.out
 have c1:w3.cell? ⟨w.heap.size+1,0,none⟩=some (S q2):=by rw [cell_of_heap hx];rfl
 clear HR hg1 hg2 hQ hx hno HG hW0
 go_wp2_with fail
 go_ret
 exact⟨rfl,hC,hfin⟩
set_option maxRecDepth 512
set_option maxRecDepth 100000
theorem Take_no(B base k:Nat)(s:Cs)(l:List UInt8)(w:World)(hc:CurF w 242 B base l s.at_ s.er)(hk:¬s.er=0\/l.length<s.at_+k)(hl:l.length<=1000000) :
  Calls Tryz.prog 204 #[.pointer (some ⟨B,0,none⟩),N k] w fun e w'=>e=.returned (.slice none 0 0)/\CurF w' 242 B base l (s.step (0,0,1)).at_ (s.step (0,0,1)).er/\Chg (fun b=>b=B) w w':=by
 have hmf:∀ (fn:Fn) (first cap:Array Value) (w:World),(Instr.makeFunc fn first cap).run Tryz.prog w=.ok (.func fn first cap) w:=fun _ _ _ _=>rfl
 have hBw:B<w.heap.size:=by obtain⟨⟨v,h1,_⟩,_⟩:=hc;exact(Array.getElem?_eq_some_iff.1 h1).1
 obtain⟨W0,hW0⟩:∃ W0,W0=(w.alloc (.cells #[N k] 3)).alloc (.cells #[.slice none 0 0] 22):=⟨_,rfl⟩
 have g0:W0.heap[w.heap.size]?=some (.cells #[N k] 3 (0,0)):=by
  rw [hW0,heap_old _ _ _ (by simp),heap_new _ _ _ rfl]
 have g1:W0.heap[w.heap.size+1]?=some (.cells #[.slice none 0 0] 22 (0,0)):=by rw [hW0];exact heap_new _ _ _ (by simp)
 have hf:Fr w W0:=by rw [hW0];exact((Fr.refl w).alloc _).alloc _
 have hdl:(l.drop s.at_).length=l.length - s.at_:=by rw [List.length_drop]
 have HX:Hid (∃ R:Ending->World->Prop,Calls Tryz.prog 207 #[.pointer (some ⟨B,0,none⟩),.func (.func 265) #[] #[.pointer (some ⟨w.heap.size,0,none⟩),.pointer (some ⟨w.heap.size+1,0,none⟩)]] W0 R/\∀ e w',R e w'->(∃ b,e=.returned (.bool b))/\Chg (fun b=>b=B) W0 w'/\CurF w' 242 B base l (s.step (0,0,1)).at_ (s.step (0,0,1)).er):=by
  by_cases h0:s.er=0
  · have HT:Hid (∀ W v,Fr W0 W->See W eB v (l.drop s.at_)->Calls Tryz.prog 265 (v::[.pointer (some ⟨w.heap.size,0,none⟩),.pointer (some ⟨w.heap.size+1,0,none⟩)]).toArray W fun e w'=>e=.returned (.tuple #[N (0:Nat),.int .i64 ((1:Nat):Int)])/\True/\Chg (fun _=>False) W w'):=fun W v hW hs=>(take1_no w.heap.size (w.heap.size+1) k v _ W (hW.heap g0) hs (by rw [hdl];have:=hc.le;omega)).mono (by rintro e w' ⟨rfl,rfl⟩;exact⟨rfl,trivial,Chg.refl _ _⟩)
    refine⟨_,read_any 265 [.pointer (some ⟨w.heap.size,0,none⟩),.pointer (some ⟨w.heap.size+1,0,none⟩)] (.inr (.inr (.inl ⟨rfl,_,_,rfl⟩))) (fun _=>False) (fun _=>True) B base s (0,0,1) l W0 (hc.fr hf) HT (fun h=>by cases h) (fun g h=>h.elim) hl,?_⟩
    rintro e w' ⟨rfl,_,w3,_,h1,h2,h3⟩
    exact⟨⟨_,rfl⟩,(h1.mono fun _ _ h=>h.elim).trans h2 fun _ _ h=>h,h3⟩
  · refine⟨_,read_no _ B base s.at_ s.er l W0 (hc.fr hf) h0,?_⟩
    rintro e w' ⟨rfl,rfl⟩
    refine⟨⟨_,rfl⟩,Chg.refl _ _,?_⟩
    unfold Cs.step
    rw [if_neg h0];exact hc.fr hf
 obtain⟨R,HR0,HR1⟩:=HX.out
 have HR:=hid HR0
 have HQ:=hid HR1
 have HG:=hid g1
 clear HX HR0 HR1 g0 g1 hdl hk
 generalize s.step (0,0,1)=s2 at *
 go_enter Tryz.func204, Tryz.ntmps204
 go_wp2_with fail
 rw [<- hW0]
 refine(HR.out).mono ?_
 intro e w3 hr
 obtain⟨⟨b,rfl⟩,hg,hC⟩:=HQ.out e w3 hr
 have hx:=hg.heap HG.out (by omega)
 have c1:w3.cell? ⟨w.heap.size+1,0,none⟩=some (.slice none 0 0):=by rw [cell_of_heap hx];rfl
 have hfin:Chg (fun b=>b=B) w w3:=(hf.chg _).trans hg fun _ _ h=>h
 clear HR HQ HG hr hx hg hW0
 go_wp2_with fail
 go_ret
 exact⟨rfl,hC,hfin⟩
set_option maxRecDepth 512
theorem Take_cur(B base k:Nat)(s:Cs)(l:List UInt8)(w:World)(hc:CurF w 242 B base l s.at_ s.er)(hl:l.length<=1000000)(hb:base<=w.heap.size) :
  Calls Tryz.prog 204 #[.pointer (some ⟨B,0,none⟩),N k] w fun e w'=>∃ u,e=.returned u/\Ow w' w.heap.size eB u (s.take l k).1/\CurF w' 242 B base l (s.take l k).2.at_ (s.take l k).2.er/\Chg (fun b=>b=B) w w':=by
 by_cases h0:s.er=0
 · by_cases h1:l.length<s.at_+k
   · refine(Take_no B base k s l w hc (.inr h1) hl).mono ?_
     rintro e w' ⟨rfl,hC,hg⟩
     have h2:s.take l k=([],⟨s.at_,1⟩):=by unfold Cs.take;rw [if_pos h0,if_pos h1]
     have h3:s.step (0,0,1)=⟨s.at_,1⟩:=by unfold Cs.step;rw [if_pos h0,if_neg (by decide)]
     rw [h2];rw [h3]at hC
     exact⟨_,rfl,Ow.nil,hC,hg⟩
   · rw [h0]at hc
     refine(Take_yes B base s.at_ k l w hc (by omega) hl hb).mono ?_
     rintro e w' ⟨u,rfl,hO,hC,hg⟩
     have h2:s.take l k=((l.drop s.at_).take k,⟨s.at_+k,0⟩):=by unfold Cs.take;rw [if_pos h0,if_neg h1]
     rw [h2]
     exact⟨u,rfl,hO,hC,hg⟩
 · refine(Take_no B base k s l w hc (.inl h0) hl).mono ?_
   rintro e w' ⟨rfl,hC,hg⟩
   have h2:s.take l k=([],s):=by unfold Cs.take;rw [if_neg h0]
   have h3:s.step (0,0,1)=s:=by unfold Cs.step;rw [if_neg h0]
   rw [h2];rw [h3]at hC
   exact⟨_,rfl,Ow.nil,hC,hg⟩
theorem take1_len(s:Cs)(l:List UInt8):(s.take l 1).1=[]\/∃ x,(s.take l 1).1=[x]:=by
 unfold Cs.take
 split
 · split
   · exact .inl rfl
   · show(l.drop s.at_).take 1=[]\/∃ x,(l.drop s.at_).take 1=[x]
     cases l.drop s.at_ with
     | nil=>exact .inl rfl
     | cons x t=>exact .inr ⟨x,rfl⟩
 · exact .inl rfl
set_option maxRecDepth 100000
theorem Byte_cur (B base : Nat) (s : Cs) (l : List UInt8) (w : World) (hc : CurF w 242 B base l s.at_ s.er) (hl : l.length ≤ 1000000) (hb : base ≤ w.heap.size) :
    Calls Tryz.prog 143 #[.pointer (some ⟨B,0,none⟩)] w fun e w'=>e=.returned (.int .u8 ((s.byte l).1:Int))/\CurF w' 242 B base l (s.byte l).2.at_ (s.byte l).2.er/\Chg (fun b=>b=B) w w':=by
  have HT:=hid (Take_cur B base 1 s l w hc hl hb)
  have HB:Hid (s.byte l=((((s.take l 1).1).getD 0 0).toNat,(s.take l 1).2)):=rfl
  rw [HB.out]
  have h1:=take1_len s l
  clear hc HB
  generalize (s.take l 1).1=q at *
  generalize (s.take l 1).2=s2 at *
  rcases h1 with rfl | ⟨x,rfl⟩
  · go_enter Tryz.func143, Tryz.ntmps143
    go_wp2_with fail
    refine(HT.out).mono ?_
    rintro e w1 ⟨u,rfl,hO,hC,hch⟩
    obtain⟨p,z,hq⟩:=hO.shape'
    subst hq
    clear HT hO
    go_wp2_with fail
    go_ret
    exact⟨rfl,hC,hch⟩
  · go_enter Tryz.func143, Tryz.ntmps143
    go_wp2_with fail
    refine(HT.out).mono ?_
    rintro e w1 ⟨u,rfl,hO,hC,hch⟩
    obtain⟨b,off,cp,hv,c0⟩:=hO.see.cell1 Fk.u8 rfl 0 (by simp)
    subst hv
    have d0:w1.cell? ⟨b,off,none⟩=some (.int .u8 (x.toNat:Int)):=c0
    clear hO c0 HT
    go_wp2_with fail
    go_ret
    exact⟨rfl,hC,hch⟩
theorem Left_cur(B base n er:Nat)(l:List UInt8)(w:World)(hc:CurF w 242 B base l n er) :
  Calls Tryz.prog 157 #[.pointer (some ⟨B,0,none⟩)] w fun e w'=>e=.returned (N (l.length - n))/\Fr w w':=by
 have HR:=hid (rest_any B base n er l w hc)
 clear hc
 generalize l.length - n=m at *
 go_enter Tryz.func157, Tryz.ntmps157
 go_wp2_with fail
 refine(HR.out).mono ?_
 rintro e w1 ⟨a,cp,rfl,_,hf⟩
 clear HR
 go_wp2_with fail
 go_ret
 exact⟨rfl,hf⟩
theorem At_cur(B base n er:Nat)(l:List UInt8)(w:World)(hc:CurF w 242 B base l n er) :
  Calls Tryz.prog 156 #[.pointer (some ⟨B,0,none⟩)] w fun e w'=>e=.returned (N n)/\w=w':=by
 obtain⟨⟨v,h1,ho⟩,hle⟩:=hc
 have c1:w.cell? ⟨B,1,none⟩=some (N n):=by rw [cell_of_heap h1];rfl
 clear h1 ho
 go_enter Tryz.func156, Tryz.ntmps156
 go_wp2_with fail
 go_ret
 exact⟨rfl,rfl⟩
theorem Fail_cur(er:Nat)(B base:Nat)(s:Cs)(l:List UInt8)(w:World)(hc:CurF w 242 B base l s.at_ s.er) :
  Calls Tryz.prog 181 #[.pointer (some ⟨B,0,none⟩),.int .i64 (er:Int)] w fun e w'=>e=.returned (.tuple #[])/\CurF w' 242 B base l (s.fail er).at_ (s.fail er).er/\Chg (fun b=>b=B) w w':=by
 obtain⟨⟨v,h1,hO⟩,hle⟩:=hc
 have c2:w.cell? ⟨B,2,none⟩=some (.int .i64 (s.er:Int)):=by rw [cell_of_heap h1];rfl
 by_cases h0:s.er=0
 · have HF:Hid (s.fail er=⟨s.at_,er⟩):=by show _=_;unfold Cs.fail;rw [if_pos h0]
   rw [h0]at c2
   have z1:=frozen_of_heap h1 2
   have hvB:=hO.ne_cells h1 (by decide)
   have hst:=setCell_chg w ⟨B,2,none⟩ (.int .i64 (er:Int))
   have h14:=heap_setCell_own h1 2 (.int .i64 (er:Int))
   have hOv4:=hO.chg hst (fun i hi e=>hvB (by rw [hi,show i=B from e]))
   clear hO h0
   go_enter Tryz.func181, Tryz.ntmps181
   go_wp2_with fail
   go_end0
   rw [HF.out]
   exact⟨rfl,⟨⟨v,h14,hOv4⟩,hle⟩,hst⟩
 · have HF:Hid (s.fail er=s):=by show _=_;unfold Cs.fail;rw [if_neg h0]
   have h2:¬(s.er:Int)=0:=by omega
   have HC:=hid (CurF.mk ⟨v,h1,hO⟩ hle)
   clear h1 hO h0
   go_enter Tryz.func181, Tryz.ntmps181
   go_wp2_with fail
   go_end0
   rw [HF.out]
   exact⟨rfl,HC.out,Chg.refl _ _⟩
set_option maxRecDepth 512
theorem mark_short(l:List UInt8)(h:l.length<=4):markV l=(0,1):=by unfold markV;rw [if_pos h]
theorem mark_magic(l:List UInt8)(h:¬l.length<=4)(h2:¬l.take 4=[70,73,82,75]):markV l=(0,3):=by unfold markV;rw [if_neg h,if_neg h2]
theorem mark_yes(l:List UInt8)(h:¬l.length<=4)(h2:l.take 4=[70,73,82,75])(h3:1<=(l.getD 4 0).toNat/\(l.getD 4 0).toNat<=3):markV l=((l.getD 4 0).toNat,0):=by unfold markV;rw [if_neg h,if_pos h2,if_pos h3]
theorem mark_no(l:List UInt8)(h:¬l.length<=4)(h2:l.take 4=[70,73,82,75])(h3:¬(1<=(l.getD 4 0).toNat/\(l.getD 4 0).toNat<=3)):markV l=(0,4):=by unfold markV;rw [if_neg h,if_pos h2,if_neg h3]
set_option maxRecDepth 100000
theorem OMarked_any(v:Value)(l:List UInt8)(w:World)(hs:See w eB v l) :
  Calls Tryz.prog 28 #[v] w fun e w'=>e=.returned (.tuple #[N (markV l).1,.int .i64 ((markV l).2:Int)])/\Fr w w':=by
 obtain⟨a0,cap,hv,hc1,hc2,_⟩:=hs.shape
 subst hv
 unfold maxLen at hc2
 by_cases h4:l.length<=4
 · have h4':(l.length:Int)<=4:=by omega
   have HE:=hid (mark_short l h4)
   rw [HE.out]
   go_enter Tryz.func28, Tryz.ntmps28
   go_wp2_with fail
   go_ret2
   exact⟨rfl,Fr.refl w⟩
 · have h4':¬(l.length:Int)<=4:=by omega
   obtain⟨htr,hts⟩:=run_to eB 22 Tryz.underlying22 hs 4 (by omega)
   have hconv:=fun W (h:Fr w W)=>conv_at _ (l.take 4) W (hts.fr h)
   have HCv:=hid hconv
   have hcw:=hconv w (Fr.refl w)
   clear hconv
   have i1:(4:Int)<l.length:=by omega
   by_cases hm:l.take 4=[70,73,82,75]
   · rw [hm]at hcw
     obtain⟨b,off,cp,hv9,e9⟩:=hs.cell1 Fk.u8 rfl 4 (by omega)
     simp only [Value.slice.injEq]at hv9
     obtain⟨rfl,hk,rfl⟩:=hv9
     clear hk
     rw [<- getD_at l 4 0 (by omega)]at e9
     have e10:w.cell? ⟨b,off+4,none⟩=some (.int .u8 ((l.getD 4 0).toNat:Int)):=e9
     have HMy:=hid (mark_yes l h4 hm)
     have HMn:=hid (mark_no l h4 hm)
     have HW:=hid (fun x=>ow_any x 1 3)
     have hxl:=(l.getD 4 0).toNat_lt
     generalize (l.getD 4 0).toNat=x at *
     generalize markV l=mv at *
     have hw1:IntKind.i64.wrap (x:Int)=(x:Int):=wrap_i64 _ (by omega)
     clear e9 hts hm
     go_enter Tryz.func28, Tryz.ntmps28
     go_wp2_with fail
     refine((HW.out _) _).mono ?_
     rintro e w1 ⟨rfl,rfl⟩
     by_cases hx:1<=x/\x<=3
     · have HE:=hid (HMy.out hx)
       have hdx:decide ((1:Int)<=(x:Int)/\(x:Int)<=3)=true:=decide_eq_true (by omega)
       rw [hdx]
       go_wp2_with fail
       go_ret2
       exact⟨by rw [HE.out];rfl,Fr.refl w⟩
     · have HE:=hid (HMn.out hx)
       have hdx:decide ((1:Int)<=(x:Int)/\(x:Int)<=3)=false:=decide_eq_false (by omega)
       rw [hdx]
       go_wp2_with fail
       go_ret2
       exact⟨by rw [HE.out];rfl,Fr.refl w⟩
   · have HE:=hid (mark_magic l h4 hm)
     rw [HE.out]
     have hne2:¬(⟨(l.take 4).toArray⟩:ByteArray)=⟨#[70,73,82,75]⟩:=by
      intro e
      have:=congrArg (fun b:ByteArray=>b.data.toList) e
      exact hm (by simpa using this)
     have hb1:(l.take 4 == [70,73,82,75])=false:=by simpa using hm
     have hb5:¬(l.take 4).toArray=#[70,73,82,75]:=fun e=>hm (by simpa using congrArg Array.toList e)
     go_enter Tryz.func28, Tryz.ntmps28
     go_wp2_with fail
     go_ret2
     exact⟨rfl,Fr.refl w⟩
set_option maxRecDepth 512
theorem err_zero(l:List UInt8):(errCut l=0)↔okCut l=true:=by
 unfold errCut
 cases h:okCut l
 · simp;split <;> omega
 · simp
set_option maxRecDepth 100000
theorem counts_any(v:Value)(l:List UInt8)(w:World)(hs:See w eB v l)(hn:l.length<=1000000)(ht:Crc w) :
  Calls Tryz.prog 118 #[v] w fun e w'=>e=.returned (.bool (countB l))/\Fr w w':=by
 have HC:=hid (Cut_any v l w hs hn ht)
 have HM:=hid (fun W (h:Fr w W)=>OMarked_any v l W (hs.fr h))
 have HB:Hid (countB l=(okCut l && decide (markV l=(3,0)))):=rfl
 have HZ:=hid (err_zero l)
 obtain⟨a0,cap,hv,_⟩:=hs.shape
 subst hv
 clear hs ht
 generalize countB l=R at *
 generalize hmv:markV l=mv at *
 obtain⟨ver,er⟩:=mv
 clear hmv
 generalize okCut l=ok at *
 generalize errCut l=ec at *
 generalize cutB l=q at *
 simp only at HM
 go_enter Tryz.func118, Tryz.ntmps118
 go_wp2_with fail
 refine(HC.out).mono ?_
 rintro e w1 ⟨u,rfl,hu,hf1⟩
 obtain⟨p1,z1,hq1⟩:=hu.shape'
 subst hq1
 clear hu
 go_wp2_with fail
 refine(HM.out _ hf1).mono ?_
 rintro e w2 ⟨rfl,hf2⟩
 have hf:=hf1.trans hf2
 by_cases h1:ec=0
 · have hok:=HZ.out.1 h1
   subst hok h1
   by_cases h2:er=0
   · subst h2
     by_cases h3:ver=3
     · subst h3
       have HR:Hid (R=true):=by show _=_;rw [HB.out];rfl
       go_wp2_with fail
       go_ret
       exact⟨by rw [HR.out];rfl,hf⟩
     · have h3':¬(ver:Int)=3:=by omega
       have HR:Hid (R=false):=by show _=_;rw [HB.out,Bool.true_and];exact decide_eq_false (fun e=>h3 (Prod.mk.inj e).1)
       have hb:((ver:Int) == 3)=false:=by simpa using h3'
       clear h3
       go_wp2_with fail
       go_ret
       exact⟨by rw [HR.out];rfl,hf⟩
   · have h2':¬(er:Int)=0:=by omega
     have HR:Hid (R=false):=by show _=_;rw [HB.out,Bool.true_and];exact decide_eq_false (fun e=>h2 (Prod.mk.inj e).2)
     clear h2
     go_wp2_with fail
     go_ret
     exact⟨by rw [HR.out];rfl,hf⟩
 · have hok:ok=false:=by cases ok;rfl;exact absurd (HZ.out.2 rfl) h1
   have h1':¬(ec:Int)=0:=by omega
   have HR:Hid (R=false):=by show _=_;rw [HB.out,hok];rfl
   clear h1
   go_wp2_with fail
   go_ret
   exact⟨by rw [HR.out];rfl,hf⟩
theorem copies_no(v:Value)(l:List UInt8)(w:World)(hs:See w eB v l)(hl:l.length<42) :
  Calls Tryz.prog 78 #[v] w fun e w'=>e=.returned (.tuple #[.slice none 0 0,.slice none 0 0,.bool false])/\Fr w w':=by
 obtain⟨a0,cap,hv,_⟩:=hs.shape
 subst hv
 have h42:(l.length:Int)<42:=by omega
 go_enter Tryz.func78, Tryz.ntmps78
 go_wp2_with fail
 exact bodyPost_ret (v:=.tuple #[.slice none 0 0,.slice none 0 0,.bool false]) (by simp [results,Tryz.results78,go_sem, *]) rfl ⟨rfl,Fr.refl w⟩
theorem copies_any(v:Value)(l:List UInt8)(w:World)(hs:See w eB v l)(hl:42<=l.length) :
  Calls Tryz.prog 78 #[v] w fun e w'=>∃ v1 v2,e=.returned (.tuple #[v1,v2,.bool true])/\See w' eB v1 (l.take 21)/\See w' eB v2 (l.drop (l.length - 21))/\Fr w w':=by
 obtain⟨a0,cap,hv,hc1,hc2,_⟩:=hs.shape
 subst hv
 unfold maxLen at hc2
 have h42:¬(l.length:Int)<42:=by omega
 obtain⟨htr,hts⟩:=run_to eB 22 Tryz.underlying22 hs 21 (by omega)
 obtain⟨f1,f2,hfr,hfs⟩:=run_from eB 22 Tryz.underlying22 hs (l.length - 21) (by omega)
 have hw1:IntKind.i64.wrap ((l.length:Int) - 21)=((l.length - 21:Nat):Int):=by rw [show(l.length:Int) - 21=((l.length - 21:Nat):Int) by omega];exact IntWalk.i64_in _ (by omega)
 have HT:=hid hts
 have HF:=hid hfs
 clear hts hfs hs
 generalize l.length - (l.length - 21)=m at *
 generalize hk:l.length - 21=k at *
 clear hk
 go_enter Tryz.func78, Tryz.ntmps78
 go_wp2_with fail
 go_quiet (fail)
 go_wp2_with fail
 exact bodyPost_ret (v:=.tuple #[.slice a0 21 cap,.slice f1 m f2,.bool true]) (by simp [results,Tryz.results78,go_sem, *]) rfl ⟨_,_,rfl,HT.out.fr ((Fr.refl w).drewN _),HF.out.fr ((Fr.refl w).drewN _),(Fr.refl w).drewN _⟩
set_option maxRecDepth 512
def headOf(l:List UInt8):List UInt8:=if countB (l.take 21)then l.take 21 else l.drop (l.length - 21)
def hasB(l:List UInt8):Bool:=countB (l.take 21) || countB (l.drop (l.length - 21))
set_option maxRecDepth 100000
theorem choose_short(v:Value)(l:List UInt8)(w:World)(hs:See w eB v l)(hl:l.length<42) :
  Calls Tryz.prog 54 #[v] w fun e w'=>e=.returned (.tuple #[.slice none 0 0,.int .i64 1])/\Fr w w':=by
 have HC:=hid (copies_no v l w hs hl)
 obtain⟨a0,cap,hv,_⟩:=hs.shape
 subst hv
 clear hs
 go_enter Tryz.func54, Tryz.ntmps54
 go_wp2_with fail
 refine(HC.out).mono ?_
 rintro e w1 ⟨rfl,hf1⟩
 go_wp2_with fail
 go_ret2
 exact⟨rfl,hf1⟩
theorem choose_any(v:Value)(l:List UInt8)(w:World)(hs:See w eB v l)(hl:42<=l.length)(ht:Crc w) :
  Calls Tryz.prog 54 #[v] w fun e w'=>∃ u,e=.returned (.tuple #[u,.int .i64 ((if hasB l then 0 else 5:Nat):Int)])/\(hasB l=true->See w' eB u (headOf l))/\(hasB l=false->u=.slice none 0 0)/\Fr w w':=by
 have HC:=hid (copies_any v l w hs hl)
 have H1:=hid (fun W v1 (h:See W eB v1 (l.take 21)) (h2:Fr w W)=>counts_any v1 (l.take 21) W h (by rw [List.length_take];omega) (ht.fr h2))
 have H2:=hid (fun W v1 (h:See W eB v1 (l.drop (l.length - 21))) (h2:Fr w W)=>counts_any v1 (l.drop (l.length - 21)) W h (by rw [List.length_drop];omega) (ht.fr h2))
 have HH:Hid (hasB l=(countB (l.take 21) || countB (l.drop (l.length - 21)))):=rfl
 have HO:Hid (headOf l=if countB (l.take 21)then l.take 21 else l.drop (l.length - 21)):=rfl
 obtain⟨a0,cap,hv,_⟩:=hs.shape
 subst hv
 clear hs ht
 generalize l.take 21=L1 at *
 generalize l.drop (l.length - 21)=L2 at *
 generalize countB L1=b1 at *
 generalize countB L2=b2 at *
 generalize hasB l=R at *
 generalize headOf l=H at *
 obtain⟨ec,hec⟩:∃ q:Nat,q=(if R then 0 else 5):=⟨_,rfl⟩
 rw [<- hec]
 have HEc:=hid hec
 clear hec
 go_enter Tryz.func54, Tryz.ntmps54
 go_wp2_with fail
 refine(HC.out).mono ?_
 rintro e w1 ⟨v1,v2,rfl,hs1,hs2,hf1⟩
 have H1':=hid (H1.out w1 v1 hs1 hf1)
 obtain⟨p1,z1,hq1,_⟩:=hs1.shape
 subst hq1
 obtain⟨p2,z2,hq2,_⟩:=hs2.shape
 subst hq2
 go_wp2_with fail
 refine(H1'.out).mono ?_
 rintro e w2 ⟨rfl,hf2⟩
 have hf02:=hf1.trans hf2
 cases b1 with
 | true=>
  have HR:Hid (R=true):=by show _=_;rw [HH.out];rfl
  have HO':Hid (H=L1):=by show _=_;rw [HO.out];rfl
  go_wp2_with fail
  go_ret2
  exact⟨_,by rw [HEc.out,HR.out];rfl,fun _=>by rw [HO'.out];exact hs1.fr hf2,fun h=>(by rw [HR.out]at h;cases h),hf02⟩
 | false=>
  have HO':Hid (H=L2):=by show _=_;rw [HO.out];rfl
  have H2':=hid (H2.out w2 _ (hs2.fr hf2) hf02)
  go_wp2_with fail
  refine(H2'.out).mono ?_
  rintro e w3 ⟨rfl,hf3⟩
  have hf03:=hf02.trans hf3
  cases b2 with
  | true=>
   have HR:Hid (R=true):=by show _=_;rw [HH.out];rfl
   go_wp2_with fail
   go_ret2
   exact⟨_,by rw [HEc.out,HR.out];rfl,fun _=>by rw [HO'.out];exact hs2.fr (hf2.trans hf3),fun h=>(by rw [HR.out]at h;cases h),hf03⟩
  | false=>
   have HR:Hid (R=false):=by show _=_;rw [HH.out];rfl
   go_wp2_with fail
   go_ret2
   exact⟨_,by rw [HEc.out,HR.out];rfl,fun h=>(by rw [HR.out]at h;cases h),fun _=>rfl,hf03⟩
set_option maxRecDepth 512
end Go.Proofs.YtghcmindankceaaGreatDoor
