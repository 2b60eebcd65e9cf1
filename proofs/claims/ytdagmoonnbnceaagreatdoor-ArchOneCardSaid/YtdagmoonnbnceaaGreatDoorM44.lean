/- Parts of the proof of ArchOne: U8. -/
import Derived.Test.YtdagmoonnbnceaaGreatDoorM17
import Derived.Test.YtdagmoonnbnceaaGreatDoorM38
set_option linter.unusedVariables false
set_option linter.unusedSectionVars false
set_option linter.unusedSimpArgs false
set_option maxHeartbeats 8000000
set_option maxRecDepth 100000
namespace Go.Proofs.YtdagmoonnbnceaaGreatDoor
open Go.RowKit Go.Fk
abbrev orB(B:Nat)(bv:Value)(sz:Nat)(p:Bool)(rec blk:Nat):Obj:=.cells #[.pointer (some ⟨B,0,none⟩),bv,N sz,.bool p,.int .i64 0,.int .i64 0,.int .i64 0,.int .i64 0,N rec,N blk] 114 (0,0)
theorem ohead_any(F B base:Nat)(bv:Value)(b:List UInt8)(w:World)(hG:w.heap[F]? = some (orB B bv 0 false 0 0))(hc:CurF w 156 B base b 0 0)(hFB:F≠B)(hl:b.length<=1000000)(hb:base<=w.heap.size) :
  Calls Tryz.prog 66 #[.pointer (some ⟨F,0,none⟩)] w fun e w'=>e=.returned (.int .i64 (o1E b:Int))/\w'.heap[F]? = some (orB B bv (o1B b).1 (decide ((o1P b).1=1)) (o1R b).1 (o1K b).1)/\CurF w' 156 B base b (o1K b).2.at_ (o1K b).2.er/\Chg (fun k=>k=B\/k=F) w w':=by
 have HIn:Hid (∀ (most:Nat) (s:Cs) W,most<9223372036854775808->CurF W 156 B base b s.at_ s.er->Calls Tryz.prog 96 #[.pointer (some ⟨B,0,none⟩),N most] W fun e w'=>e=.returned (N (s.int b most).1)/\CurF w' 156 B base b (s.int b most).2.at_ (s.int b most).2.er/\Chg (fun b=>b=B) W w'):=fun most s W hm h=>Int_cur most hm B base s b W h hl
 have H1:Hid (∀ W,CurF W 156 B base b 0 0->Calls Tryz.prog 96 #[.pointer (some ⟨B,0,none⟩),N 32768] W fun e w'=>e=.returned (N (o1B b).1)/\CurF w' 156 B base b (o1B b).2.at_ (o1B b).2.er/\Chg (fun b=>b=B) W w'):=fun W h=>HIn.out 32768 ⟨0,0⟩ W (by decide) h
 have H2:Hid (∀ W,CurF W 156 B base b (o1B b).2.at_ (o1B b).2.er->base<=W.heap.size->Calls Tryz.prog 97 #[.pointer (some ⟨B,0,none⟩)] W fun e w'=>e=.returned (.int .u8 ((o1P b).1:Int))/\CurF w' 156 B base b (o1P b).2.at_ (o1P b).2.er/\Chg (fun b=>b=B) W w'):=fun W h h2=>Byte_cur B base (o1B b).2 b W h hl h2
 have H3:=hid (fun s W (h:CurF W 156 B base b s.at_ s.er)=>Fail_cur 2 B base s b W h)
 have H4:Hid (∀ W,CurF W 156 B base b (o1C b).at_ (o1C b).er->Calls Tryz.prog 96 #[.pointer (some ⟨B,0,none⟩),N 20000] W fun e w'=>e=.returned (N (o1R b).1)/\CurF w' 156 B base b (o1R b).2.at_ (o1R b).2.er/\Chg (fun b=>b=B) W w'):=fun W h=>HIn.out 20000 (o1C b) W (by decide) h
 have hrt:(o1R b).1<=20000:=Cs.int_top _ _ _
 have H5:Hid (∀ W,CurF W 156 B base b (o1R b).2.at_ (o1R b).2.er->Calls Tryz.prog 96 #[.pointer (some ⟨B,0,none⟩),N (o1R b).1] W fun e w'=>e=.returned (N (o1K b).1)/\CurF w' 156 B base b (o1K b).2.at_ (o1K b).2.er/\Chg (fun b=>b=B) W w'):=fun W h=>HIn.out (o1R b).1 (o1R b).2 W (by omega) h
 have HEr:=hid (fun n er W (h:CurF W 156 B base b n er)=>CErr_any B base n er b W h)
 have HC:Hid (o1C b=if 1<(o1P b).1 then(o1P b).2.fail 2 else(o1P b).2):=rfl
 have hx:(o1P b).1<256:=UInt8.toNat_lt _
 have hbt:(o1B b).1<=32768:=Cs.int_top _ _ _
 have HE:Hid (o1E b=if(o1K b).2.er=0 then(if 16<=(o1B b).1/\(o1B b).1<=32768 then 0 else 9)else(o1K b).2.er):=rfl
 have HO:=hid (fun W=>OCheck1_any ⟨((o1B b).1:Int),decide ((o1P b).1=1),0,0,0,0⟩ ⟨rfl,rfl,rfl,rfl⟩ W)
 have HOe:Hid (opt1 ⟨((o1B b).1:Int),decide ((o1P b).1=1),0,0,0,0⟩=decide (16<=(o1B b).1/\(o1B b).1<=32768)):=by
  show decide _=decide _
  exact decide_eq_decide.2 ⟨fun h=>⟨by have h1:(16:Int)<=((o1B b).1:Int):=h.1;omega,by have h1:((o1B b).1:Int)<=32768:=h.2;omega⟩,fun h=>⟨by show(16:Int)<=((o1B b).1:Int);omega,by show((o1B b).1:Int)<=32768;omega⟩⟩
 rw [HOe.out]at HO
 have hBw:=hc.lt
 have cF:=cellx hG 0 rfl
 have HA1:=hid (H1.out w hc)
 clear hc HIn H1 HOe
 generalize o1E b=E at *
 generalize o1C b=sC at *
 generalize o1B b=RB at *
 generalize o1P b=RP at *
 generalize o1R b=RR at *
 generalize o1K b=RK at *
 obtain⟨xb,sB⟩:=RB
 obtain⟨xp,sP⟩:=RP
 obtain⟨xr,sR⟩:=RR
 obtain⟨xk,sK⟩:=RK
 simp only at H2 H4 H5 HC HE HO HA1 hrt hx hbt
 go_enter Tryz.func66, Tryz.ntmps66
 go_wp2_with fail
 refine(HA1.out).mono ?_
 rintro e w1 ⟨rfl,hC1,hc1⟩
 have hG1:=hc1.heap hG hFB
 have z1:=frozen_of_heap hG1 2
 have d1:=cellx hG1 2 rfl
 have e1:=cellx hG1 0 rfl
 have hst:=setCell_chg w1 ⟨F,2,none⟩ (N xb)
 have hG2:(w1.setCell ⟨F,2,none⟩ (N xb)).heap[F]? = some (orB B bv xb false 0 0):=heap_setCell_own hG1 2 _
 have hC2:=hC1.box hG1 (by decide) (Ne.symm hFB) hst
 have hch2:Chg (fun k=>k=B\/k=F) w (w1.setCell ⟨F,2,none⟩ (N xb)):=(hc1.mono (G':=fun k=>k=B\/k=F) (fun k hk h=>.inl h)).trans hst (fun _ _ h=>.inr h)
 have hz2:base<=(w1.setCell ⟨F,2,none⟩ (N xb)).heap.size:=Nat.le_trans hb hch2.size
 clear hC1 hc1 HA1 hst cF hG
 go_upto_region 2 with fail
 generalize w1.setCell ⟨F,2,none⟩ (N xb)=W2 at *
 clear z1 d1 e1 hG1
 have c2:=cellx hG2 0 rfl
 have H2a:=hid (H2.out W2 hC2 hz2)
 clear H2 hC2 hz2
 go_wp2_with fail
 refine(H2a.out).mono ?_
 rintro e w3 ⟨rfl,hC3,hc3⟩
 have hG3:=hc3.heap hG2 hFB
 have hch3:=hch2.trans hc3 (fun _ _ h=>.inl h)
 clear H2a c2 hG2 hch2 hc3
 have hpb:((xp:Int) == 1)=decide (xp=1):=by
  rw [show((xp:Int) == 1)=decide ((xp:Int)=1)from rfl]
  exact decide_eq_decide.2 ⟨fun h=>by omega,fun h=>by omega⟩
 have HPB:=hid hpb
 clear hpb
 go_upto_if 20 with fail
 go_cut []from 20 to 25 (fun wx=>wx.heap[F]? = some (orB B bv xb false 0 0)/\CurF wx 156 B base b sC.at_ sC.er/\Chg (fun k=>k=B\/k=F) w wx)
 case first=>
  by_cases h1:1<xp
  · have HC2:=hid (HC.out.trans (if_pos h1))
    have HF2:=hid (H3.out sP w3 hC3)
    have j1:(1:Int)<xp:=by omega
    have c2:=cellx hG3 0 rfl
    clear HC h1 hC3
    go_wp2_with fail
    refine(HF2.out).mono ?_
    rintro e w4 ⟨rfl,hC4,hc4⟩
    have hG4:=hc4.heap hG3 hFB
    clear HF2
    go_wp2_with fail
    go_meet
    rw [HC2.out]
    exact⟨hG4,hC4,hch3.trans hc4 fun _ _ h=>.inl h⟩
  · have HC2:=hid (HC.out.trans (if_neg h1))
    have j1:¬(1:Int)<xp:=by omega
    clear HC h1
    go_wp2_with fail
    go_meet
    rw [HC2.out]
    exact⟨hG3,hC3,hch3⟩
 case rest=>
  obtain⟨hG4,hC4,hch4⟩:=hcut
  clear hG3 hC3 hch3 HC H3
  have hpb:=HPB.out
  have z4:=frozen_of_heap hG4 3
  have d4:=cellx hG4 3 rfl
  generalize hpq:decide (xp=1)=pb at *
  have HPQ:=hid hpq
  clear hpq
  have hst:=setCell_chg wc ⟨F,3,none⟩ (.bool pb)
  have hG5:(wc.setCell ⟨F,3,none⟩ (.bool pb)).heap[F]? = some (orB B bv xb pb 0 0):=heap_setCell_own hG4 3 _
  have hC5:=hC4.box hG4 (by decide) (Ne.symm hFB) hst
  have hch5:=hch4.trans hst (fun _ _ h=>.inr h)
  go_upto_region 6 with fail
  generalize wc.setCell ⟨F,3,none⟩ (.bool pb)=W5 at *
  clear z4 d4 hG4 hC4 hch4 hst hpb
  have c5:=cellx hG5 0 rfl
  have H4a:=hid (H4.out W5 hC5)
  clear H4 hC5
  go_wp2_with fail
  refine(H4a.out).mono ?_
  rintro e w6 ⟨rfl,hC6,hc6⟩
  have hG6:=hc6.heap hG5 hFB
  have z6:=frozen_of_heap hG6 8
  have d6:=cellx hG6 8 rfl
  have hst:=setCell_chg w6 ⟨F,8,none⟩ (N xr)
  have hG7:(w6.setCell ⟨F,8,none⟩ (N xr)).heap[F]? = some (orB B bv xb pb xr 0):=heap_setCell_own hG6 8 _
  have hC7:=hC6.box hG6 (by decide) (Ne.symm hFB) hst
  have hch7:=(hch5.trans hc6 (fun _ _ h=>.inl h)).trans hst (fun _ _ h=>.inr h)
  clear H4a c5 hG5 hC6 hc6 hch5 hst
  go_upto_region 7 with fail
  generalize w6.setCell ⟨F,8,none⟩ (N xr)=W7 at *
  clear z6 d6 hG6
  have c7:=cellx hG7 0 rfl
  have c7r:=cellx hG7 8 rfl
  have H5a:=hid (H5.out W7.drew (hC7.fr (Fr.refl W7).drew))
  clear H5
  go_cut []from 40 to 51 (fun wx=>wx.heap[F]? = some (orB B bv xb pb xr xk)/\CurF wx 156 B base b sK.at_ sK.er/\Chg (fun k=>k=B\/k=F) w wx)
  case first=>
   go_region_with (go_at_call 96; refine H5a.out.mono ?_; rintro e w8 ⟨rfl, hC8, hc8⟩
                   have hG8 := hc8.heap (show W7.drew.heap[F]? = _ from hG7) hFB
                   have d8 := cellx hG8 9 rfl
                   have z8 := frozen_of_heap hG8 9)
   all_goals go_wp2_with fail
   all_goals go_meet
   all_goals exact⟨heap_setCell_own hG8 9 (N xk),hC8.box hG8 (by decide) (Ne.symm hFB) (setCell_chg w8 ⟨F,9,none⟩ (N xk)),((hch7.trans ((Fr.refl W7).drew.chg (fun k=>k=B)) (fun _ _ h=>.inl h)).trans hc8 (fun _ _ h=>.inl h)).trans (setCell_chg w8 ⟨F,9,none⟩ (N xk)) (fun _ _ h=>.inr h)⟩
  case rest=>
   obtain⟨hG9,hC9,hch9⟩:=hcut
   clear H5a c7 c7r hG7 hC7 hch7
   have c9:=cellx hG9 0 rfl
   have HE9:=hid (HEr.out _ _ wc hC9)
   clear HEr
   by_cases h9:sK.er=0
   · have h9':((sK.er:Nat):Int)=0:=by omega
     have HEE:=hid (HE.out.trans (if_pos h9))
     rw [h9']at HE9
     have q2:=cellx hG9 2 rfl
     have q3:=cellx hG9 3 rfl
     have q4:=cellx hG9 4 rfl
     have q5:=cellx hG9 5 rfl
     have q6:=cellx hG9 6 rfl
     have q7:=cellx hG9 7 rfl
     have HO1:=hid (HO.out wc)
     have HXE:Hid ((if decide (16<=xb/\xb<=32768)=true then(0:Int)else 9)=(E:Int)):=by
      show _=_
      rw [HEE.out]
      by_cases h:16<=xb/\xb<=32768
      · rw [if_pos (decide_eq_true h),if_pos h];rfl
      · rw [if_neg (by simpa using h),if_neg h];rfl
     rw [HXE.out]at HO1
     clear HE HEE HO h9 h9'
     go_wp2_with fail
     refine(HE9.out).mono ?_
     rintro e w10 ⟨rfl,rfl⟩
     clear HE9
     go_wp2_with fail
     refine(HO1.out).mono ?_
     rintro e w11 ⟨rfl,hf11⟩
     go_wp2_with fail
     go_ret
     rw [HPQ.out]
     exact⟨rfl,hf11.heap hG9,hC9.fr hf11,hch9.trans (hf11.chg (fun k=>k=B)) (fun _ _ h=>.inl h)⟩
   · have h9':¬((sK.er:Nat):Int)=0:=by omega
     have HEE:=hid (HE.out.trans (if_neg h9))
     clear HE HO h9
     go_wp2_with fail
     refine(HE9.out).mono ?_
     rintro e w10 ⟨rfl,rfl⟩
     clear HE9
     go_wp2_with fail
     go_ret
     rw [HEE.out,HPQ.out]
     exact⟨rfl,hG9,hC9,hch9⟩
end Go.Proofs.YtdagmoonnbnceaaGreatDoor
