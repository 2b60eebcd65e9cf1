/- Parts of the proof of ArchVersions: L4 Ck Cl U3 U9. -/
import Derived.Test.YtghcmindankceaaGreatDoorM17
import Derived.Test.YtghcmindankceaaGreatDoorM04
import Derived.Test.YtghcmindankceaaGreatDoorM16
import Derived.Test.YtghcmindankceaaGreatDoorM05
import Derived.Test.YtghcmindankceaaGreatDoorM14
import Derived.Test.YtghcmindankceaaGreatDoorM41
import Derived.Test.YtghcmindankceaaGreatDoorM12
set_option linter.unusedVariables false
set_option linter.unusedSectionVars false
set_option linter.unusedSimpArgs false
set_option maxHeartbeats 8000000
namespace Go.Proofs.YtghcmindankceaaGreatDoor
open Go.RowKit Go.Fk
theorem itAt{w:World}{v:Value}{l:List It}(h:See w eIt v l)(k:Nat)(hk:k<l.length) :
  ∃ b off cap,v=.slice (some ⟨b,off,none⟩) l.length cap/\w.cell? ⟨b,off+k*2,none⟩=some (.int .u64 (l[k].w.toNat:Int))/\w.cell? ⟨b,off+k*2+1,none⟩=some (.bool l[k].leaf):=by
 obtain⟨b,off,cap,rfl,h1,h2,h3⟩:=h.cells (by intro e;simp [e]at hk)
 have e0:=h3 k hk 0 (by decide) _ rfl
 have e1:=h3 k hk 1 (by decide) _ rfl
 exact⟨b,off,cap,rfl,by simpa [eIt] using e0,by simpa [eIt,Nat.add_assoc] using e1⟩
theorem drop_pairs(row:List It)(k:Nat)(h:k+1<row.length):pairsI (row.drop k)=⟨row[k].w+row[k+1].w,false,row[k].syms++row[k+1].syms⟩::pairsI (row.drop (k+2)):=by
 rw [List.drop_eq_getElem_cons (by omega),List.drop_eq_getElem_cons h,pairsI]
theorem drop_pairs_end(row:List It)(k:Nat)(h:row.length<=k+1):pairsI (row.drop k)=[]:=by
 have hl:(row.drop k).length<=1:=by rw [List.length_drop];omega
 generalize row.drop k=r at *
 match r,hl with
 | [],_=>rfl
 | [_],_=>rfl
theorem u64_le(a b:UInt64):(a<=b)↔((a.toNat:Int)<=b.toNat):=by rw [UInt64.le_iff_toNat_le];omega
theorem u64_add(a b:UInt64):IntKind.u64.wrap ((a.toNat:Int)+b.toNat)=((a+b).toNat:Int):=by
 rw [IntKind.wrap_u64,UInt64.toNat_add];omega
set_option maxRecDepth 100000
theorem next_any(va vb:Value)(leaf row:List It)(w:World)(ha:See w eIt va leaf)(hb:See w eIt vb row)(hn:leaf.length<=1000000)(hm:row.length<=2000000) :
  Calls Tryz.prog 336 #[va,vb] w fun e w'=>∃ v,e=.returned v/\Ow w' w.heap.size eIt v (mergeI leaf (pairsI row))/\Fr w w':=by
 obtain⟨a,cap,hv,hcap1,hcap2,hnone⟩:=ha.shape
 subst hv
 obtain⟨a',cap',hv,hcap1',hcap2',hnone'⟩:=hb.shape
 subst hv
 unfold maxLen at hcap2 hcap2'
 have hml:=mergeI_len leaf (pairsI row)
 rw [pairsI_len]at hml
 have hcd:(row.length:Int).tdiv 2=((row.length / 2:Nat):Int):=by rw [Int.tdiv_eq_ediv_of_nonneg (by omega)];omega
 have hcd2:(row.length:Int) / 2=((row.length / 2:Nat):Int):=by omega
 have hsum:IntKind.i64.wrap ((leaf.length:Int)+((row.length / 2:Nat):Int))=((leaf.length+row.length / 2:Nat):Int):=by rw [IntWalk.i64_in _ (by omega)];omega
 have hc3:leaf.length+row.length / 2<=1000000000:=by omega
 have HE0:Hid (mergeI leaf (pairsI row)=[]++mergeI (leaf.drop 0) (pairsI (row.drop 0))):=by show _=_;simp
 have HML:=hid hml
 clear hml
 generalize mergeI leaf (pairsI row)=R at *
 generalize hcq:leaf.length+row.length / 2=C at *
 have HC:=hid hcq
 clear hcq
 generalize row.length / 2=rh at *
 go_enter Tryz.func336, Tryz.ntmps336
 go_wp2_with (refine wpList_make0 eIt rfl (.const (.int .i64 0)) (.tmp 14) 423 rfl Tryz.underlying423 .i64 .i64 (C:Int) C rfl ?c1 rfl hc3 w.heap.size (Nat.le_refl _) ?_)
 case c1=>first | rfl | trivial
 intro w1 hO1 hg1
 have hf1:Fr w w1:=Fr.own (Fr.refl w) hg1 (fun k hk=>by cases hk)
 go_wp2_with fail
 clear hg1
 go_loopw [5,6,7] (fun ov iv kv wr=>∃ (i k:Nat) (m:List It),i<=leaf.length/\k<=row.length/\iv=N i/\kv=N k/\m.length<=i+k/\Ow wr w.heap.size eIt ov m/\Hid (R=m++mergeI (leaf.drop i) (pairsI (row.drop k)))/\Fr w wr) (fun _ iv kv _=>leaf.length - (intOf iv).toNat+(row.length - (intOf kv).toNat))
 case atStart=>exact⟨0,0,[],Nat.zero_le _,Nat.zero_le _,rfl,rfl,by simp,hO1,HE0,hf1⟩
 case round=>
  clear hO1 hf1
  obtain⟨i,k,m,hi,hk,rfl,rfl,hml,hO,HE,hf⟩:=hrel
  have hwk:IntKind.i64.wrap ((k:Int)+1)=((k+1:Nat):Int):=by rw [IntWalk.i64_in _ (by omega)];omega
  by_cases hi1:i<leaf.length
  · have hi1':(i:Int)<leaf.length:=by omega
    obtain⟨b,off,cp,hv,c0,c1⟩:=itAt (ha.fr hf) i hi1
    have HL:=hid (List.drop_eq_getElem_cons hi1)
    have HC1:Hid (eIt.cells [leaf[i]]=[.int .u64 (leaf[i].w.toNat:Int),.bool leaf[i].leaf]):=rfl
    generalize leaf[i]=x at *
    have hxb:=UInt64.toNat_lt x.w
    cases hv
    have j1:(0:Int)<=i:=by omega
    by_cases hk1:k+1<row.length
    · have hk1':((k+1:Nat):Int)<row.length:=by omega
      obtain⟨b2,off2,cp2,hv2,d0,d1⟩:=itAt (hb.fr hf) k (by omega)
      obtain⟨b3,off3,cp3,hv3,e0,e1⟩:=itAt (hb.fr hf) (k+1) hk1
      rw [hv2]at hv3
      cases hv3
      have HP:=hid (drop_pairs row k hk1)
      generalize row[k]=p at *
      generalize row[k+1]=q at *
      cases hv2
      have hsm:=u64_add p.w q.w
      have HU:=hid (u64_le x.w (p.w+q.w))
      generalize hy:(⟨p.w+q.w,false,p.syms++q.syms⟩:It)=y at *
      have HY1:Hid (eIt.cells [y]=[.int .u64 ((p.w+q.w).toNat:Int),.bool false]):=by subst hy;rfl
      have HYw:Hid (y.w=p.w+q.w):=by subst hy;rfl
      have hsb:=UInt64.toNat_lt (p.w+q.w)
      have hpb:=UInt64.toNat_lt p.w
      have hqb:=UInt64.toNat_lt q.w
      clear hy
      generalize (p.w+q.w).toNat=s at *
      generalize p.w.toNat=pw at *
      generalize q.w.toNat=qw at *
      have j2:(0:Int)<=k:=by omega
      have j3:(k:Int)<row.length:=by omega
      have j4:(0:Int)<=((k+1:Nat):Int):=by omega
      have hk1n:¬(row.length:Int)<=((k+1:Nat):Int):=by omega
      have hlk:k+2<=row.length:=by omega
      have hwk2:IntKind.i64.wrap ((k:Int)+2)=((k+2:Nat):Int):=by rw [IntWalk.i64_in _ (by omega)];omega
      have hO':=hO
      by_cases hle:x.w<=p.w+q.w
      · have hle':(x.w.toNat:Int)<=s:=HU.out.1 hle
        have HE2:Hid (R=(m++[x])++mergeI (leaf.drop (i+1)) (pairsI (row.drop k))):=by
         show _=_;rw [HE.out,HP.out,HL.out,mergeI,if_pos (by rw [HYw.out];exact hle)];simp
        clear HE HL HP HU hle hO'
        go_upto_region 7 with fail
        go_quiet (fail)
        have hO2:=hO.fr ((Fr.refl wr).drewN nq)
        have hf2:=hf.trans ((Fr.refl wr).drewN nq)
        replace c0:=((Fr.refl wr).drewN nq).cell c0
        replace c1:=((Fr.refl wr).drewN nq).cell c1
        clear hO hf d0 d1 e0 e1
        generalize wr.drewN nq=w5 at *
        go_wp2_with (at_builtin;refine wpList_app1 eIt rfl (.tmp 66) (.tmp 71) 423 rfl Tryz.underlying423 w.heap.size rfl hO2 [x] _ _ _ rfl rfl rfl (by simp;omega) hf2.size ?_)
        intro v' w4 hap
        go_wp2_with fail
        go_roundw
        case rel=>exact⟨i+1,k,m++[x],by omega,hk,by go_num,rfl,by simp;omega,hap.own,HE2,hap.below hO2 hf2 (Nat.le_refl _) hf2.size⟩
        case measure=>simp [intOf];omega
      · have hle':¬(x.w.toNat:Int)<=s:=fun e=>hle (HU.out.2 e)
        have HE2:Hid (R=(m++[y])++mergeI (leaf.drop i) (pairsI (row.drop (k+2)))):=by
         show _=_;rw [HE.out,HP.out,HL.out,mergeI,if_neg (by rw [HYw.out];exact hle)];simp
        clear HE HL HP HU hle hO'
        go_upto_region 7 with fail
        go_quiet (fail)
        have hO2:=hO.fr ((Fr.refl wr).drewN nq)
        have hf2:=hf.trans ((Fr.refl wr).drewN nq)
        replace c0:=((Fr.refl wr).drewN nq).cell c0
        replace c1:=((Fr.refl wr).drewN nq).cell c1
        clear hO hf d0 d1 e0 e1
        generalize wr.drewN nq=w5 at *
        go_wp2_with (at_builtin;refine wpList_app1 eIt rfl (.tmp 75) (.tmp 78) 423 rfl Tryz.underlying423 w.heap.size rfl hO2 [y] _ _ _ (by rw [HY1.out]) rfl rfl (by simp;omega) hf2.size ?_)
        intro v' w4 hap
        go_wp2_with fail
        go_roundw
        case rel=>exact⟨i,k+2,m++[y],hi,hlk,rfl,by go_num,by simp;omega,hap.own,HE2,hap.below hO2 hf2 (Nat.le_refl _) hf2.size⟩
        case measure=>simp [intOf];omega
    · have hk1':¬((k+1:Nat):Int)<row.length:=by omega
      have hk2':(row.length:Int)<=((k+1:Nat):Int):=by omega
      have HE2:Hid (R=(m++[x])++mergeI (leaf.drop (i+1)) (pairsI (row.drop k))):=by
       have h1:=drop_pairs_end row k (by omega)
       show _=_;rw [HE.out,h1,mergeI_nil,mergeI_nil,HL.out];simp
      clear HE HL
      go_wp2_with (at_builtin;refine wpList_app1 eIt rfl (.tmp 32) (.tmp 37) 423 rfl Tryz.underlying423 w.heap.size rfl hO [x] _ _ _ rfl rfl rfl (by simp;omega) hf.size ?_)
      intro v' w4 hap
      go_wp2_with fail
      go_roundw
      case rel=>exact⟨i+1,k,m++[x],by omega,hk,by go_num,rfl,by simp;omega,hap.own,HE2,hap.below hO hf (Nat.le_refl _) hf.size⟩
      case measure=>simp [intOf];omega
  · obtain rfl:i=leaf.length:=by omega
    have hi1':¬(leaf.length:Int)<leaf.length:=by omega
    by_cases hk1:k+1<row.length
    · have hk1':((k+1:Nat):Int)<row.length:=by omega
      obtain⟨b2,off2,cp2,hv2,d0,d1⟩:=itAt (hb.fr hf) k (by omega)
      obtain⟨b3,off3,cp3,hv3,e0,e1⟩:=itAt (hb.fr hf) (k+1) hk1
      rw [hv2]at hv3
      cases hv3
      have HP:=hid (drop_pairs row k hk1)
      generalize row[k]=p at *
      generalize row[k+1]=q at *
      cases hv2
      have hsm:=u64_add p.w q.w
      generalize hy:(⟨p.w+q.w,false,p.syms++q.syms⟩:It)=y at *
      have HY1:Hid (eIt.cells [y]=[.int .u64 ((p.w+q.w).toNat:Int),.bool false]):=by subst hy;rfl
      have hsb:=UInt64.toNat_lt (p.w+q.w)
      have hpb:=UInt64.toNat_lt p.w
      have hqb:=UInt64.toNat_lt q.w
      clear hy
      generalize (p.w+q.w).toNat=s at *
      generalize p.w.toNat=pw at *
      generalize q.w.toNat=qw at *
      have j2:(0:Int)<=k:=by omega
      have j3:(k:Int)<row.length:=by omega
      have j4:(0:Int)<=((k+1:Nat):Int):=by omega
      have hk1n:¬(row.length:Int)<=((k+1:Nat):Int):=by omega
      have hlk:k+2<=row.length:=by omega
      have hwk2:IntKind.i64.wrap ((k:Int)+2)=((k+2:Nat):Int):=by rw [IntWalk.i64_in _ (by omega)];omega
      have HE2:Hid (R=(m++[y])++mergeI (leaf.drop leaf.length) (pairsI (row.drop (k+2)))):=by
       show _=_;rw [HE.out,HP.out,List.drop_length,nil_mergeI,nil_mergeI];simp
      clear HE HP
      go_upto_region 7 with fail
      go_quiet (fail)
      have hO2:=hO.fr ((Fr.refl wr).drewN nq)
      have hf2:=hf.trans ((Fr.refl wr).drewN nq)
      clear hO hf d0 d1 e0 e1
      generalize wr.drewN nq=w5 at *
      go_wp2_with (at_builtin;refine wpList_app1 eIt rfl (.tmp 75) (.tmp 78) 423 rfl Tryz.underlying423 w.heap.size rfl hO2 [y] _ _ _ (by rw [HY1.out]) rfl rfl (by simp;omega) hf2.size ?_)
      intro v' w4 hap
      go_wp2_with fail
      go_roundw
      case rel=>exact⟨leaf.length,k+2,m++[y],Nat.le_refl _,hlk,rfl,by go_num,by simp;omega,hap.own,HE2,hap.below hO2 hf2 (Nat.le_refl _) hf2.size⟩
      case measure=>simp [intOf];omega
    · have hk1':¬((k+1:Nat):Int)<row.length:=by omega
      have HE2:Hid (R=m):=by
       have h1:=drop_pairs_end row k (by omega)
       show _=_;rw [HE.out,h1,List.drop_length,mergeI_nil,List.append_nil]
      clear HE
      go_wp2_with fail
      go_ret
      exact⟨_,rfl,by rw [HE2.out];exact hO,hf⟩
set_option maxRecDepth 512
end Go.Proofs.YtghcmindankceaaGreatDoor
namespace Go.Fk
open Go.RowKit
section
variable {P:Program} {α:Type} {E:Elt P α} {w:World} {base:Nat}
end
end Go.Fk
namespace Go.Proofs.YtghcmindankceaaGreatDoor
open Go.RowKit Go.Fk
end Go.Proofs.YtghcmindankceaaGreatDoor
namespace Go.Proofs.YtghcmindankceaaGreatDoor
open Go.RowKit Go.Fk
def eQ:Elt Tryz.prog Nat:=⟨61,1,8,0,.int .u64 0,fun n=>[.int .u64 (n:Int)],by kernel_rfl,by decide,by decide,by simp [Value.cells],fun _=>rfl,by intro x u hu;simp at hu;subst hu;rfl⟩
theorem CurF.cbox{w:World}{B base n er:Nat}{T:TypeId}{l:List UInt8}(h:CurF w T B base l n er):∃ cs,w.heap[B]?=some (.cells cs T (0,0)):=by obtain⟨⟨v,h1,_⟩,_⟩:=h;exact⟨_,h1⟩
theorem CurF.lt{w:World}{B base n er:Nat}{T:TypeId}{l:List UInt8}(h:CurF w T B base l n er):B<w.heap.size:=by obtain⟨cs,h1⟩:=h.cbox;exact(Array.getElem?_eq_some_iff.1 h1).1
theorem CurF.app{α:Type}{E:Elt Tryz.prog α}{w w':World}{B base n er b:Nat}{T:TypeId}{l:List UInt8}{v v':Value}{xs ys:List α}(h:CurF w T B base l n er)(ho:Ow w b E v xs)(hap:App b E ys w v v' w')(hT:T≠E.e)(hE:E.e≠(eB:Elt Tryz.prog UInt8).e):CurF w' T B base l n er:=by
 obtain⟨⟨x,h1,h2⟩,h3⟩:=h
 exact⟨⟨x,hap.chg'.heap h1 (fun e=>ho.ne_cells h1 hT e),own_app h2.own ho hap hE,h2.top⟩,h3⟩
theorem Cs.int_top(s:Cs)(l:List UInt8)(most:Nat):(s.int l most).1<=most:=by
 show Cs.val _ _<=_
 unfold Cs.val
 split
 · rename_i h;exact(limL_ok _ _ h.2).2.2
 · exact Nat.zero_le _
abbrev frB(B way n p:Nat)(bv:Value):Obj:=.cells #[.pointer (some ⟨B,0,none⟩),N way,N n,N p,bv] 213 (0,0)
set_option maxRecDepth 100000
theorem bfhead_any(F B base:Nat)(b:List UInt8)(w:World)(hG:w.heap[F]?=some (frB B 0 0 0 (.slice none 0 0)))(hc:CurF w 242 B base b 0 0)(hFB:F≠B)(hl:b.length<=1000000)(hb:base<=w.heap.size) :
  Calls Tryz.prog 218 #[.pointer (some ⟨F,0,none⟩)] w fun e w'=>e=.returned (.tuple #[])/\w'.heap[F]?=some (frB B (bkW b).1 (bkN b).1 (bkP b).1 (.slice none 0 0))/\CurF w' 242 B base b (bkD b).at_ (bkD b).er/\Chg (fun k=>k=B\/k=F) w w':=by
 have HBy:Hid (Calls Tryz.prog 143 #[.pointer (some ⟨B,0,none⟩)] w fun e w'=>e=.returned (.int .u8 ((bkW b).1:Int))/\CurF w' 242 B base b (bkW b).2.at_ (bkW b).2.er/\Chg (fun b=>b=B) w w'):=Byte_cur B base ⟨0,0⟩ b w hc hl hb
 have HFa:=hid (fun er s W (h:CurF W 242 B base b s.at_ s.er)=>Fail_cur er B base s b W h)
 have HI1:Hid (∀ W,CurF W 242 B base b (bkC b).at_ (bkC b).er->Calls Tryz.prog 146 #[.pointer (some ⟨B,0,none⟩),N 32768] W fun e w'=>e=.returned (N (bkN b).1)/\CurF w' 242 B base b (bkN b).2.at_ (bkN b).2.er/\Chg (fun b=>b=B) W w'):=fun W h=>Int_cur 32768 (by decide) B base (bkC b) b W h hl
 have HI2:Hid (∀ W,CurF W 242 B base b (bkN b).2.at_ (bkN b).2.er->Calls Tryz.prog 146 #[.pointer (some ⟨B,0,none⟩),N 32768] W fun e w'=>e=.returned (N (bkP b).1)/\CurF w' 242 B base b (bkP b).2.at_ (bkP b).2.er/\Chg (fun b=>b=B) W w'):=fun W h=>Int_cur 32768 (by decide) B base (bkN b).2 b W h hl
 have HC:Hid (bkC b=if 1<(bkW b).1 then(bkW b).2.fail 2 else(bkW b).2):=rfl
 have HD:Hid (bkD b=if 1032*(bkP b).1+64<(bkN b).1 then(bkP b).2.fail 6 else(bkP b).2):=rfl
 have hx:(bkW b).1<256:=UInt8.toNat_lt _
 have hn:(bkN b).1<=32768:=Cs.int_top _ _ _
 have hp:(bkP b).1<=32768:=Cs.int_top _ _ _
 have hBw:=hc.lt
 have cF:w.cell? ⟨F,0,none⟩=some (.pointer (some ⟨B,0,none⟩)):=by rw [cell_of_heap hG];rfl
 clear hc
 generalize bkD b=sD at *
 generalize bkC b=sC at *
 generalize bkW b=RW at *
 generalize bkN b=RN at *
 generalize bkP b=RP at *
 obtain⟨xw,sW⟩:=RW
 obtain⟨xn,sN⟩:=RN
 obtain⟨xp,sP⟩:=RP
 simp only at HBy HI1 HI2 HC HD hx hn hp
 go_enter Tryz.func218, Tryz.ntmps218
 go_wp2_with fail
 refine(HBy.out).mono ?_
 rintro e w1 ⟨rfl,hC1,hc1⟩
 have hG1:=hc1.heap hG hFB
 have z1:=frozen_of_heap hG1 1
 have d1:w1.cell? ⟨F,1,none⟩=some (N 0):=by rw [cell_of_heap hG1];rfl
 have hw1:IntKind.i64.wrap (xw:Int)=(xw:Int):=IntWalk.i64_in _ (by omega)
 have hG2:=heap_setCell_own hG1 1 (.int .i64 (xw:Int))
 have hC2:=hC1.box hG1 (by decide) (Ne.symm hFB) (setCell_chg w1 ⟨F,1,none⟩ (.int .i64 (xw:Int)))
 have hch2:Chg (fun k=>k=B\/k=F) w (w1.setCell ⟨F,1,none⟩ (.int .i64 (xw:Int))):=(hc1.mono (G':=fun k=>k=B\/k=F) (fun k hk h=>.inl h)).trans (setCell_chg w1 ⟨F,1,none⟩ _) (fun _ _ h=>.inr h)
 clear hC1 hc1 HBy
 go_upto_if 15 with fail
 generalize hW2:w1.setCell ⟨F,1,none⟩ (.int .i64 (xw:Int))=W2 at *
 clear hW2 hG1 z1 d1
 have hBw2:=hC2.lt
 go_cut []from 15 to 21 (fun wx=>wx.heap[F]?=some (frB B xw 0 0 (.slice none 0 0))/\CurF wx 242 B base b sC.at_ sC.er/\Chg (fun k=>k=B\/k=F) w wx)
 case first=>
  by_cases h1:1<xw
  · have HC2:=hid (HC.out.trans (if_pos h1))
    have HF2:=hid (HFa.out 2 sW W2 hC2)
    have j1:(1:Int)<xw:=by omega
    have c2:W2.cell? ⟨F,0,none⟩=some (.pointer (some ⟨B,0,none⟩)):=by rw [cell_of_heap hG2];rfl
    clear HC h1 hC2
    go_wp2_with fail
    refine(HF2.out).mono ?_
    rintro e w3 ⟨rfl,hC3,hc3⟩
    have hG3:=hc3.heap hG2 hFB
    clear HF2
    go_wp2_with fail
    go_meet
    rw [HC2.out]
    exact⟨hG3,hC3,hch2.trans hc3 fun _ _ h=>.inl h⟩
  · have HC2:=hid (HC.out.trans (if_neg h1))
    have j1:¬(1:Int)<xw:=by omega
    clear HC h1
    go_wp2_with fail
    go_meet
    rw [HC2.out]
    exact⟨hG2,hC2,hch2⟩
 case rest=>
  obtain⟨hG3,hC3,hch3⟩:=hcut
  clear hG2 hC2 hch2 HC
  have HFb:=hid HFa.out
  clear HFa
  have c3:wc.cell? ⟨F,0,none⟩=some (.pointer (some ⟨B,0,none⟩)):=by rw [cell_of_heap hG3];rfl
  have HI1a:=hid (HI1.out wc hC3)
  clear HI1 hC3
  go_wp2_with fail
  refine(HI1a.out).mono ?_
  rintro e w4 ⟨rfl,hC4,hc4⟩
  have hG4:=hc4.heap hG3 hFB
  have z4:=frozen_of_heap hG4 2
  have d4:w4.cell? ⟨F,2,none⟩=some (N 0):=by rw [cell_of_heap hG4];rfl
  have d4':w4.cell? ⟨F,0,none⟩=some (.pointer (some ⟨B,0,none⟩)):=by rw [cell_of_heap hG4];rfl
  have hst:=setCell_chg w4 ⟨F,2,none⟩ (N xn)
  have hG5:(w4.setCell ⟨F,2,none⟩ (N xn)).heap[F]?=some (frB B xw xn 0 (.slice none 0 0)):=heap_setCell_own hG4 2 (N xn)
  have hC5:=hC4.box hG4 (by decide) (Ne.symm hFB) hst
  have hch5:=(hch3.trans hc4 (fun _ _ h=>.inl h)).trans hst (fun _ _ h=>.inr h)
  clear HI1a c3 hC4 hc4 hG3 hch3 hst
  go_upto_region 9 with fail
  generalize hW5:w4.setCell ⟨F,2,none⟩ (N xn)=W5 at *
  clear hW5 z4 d4 d4' hG4
  have c5:W5.cell? ⟨F,0,none⟩=some (.pointer (some ⟨B,0,none⟩)):=by rw [cell_of_heap hG5];rfl
  have HI2a:=hid (HI2.out W5 hC5)
  clear HI2 hC5
  go_wp2_with fail
  refine(HI2a.out).mono ?_
  rintro e w6 ⟨rfl,hC6,hc6⟩
  have hG6:=hc6.heap hG5 hFB
  have z6:=frozen_of_heap hG6 3
  have d6:w6.cell? ⟨F,3,none⟩=some (N 0):=by rw [cell_of_heap hG6];rfl
  have d6':w6.cell? ⟨F,0,none⟩=some (.pointer (some ⟨B,0,none⟩)):=by rw [cell_of_heap hG6];rfl
  have hst:=setCell_chg w6 ⟨F,3,none⟩ (N xp)
  have hG7:(w6.setCell ⟨F,3,none⟩ (N xp)).heap[F]?=some (frB B xw xn xp (.slice none 0 0)):=heap_setCell_own hG6 3 (N xp)
  have hC7:=hC6.box hG6 (by decide) (Ne.symm hFB) hst
  have hch7:=(hch5.trans hc6 (fun _ _ h=>.inl h)).trans hst (fun _ _ h=>.inr h)
  clear HI2a c5 hC6 hc6 hG5 hch5 hst
  go_upto_region 11 with fail
  generalize hW7:w6.setCell ⟨F,3,none⟩ (N xp)=W7 at *
  clear hW7 z6 d6 d6' hG6
  have c0:W7.cell? ⟨F,0,none⟩=some (.pointer (some ⟨B,0,none⟩)):=by rw [cell_of_heap hG7];rfl
  have c2:W7.cell? ⟨F,2,none⟩=some (N xn):=by rw [cell_of_heap hG7];rfl
  have c3:W7.cell? ⟨F,3,none⟩=some (N xp):=by rw [cell_of_heap hG7];rfl
  have i1:IntKind.i64.wrap (1032*(xp:Int))=1032*(xp:Int):=IntWalk.i64_in _ (by omega)
  have i2:IntKind.i64.wrap (1032*(xp:Int)+64)=1032*(xp:Int)+64:=IntWalk.i64_in _ (by omega)
  by_cases h1:1032*xp+64<xn
  · have HD2:=hid (HD.out.trans (if_pos h1))
    have j1:1032*(xp:Int)+64<(xn:Int):=by omega
    have HF2:=hid (fun W (h:Fr W7 W)=>HFb.out 6 sP W (hC7.fr h))
    clear HD h1
    go_quiet (fail)
    have hfq:Fr W7 (W7.drewN nq):=(Fr.refl W7).drewN nq
    have e0:=hfq.cell c0
    have HF3:=hid (HF2.out _ hfq)
    have hG8:=hfq.heap hG7
    have hch8:=hch7.trans (hfq.chg (fun k=>k=B)) (fun _ _ h=>.inl h)
    clear c0 c2 c3 HF2
    go_wp2_with fail
    refine(HF3.out).mono ?_
    rintro e w9 ⟨rfl,hC9,hc9⟩
    have hG9:=hc9.heap hG8 hFB
    go_wp2_with fail
    go_end0
    rw [HD2.out]
    exact⟨rfl,hG9,hC9,hch8.trans hc9 fun _ _ h=>.inl h⟩
  · have HD2:=hid (HD.out.trans (if_neg h1))
    have j1:¬1032*(xp:Int)+64<(xn:Int):=by omega
    clear HD h1
    go_quiet (fail)
    have hfq:Fr W7 (W7.drewN nq):=(Fr.refl W7).drewN nq
    go_wp2_with fail
    go_end0
    rw [HD2.out]
    exact⟨rfl,hfq.heap hG7,hC7.fr hfq,hch7.trans (hfq.chg (fun k=>k=B)) (fun _ _ h=>.inl h)⟩
set_option maxRecDepth 512
theorem bkT_le(b:List UInt8):(bkT b).2.at_<=b.length:=by
 have h1:(bkW b).2.at_<=b.length:=Cs.take_le _ _ _ (Nat.zero_le _)
 have h2:(bkC b).at_<=b.length:=by
  unfold bkC;split
  · unfold Cs.fail;split
    · exact h1
    · exact h1
  · exact h1
 have h3:(bkN b).2.at_<=b.length:=Cs.int_le _ _ _ h2
 have h4:(bkP b).2.at_<=b.length:=Cs.int_le _ _ _ h3
 have h5:(bkD b).at_<=b.length:=by
  unfold bkD;split
  · unfold Cs.fail;split
    · exact h4
    · exact h4
  · exact h4
 exact Cs.take_le _ _ _ (Cs.take_le _ _ _ h5)
set_option maxRecDepth 100000
theorem bfrest_any (F B base : Nat) (v : Value) (b : List UInt8) (w0 w : World) (hs : See w0 eB v b) (hf0 : Fr w0 w) (hB0 : w0.heap.size ≤ B) (hF0 : w0.heap.size ≤ F) (hG : w.heap[F]? = some (frB B (bkW b).1 (bkN b).1 (bkP b).1 (.slice none 0 0))) (hc : CurF w 242 B base b (bkD b).at_ (bkD b).er) (hFB : F ≠ B) (hl : b.length ≤ 1000000) (hb : base ≤ w.heap.size) (ht : Crc w0) :
    Calls Tryz.prog 219 #[.pointer (some ⟨F,0,none⟩),v] w fun e w'=>∃ u,e=.returned (.tuple #[])/\w'.heap[F]?=some (frB B (bkW b).1 (bkN b).1 (bkP b).1 u)/\Ow w' w.heap.size eB u (bkB b).1/\CurF w' 242 B base b (bkT b).2.at_ (bkE b)/\Chg (fun k=>k=B\/k=F) w w':=by
  have HTk:=hid (fun k s W (h:CurF W 242 B base b s.at_ s.er) h2=>Take_cur B base k s b W h hl h2)
  have HEr:=hid (fun n er W (h:CurF W 242 B base b n er)=>CErr_any B base n er b W h)
  have HAt:=hid (fun n er W (h:CurF W 242 B base b n er)=>At_cur B base n er b W h)
  have HFa:=hid (fun er s W (h:CurF W 242 B base b s.at_ s.er)=>Fail_cur er B base s b W h)
  have HT1:Hid (∀ W,CurF W 242 B base b (bkD b).at_ (bkD b).er->base<=W.heap.size->Calls Tryz.prog 204 #[.pointer (some ⟨B,0,none⟩),N (bkP b).1] W fun e w'=>∃ u,e=.returned u/\Ow w' W.heap.size eB u (bkB b).1/\CurF w' 242 B base b (bkB b).2.at_ (bkB b).2.er/\Chg (fun b=>b=B) W w'):=fun W h h2=>HTk.out _ _ W h h2
  have HT2:Hid (∀ W,CurF W 242 B base b (bkB b).2.at_ (bkB b).2.er->base<=W.heap.size->Calls Tryz.prog 204 #[.pointer (some ⟨B,0,none⟩),N 4] W fun e w'=>∃ u,e=.returned u/\Ow w' W.heap.size eB u (bkT b).1/\CurF w' 242 B base b (bkT b).2.at_ (bkT b).2.er/\Chg (fun b=>b=B) W w'):=fun W h h2=>HTk.out _ _ W h h2
  have hle:=bkT_le b
  have hE:bkE b=if(bkT b).2.er=0 then errCut (b.take (bkT b).2.at_)else(bkT b).2.er:=rfl
  have HCut:=hid (fun W (h:Fr w0 W) v' (h2:See W eB v' (b.take (bkT b).2.at_))=>Cut_any v' _ W h2 (by rw [List.length_take];omega) (ht.fr h))
  have HS:=hid hs
  have hBw:=hc.lt
  obtain⟨a0,cap,hv,hcap1,hcap2,_⟩:=hs.shape
  subst hv
  unfold maxLen at hcap2
  have c0:w.cell? ⟨F,0,none⟩=some (.pointer (some ⟨B,0,none⟩)):=by rw [cell_of_heap hG];rfl
  have c3:w.cell? ⟨F,3,none⟩=some (N (bkP b).1):=by rw [cell_of_heap hG];rfl
  have HT1a:=hid (HT1.out w.drew (hc.fr (Fr.refl w).drew) hb)
  have HEh:=hid hE
  clear hs hc HTk HT1 hE
  generalize bkE b=E at *
  generalize (bkW b).1=xw at *
  generalize (bkN b).1=xn at *
  generalize (bkP b).1=xp at *
  generalize (bkB b).1=U at *
  generalize (bkB b).2=sB at *
  generalize (bkT b).1=U4 at *
  generalize (bkT b).2=sT at *
  go_enter Tryz.func219, Tryz.ntmps219
  go_upto_region 0 with fail
  go_cut []from 6 to 17 (fun wx=>∃ u,wx.heap[F]?=some (frB B xw xn xp u)/\Ow wx w.heap.size eB u U/\CurF wx 242 B base b sB.at_ sB.er/\Chg (fun k=>k=B\/k=F) w wx)
  case first=>
    go_region_with (go_at_call 204; refine HT1a.out.mono ?_; rintro e w2 ⟨u, rfl, hU, hC2, hc2⟩
                    obtain ⟨pu, zu, hu⟩ := hU.shape'
                    subst hu
                    have hG2 := hc2.heap (show w.drew.heap[F]? = _ from hG) hFB
                    have d2 : w2.cell? ⟨F, 4, none⟩ = some (.slice none 0 0) := by rw [cell_of_heap hG2]; rfl
                    have z2 := frozen_of_heap hG2 4)
    all_goals go_wp2_with fail
    all_goals go_meet
    all_goals exact⟨_,heap_setCell_own hG2 4 (.slice pu U.length zu),hU.chg (setCell_chg w2 ⟨F,4,none⟩ (.slice pu U.length zu)) (fun k hk e=>hU.ne_cells hG2 (by decide) (by rw [hk,show k=F from e])),hC2.box hG2 (by decide) (Ne.symm hFB) (setCell_chg w2 ⟨F,4,none⟩ (.slice pu U.length zu)),(((Fr.refl w).drew.chg (fun k=>k=B\/k=F)).trans hc2 (fun _ _ h=>.inl h)).trans (setCell_chg w2 ⟨F,4,none⟩ (.slice pu U.length zu)) (fun _ _ h=>.inr h)⟩
  case rest=>
    obtain⟨u,hG3,hU3,hC3,hch3⟩:=hcut
    have hb3:base<=wc.heap.size:=Nat.le_trans hb hch3.size
    have c3:wc.cell? ⟨F,0,none⟩=some (.pointer (some ⟨B,0,none⟩)):=by rw [cell_of_heap hG3];rfl
    have HT2a:=hid (HT2.out wc hC3 hb3)
    have hbx:=hC3.cbox
    clear HT1a HT2 c0 hG hC3 hb3
    go_wp2_with fail
    refine(HT2a.out).mono ?_
    rintro e w4 ⟨u4,rfl,_,hC4,hc4⟩
    have hG4:=hc4.heap hG3 hFB
    have hU4 := hU3.chg hc4 (fun i hi e => by
      obtain ⟨cs, h5⟩ := hbx
      exact hU3.ne_cells h5 (by decide) (by rw [hi, show i = B from e]))
    have hch4:=hch3.trans hc4 (fun _ _ h=>.inl h)
    have c4:w4.cell? ⟨F,0,none⟩=some (.pointer (some ⟨B,0,none⟩)):=by rw [cell_of_heap hG4];rfl
    have HE4:=hid (HEr.out _ _ w4 hC4)
    clear HT2a c3 hG3 hU3 hch3 hc4 hbx
    by_cases h0:sT.er=0
    · have h0':((sT.er:Nat):Int)=0:=by omega
      have HEE:=hid (HEh.out.trans (if_pos h0))
      have HA4:=hid (HAt.out _ _ w4 hC4)
      have hf4:Fr w0 w4:=Chg.below hf0 hch4 hf0.size (fun i e=>by rcases e with e | e <;> omega)
      obtain⟨htr,hts⟩:=run_to eB 22 Tryz.underlying22 (HS.out.fr hf4) sT.at_ hle
      have HC4:=hid (HCut.out w4 hf4 _ hts)
      have HF4:=hid (fun W (h:CurF W 242 B base b sT.at_ sT.er)=>HFa.out E sT W h)
      have HFl:Hid ((sT.fail E).at_=sT.at_/\(sT.fail E).er=E):=by
        show _/\_
        unfold Cs.fail
        rw [if_pos h0]
        exact⟨rfl,rfl⟩
      rw [h0']at HE4
      rw [<- HEE.out]at HC4
      clear HEh h0 h0' HCut HFa hts
      generalize errCut (b.take sT.at_)=ec at *
      go_wp2_with fail
      refine(HE4.out).mono ?_
      rintro e w5 ⟨rfl,rfl⟩
      clear HE4
      go_wp2_with fail
      refine(HA4.out).mono ?_
      rintro e w5 ⟨rfl,rfl⟩
      clear HA4
      go_wp2_with fail
      refine(HC4.out).mono ?_
      rintro e w6 ⟨u6,rfl,hO6,hf6⟩
      obtain⟨p6,z6,hq6⟩:=hO6.shape'
      subst hq6
      have hG6:=hf6.heap hG4
      have c6:=hf6.cell c4
      have HF6:=hid (HF4.out w6 (hC4.fr hf6))
      have hU6:=hU4.fr hf6
      have hch6:=hch4.trans (hf6.chg (fun k=>k=B)) (fun _ _ h=>.inl h)
      have hbx:=hC4.cbox
      clear HC4 HF4 hO6 hU4 hG4 c4
      go_wp2_with fail
      refine(HF6.out).mono ?_
      rintro e w7 ⟨rfl,hC7,hc7⟩
      rw [HFl.out.1,HFl.out.2]at hC7
      have hG7:=hc7.heap hG6 hFB
      have hU7 := hU6.chg hc7 (fun i hi e => by
        obtain ⟨cs, h5⟩ := hbx
        exact hU6.ne_cells (hf6.heap h5) (by decide) (by rw [hi, show i = B from e]))
      go_wp2_with fail
      go_end0
      exact⟨u,rfl,hG7,hU7,hC7,hch6.trans hc7 (fun _ _ h=>.inl h)⟩
    · have h0':¬((sT.er:Nat):Int)=0:=by omega
      have HEE:=hid (HEh.out.trans (if_neg h0))
      clear HEh h0
      go_wp2_with fail
      refine(HE4.out).mono ?_
      rintro e w5 ⟨rfl,rfl⟩
      go_wp2_with fail
      (try simp only [Exit.inBlock,Exit.then])
      refine bodyPost_ret (v:=.tuple #[]) (by simp [results,Tryz.results219,go_sem]) rfl ?_
      rw [HEE.out]
      exact⟨u,rfl,hG4,hU4,hC4,hch4⟩
set_option maxRecDepth 512
end Go.Proofs.YtghcmindankceaaGreatDoor
