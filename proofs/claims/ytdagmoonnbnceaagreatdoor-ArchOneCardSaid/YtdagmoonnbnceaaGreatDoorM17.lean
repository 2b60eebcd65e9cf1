/- Parts of the proof of ArchOne: Q5 Q6 Ck Cl U3 U9 Ub U0 U7. -/
import Derived.Test.YtdagmoonnbnceaaGreatDoorM16
import Derived.Test.YtdagmoonnbnceaaGreatDoorM10
import Derived.Test.YtdagmoonnbnceaaGreatDoorM05
import Derived.Test.YtdagmoonnbnceaaGreatDoorM11
import Derived.Test.YtdagmoonnbnceaaGreatDoorM14
import Derived.Test.YtdagmoonnbnceaaGreatDoorM31
import Derived.Test.YtdagmoonnbnceaaGreatDoorM07
import Derived.Test.YtdagmoonnbnceaaGreatDoorM15
set_option linter.unusedVariables false
set_option linter.unusedSectionVars false
set_option linter.unusedSimpArgs false
set_option maxHeartbeats 8000000
set_option maxRecDepth 100000
namespace Go.Proofs.YtdagmoonnbnceaaGreatDoor
open Go.RowKit Go.Fk
def columnsL(l:List Rec):List UInt8:=timesGo 0 (l.map fun r=>r.time.toNat)++levelsL (l.map (·.level))
theorem timesGo_drop(was:Nat)(l:List Rec)(k:Nat)(h:k<l.length):timesGo was ((l.drop k).map fun r=>r.time.toNat)=numB (zigN (dif64 l[k].time.toNat was))++timesGo l[k].time.toNat ((l.drop (k+1)).map fun r=>r.time.toNat):=by
 rw [List.drop_eq_getElem_cons h,List.map_cons,timesGo]
theorem dif64_wrap(t was:Nat)(ht:t<18446744073709551616)(hw:was<18446744073709551616):IntKind.u64.wrap ((t:Int) - was)=((dif64 t was:Nat):Int):=by
 rw [IntKind.wrap_u64];unfold dif64;omega
theorem zigN_lt(d:Nat)(hd:d<18446744073709551616):zigN d<18446744073709551616:=by unfold zigN;split <;> omega
abbrev slen:Value->Nat
 | .slice _ n _=>n
 | _=>0
theorem Columns_any(v:Value)(l:List Rec)(w:World)(hs:See w eR v l)(hl:l.length<=20000) :
  Calls Tryz.prog 52 #[v] w fun e w'=>∃ v,e=.returned v/\Ow w' w.heap.size eB v (columnsL l)/\Fr w w':=by
 obtain⟨a,cap,rfl,hcap1,hcap2,hnone⟩:=hs.shape
 unfold maxLen at hcap2
 have HZ:=hid Zig_any
 have HN:=hid Num_any
 go_enter Tryz.func52, Tryz.ntmps52
 go_wp2_with fail
 go_loopw [3,4,10] (fun ov tv iv wr=>∃ (k was:Nat) (m:List UInt8),k<=l.length/\iv=N k/\tv=.int .u64 (was:Int)/\Hid (was<18446744073709551616)/\m.length<=k*10/\Ow wr w.heap.size eB ov m/\Hid (timesGo 0 (l.map fun r=>r.time.toNat)=m++timesGo was ((l.drop k).map fun r=>r.time.toNat))/\Fr w wr) (fun _ _ iv _=>l.length - (intOf iv).toNat)
 case atStart=>exact⟨0,0,[],Nat.zero_le _,rfl,rfl,hid (by decide),by simp,Ow.nil,rfl,Fr.refl w⟩
 case round=>
  obtain⟨k,was,m,hk,rfl,rfl,HW,hml,hout,HM,hf⟩:=hrel
  by_cases hlt:k<l.length
  · obtain⟨b,off,cap',hv,c0,c1,c2,c3⟩:=recAt (hs.fr hf) k hlt
    have HM2:Hid (timesGo 0 (l.map fun r=>r.time.toNat)=(m++numB (zigN (dif64 l[k].time.toNat was)))++timesGo l[k].time.toNat ((l.drop (k+1)).map fun r=>r.time.toNat)):=by
     show _=_;rw [HM.out,timesGo_drop was l k hlt];simp
    clear HM
    have HT:=hid (UInt64.toNat_lt l[k].time)
    generalize l[k]=r at *
    have hwr:=dif64_wrap r.time.toNat was HT.out HW.out
    have HD:=hid (dif64_lt r.time.toNat was)
    generalize dif64 r.time.toNat was=d at *
    have HZd:=hid (HZ.out d HD.out)
    have HZl:=hid (zigN_lt d HD.out)
    have hnl:=numB_le (zigN d) HZl.out
    have HNd:=hid (HN.out (zigN d) HZl.out)
    generalize zigN d=z at *
    generalize numB z=nb at *
    cases hv
    have i1:(0:Int)<=k:=by omega
    have i2:(k:Int)<l.length:=by omega
    go_wp2_with fail
    refine HZd.out _ |>.mono ?_
    rintro e w0 ⟨rfl,rfl⟩
    go_wp2_with fail
    refine(HNd.out _).mono ?_
    rintro e w1 ⟨v1,rfl,hown1,hf1⟩
    have hf0:=hf.alloc (.cells #[.int .u64 r.time.toNat,Fk.u8 r.level,S r.source,S r.text] 36)
    have hout1:=(hout.fr ((Fr.refl wr).alloc (.cells #[.int .u64 r.time.toNat,Fk.u8 r.level,S r.source,S r.text] 36))).fr hf1
    go_wp2_with (at_builtin;refine wpList_app eB rfl (.tmp 14) (.tmp 20) 27 rfl Tryz.underlying27 w.heap.size rfl hout1 _ _ rfl hown1.see (by omega) (hf0.trans hf1).size ?_)
    intro v' w4 hap
    have hcw:w4.cell? ⟨wr.heap.size,0,none⟩=some (.int .u64 r.time.toNat):=by
     rw [World.cell?_of_block (hap.chg.block wr.heap.size (by have:=hf1.size;simp at this;omega) (fun e=>by have:=(hout.lt _ e.symm).2;omega))]
     exact hf1.cell (by rw [World.cell?_alloc_at _ _ _ _ rfl];rfl)
    go_wp2_with fail
    exact⟨⟨k+1,r.time.toNat,m++nb,by omega,by go_num,rfl,HT.out,by rw [List.length_append];omega,hap.own,HM2.out,hap.below hout1 (hf0.trans hf1) (Nat.le_refl _) (hf0.trans hf1).size⟩,by simp [intOf];omega⟩
  · obtain rfl:k=l.length:=by omega
    have hnl:¬((l.length:Int)<l.length):=by omega
    have HM2:Hid (columnsL l=m++levelsL (l.map (·.level))):=by
     have h:=HM.out
     rw [List.drop_length,List.map_nil,timesGo,List.append_nil]at h
     show _=_;unfold columnsL;rw [h]
    clear HM
    go_wp2_with fail
    go_loopw [0,3] (fun sv ov wr2=>∃ (d:List Rec) (a:Option Addr) (c:Nat) (m:List UInt8),d.length<=l.length/\sv=.slice a d.length c/\See w eR (.slice a d.length c) d/\m.length+d.length*11<=l.length*21/\Ow wr2 w.heap.size eB ov m/\Hid (columnsL l=m++levelsL (d.map (·.level)))/\Fr w wr2) (fun sv _ _=>slen sv)
    case atStart=>exact⟨l,a,cap,m,Nat.le_refl _,rfl,hs,by omega,hout,HM2.out,hf⟩
    case round=>
     generalize wr=wr2 at *
     obtain⟨d,a2,c2,m2,hdl,rfl,hs2,hml2,hout2,HC,hf2⟩:=hrel
     clear hout hf HM2
     by_cases hd0:0<d.length
     · obtain⟨b,off,cap',hv,x0,x1,x2,x3⟩:=recAt (hs2.fr hf2) 0 hd0
       have hdc:=hid (levels_cons (d.map (·.level)) 0 (by simpa using hd0))
       have HC2:Hid (columnsL l=m2++lvGo d[0].level 1 ((d.map (·.level)).drop 1)):=by
        show _=_;rw [HC.out];have:=hdc.out;simp at this;rw [this];simp
       clear HC hdc
       have HQ:Hid (∀ (n:Nat) (hn:n<d.length),(d[n].level=d[0].level->lvGo d[0].level n ((d.map (·.level)).drop n)=lvGo d[0].level (n+1) ((d.map (·.level)).drop (n+1)))/\(d[n].level≠d[0].level->lvGo d[0].level n ((d.map (·.level)).drop n)=(d[0].level::numB n)++levelsL ((d.drop n).map (·.level)))):=by
        intro n hn
        refine⟨fun h=>lvGo_on _ _ _ n (by simpa using hn) (by simpa using h),fun h=>?_⟩
        rw [lvGo_off _ _ _ n (by simpa using hn) (by simpa using h),List.map_drop]
       have HQ2:Hid (lvGo d[0].level d.length ((d.map (·.level)).drop d.length)=(d[0].level::numB d.length)++levelsL ((d.drop d.length).map (·.level))):=by
        show _=_;rw [lvGo_end _ _ _ _ (by simp),List.map_drop]
       obtain⟨r0,hr0⟩:∃ r0,d[0]=r0:=⟨_,rfl⟩
       rw [hr0]at x0 x1 x2 x3 HC2 HQ HQ2
       have HR0:=hid hr0
       clear hr0
       cases hv
       have hd0':(0:Int)<d.length:=by omega
       go_wp2_with fail
       go_loopw [7] (fun nv wr3=>∃ n:Nat,1<=n/\n<=d.length/\nv=N n/\Fr wr2 wr3/\Hid (columnsL l=m2++lvGo r0.level n ((d.map (·.level)).drop n))) (fun nv _=>d.length - (intOf nv).toNat)
       case atStart=>exact⟨1,Nat.le_refl _,by omega,rfl,Fr.refl _,HC2.out⟩
       case round=>
        obtain⟨n,hn1,hnd,rfl,hfq,HI⟩:=hrel
        have z1:=hfq.cell x1
        by_cases hnl:n<d.length
        · obtain⟨b',off',cap2,hv2,y0,y1,y2,y3⟩:=recAt (hs2.fr (hf2.trans hfq)) n hnl
          cases hv2
          have hq:=HQ.out n hnl
          obtain⟨r1,hr1⟩:∃ r1,d[n]=r1:=⟨_,rfl⟩
          rw [hr1]at y0 y1 y2 y3 hq
          clear hr1
          have i1:(0:Int)<=n:=by omega
          have i2:(n:Int)<d.length:=by omega
          by_cases hlv:r1.level=r0.level
          · have HE:=hid (hq.1 hlv)
            have hlv':((r1.level.toNat:Int) == r0.level.toNat)=true:=by rw [hlv];simp
            clear hq
            go_upto_region 11 with fail
            go_quiet (fail)
            go_wp2_with fail
            exact⟨⟨n+1,by omega,by omega,by go_num,hfq.drewN _,by show _=_;rw [HI.out,HE.out]⟩,by simp [intOf];omega⟩
          · have HE:=hid (hq.2 hlv)
            have hlv':((r1.level.toNat:Int) == r0.level.toNat)=false:=by
             rw [beq_eq_false_iff_ne];intro h;exact hlv (UInt8.toNat_inj.1 (by omega))
            clear hq
            go_upto_region 11 with fail
            go_quiet (fail)
            go_upto_region 13 with fail
            have HE:Hid (columnsL l=m2++((r0.level::numB n)++levelsL ((d.drop n).map (·.level)))):=by show _=_;rw [HI.out,HE.out]
            clear HI HQ HQ2
            generalize hWW:wr.drewN nq=WW at *
            obtain⟨off2,cap2,hfrom,hfsee⟩:=run_from_blk eR 24 Tryz.underlying24 hs2 n hnd
            have hF0:Fr wr2 WW:=by rw [<- hWW];exact hfq.drewN _
            have x1':=hF0.cell x1
            clear hWW x0 x1 x2 x3
            have hout3:=hout2.fr hF0
            have hf3:=hf2.trans hF0
            have hnb:=numB_le n (by omega)
            have HNn:=hid (HN.out n (by omega))
            have HC3:Hid (columnsL l=(m2++r0.level::numB n)++levelsL ((d.drop n).map (·.level))):=by
             show _=_;rw [HE.out];simp
            generalize numB n=nb at *
            go_wp2_with (at_builtin;refine wpList_app1 eB rfl (.tmp 46) (.tmp 51) 27 rfl Tryz.underlying27 w.heap.size rfl hout3 [r0.level] _ _ _ rfl rfl rfl (by simp;omega) hf3.size ?_)
            intro v4 w4 hap
            have hown4:=hap.own
            have hf4:=hap.below hout3 hf3 (Nat.le_refl _) hf3.size
            go_wp2_with fail
            refine(HNn.out _).mono ?_
            rintro e w5 ⟨v5,rfl,hown5,hf5⟩
            have hown4:=hown4.fr hf5
            have hf5':=Fr.below hf4 (Fr.size hf4) hf5
            go_wp2_with (at_builtin;refine wpList_app eB rfl (.tmp 52) (.tmp 55) 27 rfl Tryz.underlying27 w.heap.size rfl hown4 _ _ rfl hown5.see (by simp;omega) (Fr.size hf5') ?_)
            intro v6 w6 hap6
            go_wp2_with fail
            have hml4:m2.length+nb.length+1+(d.length - n)*11<=l.length*21:=by omega
            refine⟨⟨d.drop n,some ⟨b,off2,none⟩,cap2,m2++r0.level::nb,by rw [List.length_drop];omega,by rw [List.length_drop],by rw [List.length_drop];exact hfsee,by rw [List.length_drop];simp;omega,hap6.own,HC3.out,hap6.below hown4 hf5' (Nat.le_refl _) (Fr.size hf5')⟩,by show d.length - n<d.length;omega⟩
        · obtain rfl:n=d.length:=by omega
          have hq2:=HQ2.out
          have HE:Hid (columnsL l=m2++((r0.level::numB d.length)++levelsL ((d.drop d.length).map (·.level)))):=by show _=_;rw [HI.out,hq2]
          clear HI HQ HQ2 hq2
          have hnn:¬((d.length:Int)<d.length):=by omega
          go_upto_region 11 with fail
          go_quiet (fail)
          go_upto_region 13 with fail
          generalize hWW:wr.drewN nq=WW at *
          obtain⟨off2,cap2,hfrom,hfsee⟩:=run_from_blk eR 24 Tryz.underlying24 hs2 d.length hnd
          have hF0:Fr wr2 WW:=by rw [<- hWW];exact hfq.drewN _
          have x1':=hF0.cell x1
          clear hWW x0 x1 x2 x3
          have hout3:=hout2.fr hF0
          have hf3:=hf2.trans hF0
          have hnb:=numB_le d.length (by omega)
          have HNn:=hid (HN.out d.length (by omega))
          have HC3:Hid (columnsL l=(m2++r0.level::numB d.length)++levelsL ((d.drop d.length).map (·.level))):=by
           show _=_;rw [HE.out];simp
          generalize numB d.length=nb at *
          go_wp2_with (at_builtin;refine wpList_app1 eB rfl (.tmp 46) (.tmp 51) 27 rfl Tryz.underlying27 w.heap.size rfl hout3 [r0.level] _ _ _ rfl rfl rfl (by simp;omega) hf3.size ?_)
          intro v4 w4 hap
          have hown4:=hap.own
          have hf4:=hap.below hout3 hf3 (Nat.le_refl _) hf3.size
          go_wp2_with fail
          refine(HNn.out _).mono ?_
          rintro e w5 ⟨v5,rfl,hown5,hf5⟩
          have hown4:=hown4.fr hf5
          have hf5':=Fr.below hf4 (Fr.size hf4) hf5
          go_wp2_with (at_builtin;refine wpList_app eB rfl (.tmp 52) (.tmp 55) 27 rfl Tryz.underlying27 w.heap.size rfl hown4 _ _ rfl hown5.see (by simp;omega) (Fr.size hf5') ?_)
          intro v6 w6 hap6
          go_wp2_with fail
          have hml4:m2.length+nb.length+1+(d.length - d.length)*11<=l.length*21:=by omega
          refine⟨⟨d.drop d.length,some ⟨b,off2,none⟩,cap2,m2++r0.level::nb,by rw [List.length_drop];omega,by rw [List.length_drop,Nat.sub_self],by rw [List.length_drop,Nat.sub_self]at *;exact hfsee,by rw [List.length_drop];simp;omega,hap6.own,HC3.out,hap6.below hown4 hf5' (Nat.le_refl _) (Fr.size hf5')⟩,by show 0<d.length;omega⟩
     · have hd0':¬((0:Int)<d.length):=by omega
       have HE:Hid (columnsL l=m2):=by
        have:d=[]:=List.eq_nil_of_length_eq_zero (by omega)
        show _=_;rw [HC.out,this];simp [levelsL]
       go_wp2_with fail
       go_ret
       exact⟨_,rfl,by rw [HE.out];exact hout2,hf2⟩
def RunTo(lv:List UInt8)(i e:Nat):Prop:=e<=lv.length/\(∀ j,i<=j->j<e->0<j/\lv[j]? = lv[j - 1]?)/\(e<lv.length->e=0\/lv[e]? ≠ lv[e - 1]?)
end Go.Proofs.YtdagmoonnbnceaaGreatDoor
namespace Go.Fk
open Go.RowKit
section
variable {P:Program} {α:Type} {E:Elt P α} {w:World} {base:Nat}
end
end Go.Fk
namespace Go.Proofs.YtdagmoonnbnceaaGreatDoor
open Go.RowKit Go.Fk
end Go.Proofs.YtdagmoonnbnceaaGreatDoor
namespace Go.Proofs.YtdagmoonnbnceaaGreatDoor
open Go.RowKit Go.Fk
def eQ:Elt Tryz.prog Nat:=⟨34,1,8,0,.int .u64 0,fun n=>[.int .u64 (n:Int)],by kernel_rfl,by decide,by decide,by simp [Value.cells],fun _=>rfl,by intro x u hu;simp at hu;subst hu;rfl⟩
theorem CurF.cbox{w:World}{B base n er:Nat}{T:TypeId}{l:List UInt8}(h:CurF w T B base l n er):∃ cs,w.heap[B]? = some (.cells cs T (0,0)):=by obtain⟨⟨v,h1,_⟩,_⟩:=h;exact⟨_,h1⟩
theorem CurF.lt{w:World}{B base n er:Nat}{T:TypeId}{l:List UInt8}(h:CurF w T B base l n er):B<w.heap.size:=by obtain⟨cs,h1⟩:=h.cbox;exact(Array.getElem?_eq_some_iff.1 h1).1
theorem CurF.app{α:Type}{E:Elt Tryz.prog α}{w w':World}{B base n er b:Nat}{T:TypeId}{l:List UInt8}{v v':Value}{xs ys:List α}(h:CurF w T B base l n er)(ho:Ow w b E v xs)(hap:App b E ys w v v' w')(hT:T≠E.e)(hE:E.e≠(eB:Elt Tryz.prog UInt8).e):CurF w' T B base l n er:=by
 obtain⟨⟨x,h1,h2⟩,h3⟩:=h
 exact⟨⟨x,hap.chg'.heap h1 (fun e=>ho.ne_cells h1 hT e),own_app h2.own ho hap hE,h2.top⟩,h3⟩
theorem Cs.int_top(s:Cs)(l:List UInt8)(most:Nat):(s.int l most).1<=most:=by
 show Cs.val _ _<=_
 unfold Cs.val
 split
 · rename_i h;exact(limL_ok _ _ h.2).2.2
 · exact Nat.zero_le _
abbrev frB(B way n p:Nat)(bv:Value):Obj:=.cells #[.pointer (some ⟨B,0,none⟩),N way,N n,N p,bv] 283 (0,0)
theorem bfhead_any(F B base:Nat)(b:List UInt8)(w:World)(hG:w.heap[F]? = some (frB B 0 0 0 (.slice none 0 0)))(hc:CurF w 156 B base b 0 0)(hFB:F≠B)(hl:b.length<=1000000)(hb:base<=w.heap.size) :
  Calls Tryz.prog 208 #[.pointer (some ⟨F,0,none⟩)] w fun e w'=>e=.returned (.tuple #[])/\w'.heap[F]? = some (frB B (bkW b).1 (bkN b).1 (bkP b).1 (.slice none 0 0))/\CurF w' 156 B base b (bkD b).at_ (bkD b).er/\Chg (fun k=>k=B\/k=F) w w':=by
 have HBy:Hid (Calls Tryz.prog 97 #[.pointer (some ⟨B,0,none⟩)] w fun e w'=>e=.returned (.int .u8 ((bkW b).1:Int))/\CurF w' 156 B base b (bkW b).2.at_ (bkW b).2.er/\Chg (fun b=>b=B) w w'):=Byte_cur B base ⟨0,0⟩ b w hc hl hb
 have HFa:=hid (fun er s W (h:CurF W 156 B base b s.at_ s.er)=>Fail_cur er B base s b W h)
 have HI1:Hid (∀ W,CurF W 156 B base b (bkC b).at_ (bkC b).er->Calls Tryz.prog 96 #[.pointer (some ⟨B,0,none⟩),N 32768] W fun e w'=>e=.returned (N (bkN b).1)/\CurF w' 156 B base b (bkN b).2.at_ (bkN b).2.er/\Chg (fun b=>b=B) W w'):=fun W h=>Int_cur 32768 (by decide) B base (bkC b) b W h hl
 have HI2:Hid (∀ W,CurF W 156 B base b (bkN b).2.at_ (bkN b).2.er->Calls Tryz.prog 96 #[.pointer (some ⟨B,0,none⟩),N 32768] W fun e w'=>e=.returned (N (bkP b).1)/\CurF w' 156 B base b (bkP b).2.at_ (bkP b).2.er/\Chg (fun b=>b=B) W w'):=fun W h=>Int_cur 32768 (by decide) B base (bkN b).2 b W h hl
 have HC:Hid (bkC b=if 1<(bkW b).1 then(bkW b).2.fail 2 else(bkW b).2):=rfl
 have HD:Hid (bkD b=if 1032*(bkP b).1+64<(bkN b).1 then(bkP b).2.fail 6 else(bkP b).2):=rfl
 have hx:(bkW b).1<256:=UInt8.toNat_lt _
 have hn:(bkN b).1<=32768:=Cs.int_top _ _ _
 have hp:(bkP b).1<=32768:=Cs.int_top _ _ _
 have hBw:=hc.lt
 have cF:=cellx hG 0 rfl
 clear hc
 generalize bkD b=sD at *
 generalize bkC b=sC at *
 generalize bkW b=RW at *
 generalize bkN b=RN at *
 generalize bkP b=RP at *
 obtain⟨xw,sW⟩:=RW
 obtain⟨xn,sN⟩:=RN
 obtain⟨xp,sP⟩:=RP
 simp only at HBy HI1 HI2 HC HD hx hn hp
 go_enter Tryz.func208, Tryz.ntmps208
 go_wp2_with fail
 refine(HBy.out).mono ?_
 rintro e w1 ⟨rfl,hC1,hc1⟩
 have hG1:=hc1.heap hG hFB
 have z1:=frozen_of_heap hG1 1
 have d1:=cellx hG1 1 rfl
 have hw1:IntKind.i64.wrap (xw:Int)=(xw:Int):=IntWalk.i64_in _ (by omega)
 have hG2:=heap_setCell_own hG1 1 (.int .i64 (xw:Int))
 have hC2:=hC1.box hG1 (by decide) (Ne.symm hFB) (setCell_chg w1 ⟨F,1,none⟩ (.int .i64 (xw:Int)))
 have hch2:Chg (fun k=>k=B\/k=F) w (w1.setCell ⟨F,1,none⟩ (.int .i64 (xw:Int))):=(hc1.mono (G':=fun k=>k=B\/k=F) (fun k hk h=>.inl h)).trans (setCell_chg w1 ⟨F,1,none⟩ _) (fun _ _ h=>.inr h)
 clear hC1 hc1 HBy
 go_upto_if 15 with fail
 generalize hW2:w1.setCell ⟨F,1,none⟩ (.int .i64 (xw:Int))=W2 at *
 clear hW2 hG1 z1 d1
 have hBw2:=hC2.lt
 go_cut []from 15 to 21 (fun wx=>wx.heap[F]? = some (frB B xw 0 0 (.slice none 0 0))/\CurF wx 156 B base b sC.at_ sC.er/\Chg (fun k=>k=B\/k=F) w wx)
 case first=>
  by_cases h1:1<xw
  · have HC2:=hid (HC.out.trans (if_pos h1))
    have HF2:=hid (HFa.out 2 sW W2 hC2)
    have j1:(1:Int)<xw:=by omega
    have c2:=cellx hG2 0 rfl
    clear HC h1 hC2
    go_wp2_with fail
    refine(HF2.out).mono ?_
    rintro e w3 ⟨rfl,hC3,hc3⟩
    have hG3:=hc3.heap hG2 hFB
    clear HF2
    go_wp2_with fail
    go_meet
    rw [HC2.out]
    exact⟨hG3,hC3,hch2.trans hc3 fun _ _ h=>.inl h⟩
  · have HC2:=hid (HC.out.trans (if_neg h1))
    have j1:¬(1:Int)<xw:=by omega
    clear HC h1
    go_wp2_with fail
    go_meet
    rw [HC2.out]
    exact⟨hG2,hC2,hch2⟩
 case rest=>
  obtain⟨hG3,hC3,hch3⟩:=hcut
  clear hG2 hC2 hch2 HC
  have HFb:=hid HFa.out
  clear HFa
  have c3:=cellx hG3 0 rfl
  have HI1a:=hid (HI1.out wc hC3)
  clear HI1 hC3
  go_wp2_with fail
  refine(HI1a.out).mono ?_
  rintro e w4 ⟨rfl,hC4,hc4⟩
  have hG4:=hc4.heap hG3 hFB
  have z4:=frozen_of_heap hG4 2
  have d4:=cellx hG4 2 rfl
  have d4':=cellx hG4 0 rfl
  have hst:=setCell_chg w4 ⟨F,2,none⟩ (N xn)
  have hG5:(w4.setCell ⟨F,2,none⟩ (N xn)).heap[F]? = some (frB B xw xn 0 (.slice none 0 0)):=heap_setCell_own hG4 2 (N xn)
  have hC5:=hC4.box hG4 (by decide) (Ne.symm hFB) hst
  have hch5:=(hch3.trans hc4 (fun _ _ h=>.inl h)).trans hst (fun _ _ h=>.inr h)
  clear HI1a c3 hC4 hc4 hG3 hch3 hst
  go_upto_region 9 with fail
  generalize hW5:w4.setCell ⟨F,2,none⟩ (N xn)=W5 at *
  clear hW5 z4 d4 d4' hG4
  have c5:=cellx hG5 0 rfl
  have HI2a:=hid (HI2.out W5 hC5)
  clear HI2 hC5
  go_wp2_with fail
  refine(HI2a.out).mono ?_
  rintro e w6 ⟨rfl,hC6,hc6⟩
  have hG6:=hc6.heap hG5 hFB
  have z6:=frozen_of_heap hG6 3
  have d6:=cellx hG6 3 rfl
  have d6':=cellx hG6 0 rfl
  have hst:=setCell_chg w6 ⟨F,3,none⟩ (N xp)
  have hG7:(w6.setCell ⟨F,3,none⟩ (N xp)).heap[F]? = some (frB B xw xn xp (.slice none 0 0)):=heap_setCell_own hG6 3 (N xp)
  have hC7:=hC6.box hG6 (by decide) (Ne.symm hFB) hst
  have hch7:=(hch5.trans hc6 (fun _ _ h=>.inl h)).trans hst (fun _ _ h=>.inr h)
  clear HI2a c5 hC6 hc6 hG5 hch5 hst
  go_upto_region 11 with fail
  generalize hW7:w6.setCell ⟨F,3,none⟩ (N xp)=W7 at *
  clear hW7 z6 d6 d6' hG6
  have c0:=cellx hG7 0 rfl
  have c2:=cellx hG7 2 rfl
  have c3:=cellx hG7 3 rfl
  have i1:IntKind.i64.wrap (1032*(xp:Int))=1032*(xp:Int):=IntWalk.i64_in _ (by omega)
  have i2:IntKind.i64.wrap (1032*(xp:Int)+64)=1032*(xp:Int)+64:=IntWalk.i64_in _ (by omega)
  by_cases h1:1032*xp+64<xn
  · have HD2:=hid (HD.out.trans (if_pos h1))
    have j1:1032*(xp:Int)+64<(xn:Int):=by omega
    have HF2:=hid (fun W (h:Fr W7 W)=>HFb.out 6 sP W (hC7.fr h))
    clear HD h1
    go_quiet (fail)
    have hfq:Fr W7 (W7.drewN nq):=(Fr.refl W7).drewN nq
    have e0:=hfq.cell c0
    have HF3:=hid (HF2.out _ hfq)
    have hG8:=hfq.heap hG7
    have hch8:=hch7.trans (hfq.chg (fun k=>k=B)) (fun _ _ h=>.inl h)
    clear c0 c2 c3 HF2
    go_wp2_with fail
    refine(HF3.out).mono ?_
    rintro e w9 ⟨rfl,hC9,hc9⟩
    have hG9:=hc9.heap hG8 hFB
    go_wp2_with fail
    go_end0
    rw [HD2.out]
    exact⟨rfl,hG9,hC9,hch8.trans hc9 fun _ _ h=>.inl h⟩
  · have HD2:=hid (HD.out.trans (if_neg h1))
    have j1:¬1032*(xp:Int)+64<(xn:Int):=by omega
    clear HD h1
    go_quiet (fail)
    have hfq:Fr W7 (W7.drewN nq):=(Fr.refl W7).drewN nq
    go_wp2_with fail
    go_end0
    rw [HD2.out]
    exact⟨rfl,hfq.heap hG7,hC7.fr hfq,hch7.trans (hfq.chg (fun k=>k=B)) (fun _ _ h=>.inl h)⟩
theorem bkT_le(b:List UInt8):(bkT b).2.at_<=b.length:=by
 have h1:(bkW b).2.at_<=b.length:=Cs.take_le _ _ _ (Nat.zero_le _)
 have h2:(bkC b).at_<=b.length:=by
  unfold bkC;split
  · unfold Cs.fail;split
    · exact h1
    · exact h1
  · exact h1
 have h3:(bkN b).2.at_<=b.length:=Cs.int_le _ _ _ h2
 have h4:(bkP b).2.at_<=b.length:=Cs.int_le _ _ _ h3
 have h5:(bkD b).at_<=b.length:=by
  unfold bkD;split
  · unfold Cs.fail;split
    · exact h4
    · exact h4
  · exact h4
 exact Cs.take_le _ _ _ (Cs.take_le _ _ _ h5)
theorem bfrest_any (F B base : Nat) (v : Value) (b : List UInt8) (w0 w : World) (hs : See w0 eB v b) (hf0 : Fr w0 w) (hB0 : w0.heap.size ≤ B) (hF0 : w0.heap.size ≤ F) (hG : w.heap[F]? = some (frB B (bkW b).1 (bkN b).1 (bkP b).1 (.slice none 0 0))) (hc : CurF w 156 B base b (bkD b).at_ (bkD b).er) (hFB : F ≠ B) (hl : b.length ≤ 1000000) (hb : base ≤ w.heap.size) (ht : Crc w0) :
    Calls Tryz.prog 209 #[.pointer (some ⟨F,0,none⟩),v] w fun e w'=>∃ u,e=.returned (.tuple #[])/\w'.heap[F]? = some (frB B (bkW b).1 (bkN b).1 (bkP b).1 u)/\Ow w' w.heap.size eB u (bkB b).1/\CurF w' 156 B base b (bkT b).2.at_ (bkE b)/\Chg (fun k=>k=B\/k=F) w w':=by
  have HTk:=hid (fun k s W (h:CurF W 156 B base b s.at_ s.er) h2=>Take_cur B base k s b W h hl h2)
  have HEr:=hid (fun n er W (h:CurF W 156 B base b n er)=>CErr_any B base n er b W h)
  have HAt:=hid (fun n er W (h:CurF W 156 B base b n er)=>At_cur B base n er b W h)
  have HFa:=hid (fun er s W (h:CurF W 156 B base b s.at_ s.er)=>Fail_cur er B base s b W h)
  have HT1:Hid (∀ W,CurF W 156 B base b (bkD b).at_ (bkD b).er->base<=W.heap.size->Calls Tryz.prog 139 #[.pointer (some ⟨B,0,none⟩),N (bkP b).1] W fun e w'=>∃ u,e=.returned u/\Ow w' W.heap.size eB u (bkB b).1/\CurF w' 156 B base b (bkB b).2.at_ (bkB b).2.er/\Chg (fun b=>b=B) W w'):=fun W h h2=>HTk.out _ _ W h h2
  have HT2:Hid (∀ W,CurF W 156 B base b (bkB b).2.at_ (bkB b).2.er->base<=W.heap.size->Calls Tryz.prog 139 #[.pointer (some ⟨B,0,none⟩),N 4] W fun e w'=>∃ u,e=.returned u/\Ow w' W.heap.size eB u (bkT b).1/\CurF w' 156 B base b (bkT b).2.at_ (bkT b).2.er/\Chg (fun b=>b=B) W w'):=fun W h h2=>HTk.out _ _ W h h2
  have hle:=bkT_le b
  have hE:bkE b=if(bkT b).2.er=0 then errCut (b.take (bkT b).2.at_)else(bkT b).2.er:=rfl
  have HCut:=hid (fun W (h:Fr w0 W) v' (h2:See W eB v' (b.take (bkT b).2.at_))=>Cut_any v' _ W h2 (by rw [List.length_take];omega) (ht.fr h))
  have HS:=hid hs
  have hBw:=hc.lt
  obtain⟨a0,cap,rfl,hcap1,hcap2,_⟩:=hs.shape
  unfold maxLen at hcap2
  have c0:=cellx hG 0 rfl
  have c3:=cellx hG 3 rfl
  have HT1a:=hid (HT1.out w.drew (hc.fr (Fr.refl w).drew) hb)
  have HEh:=hid hE
  clear hs hc HTk HT1 hE
  generalize bkE b=E at *
  generalize (bkW b).1=xw at *
  generalize (bkN b).1=xn at *
  generalize (bkP b).1=xp at *
  generalize (bkB b).1=U at *
  generalize (bkB b).2=sB at *
  generalize (bkT b).1=U4 at *
  generalize (bkT b).2=sT at *
  go_enter Tryz.func209, Tryz.ntmps209
  go_upto_region 0 with fail
  go_cut []from 6 to 17 (fun wx=>∃ u,wx.heap[F]? = some (frB B xw xn xp u)/\Ow wx w.heap.size eB u U/\CurF wx 156 B base b sB.at_ sB.er/\Chg (fun k=>k=B\/k=F) w wx)
  case first=>
    go_region_with (go_at_call 139; refine HT1a.out.mono ?_; rintro e w2 ⟨u, rfl, hU, hC2, hc2⟩
                    obtain ⟨pu, zu, rfl⟩ := hU.shape'
                    have hG2 := hc2.heap (show w.drew.heap[F]? = _ from hG) hFB
                    have d2 := cellx hG2 4 rfl
                    have z2 := frozen_of_heap hG2 4)
    all_goals go_wp2_with fail
    all_goals go_meet
    all_goals exact⟨_,heap_setCell_own hG2 4 (.slice pu U.length zu),hU.chg (setCell_chg w2 ⟨F,4,none⟩ (.slice pu U.length zu)) (fun k hk e=>hU.ne_cells hG2 (by decide) (by rw [hk,show k=F from e])),hC2.box hG2 (by decide) (Ne.symm hFB) (setCell_chg w2 ⟨F,4,none⟩ (.slice pu U.length zu)),(((Fr.refl w).drew.chg (fun k=>k=B\/k=F)).trans hc2 (fun _ _ h=>.inl h)).trans (setCell_chg w2 ⟨F,4,none⟩ (.slice pu U.length zu)) (fun _ _ h=>.inr h)⟩
  case rest=>
    obtain⟨u,hG3,hU3,hC3,hch3⟩:=hcut
    have hb3:base<=wc.heap.size:=Nat.le_trans hb hch3.size
    have c3:=cellx hG3 0 rfl
    have HT2a:=hid (HT2.out wc hC3 hb3)
    have hbx:=hC3.cbox
    clear HT1a HT2 c0 hG hC3 hb3
    go_wp2_with fail
    refine(HT2a.out).mono ?_
    rintro e w4 ⟨u4,rfl,_,hC4,hc4⟩
    have hG4:=hc4.heap hG3 hFB
    have hU4 := hU3.chg hc4 (fun i hi e => by
      obtain ⟨cs, h5⟩ := hbx
      exact hU3.ne_cells h5 (by decide) (by rw [hi, show i = B from e]))
    have hch4:=hch3.trans hc4 (fun _ _ h=>.inl h)
    have c4:=cellx hG4 0 rfl
    have HE4:=hid (HEr.out _ _ w4 hC4)
    clear HT2a c3 hG3 hU3 hch3 hc4 hbx
    by_cases h0:sT.er=0
    · have h0':((sT.er:Nat):Int)=0:=by omega
      have HEE:=hid (HEh.out.trans (if_pos h0))
      have HA4:=hid (HAt.out _ _ w4 hC4)
      have hf4:Fr w0 w4:=Chg.below hf0 hch4 hf0.size (fun i e=>by rcases e with e | e <;> omega)
      obtain⟨htr,hts⟩:=run_to eB 27 Tryz.underlying27 (HS.out.fr hf4) sT.at_ hle
      have HC4:=hid (HCut.out w4 hf4 _ hts)
      have HF4:=hid (fun W (h:CurF W 156 B base b sT.at_ sT.er)=>HFa.out E sT W h)
      have HFl:Hid ((sT.fail E).at_=sT.at_/\(sT.fail E).er=E):=by
        show _/\_
        unfold Cs.fail
        rw [if_pos h0]
        exact⟨rfl,rfl⟩
      rw [h0']at HE4
      rw [<- HEE.out]at HC4
      clear HEh h0 h0' HCut HFa hts
      generalize errCut (b.take sT.at_)=ec at *
      go_wp2_with fail
      refine(HE4.out).mono ?_
      rintro e w5 ⟨rfl,rfl⟩
      clear HE4
      go_wp2_with fail
      refine(HA4.out).mono ?_
      rintro e w5 ⟨rfl,rfl⟩
      clear HA4
      go_wp2_with fail
      refine(HC4.out).mono ?_
      rintro e w6 ⟨u6,rfl,hO6,hf6⟩
      obtain⟨p6,z6,rfl⟩:=hO6.shape'
      have hG6:=hf6.heap hG4
      have c6:=hf6.cell c4
      have HF6:=hid (HF4.out w6 (hC4.fr hf6))
      have hU6:=hU4.fr hf6
      have hch6:=hch4.trans (hf6.chg (fun k=>k=B)) (fun _ _ h=>.inl h)
      have hbx:=hC4.cbox
      clear HC4 HF4 hO6 hU4 hG4 c4
      go_wp2_with fail
      refine(HF6.out).mono ?_
      rintro e w7 ⟨rfl,hC7,hc7⟩
      rw [HFl.out.1,HFl.out.2]at hC7
      have hG7:=hc7.heap hG6 hFB
      have hU7 := hU6.chg hc7 (fun i hi e => by
        obtain ⟨cs, h5⟩ := hbx
        exact hU6.ne_cells (hf6.heap h5) (by decide) (by rw [hi, show i = B from e]))
      go_wp2_with fail
      go_end0
      exact⟨u,rfl,hG7,hU7,hC7,hch6.trans hc7 (fun _ _ h=>.inl h)⟩
    · have h0':¬((sT.er:Nat):Int)=0:=by omega
      have HEE:=hid (HEh.out.trans (if_neg h0))
      clear HEh h0
      go_wp2_with fail
      refine(HE4.out).mono ?_
      rintro e w5 ⟨rfl,rfl⟩
      go_wp2_with fail
      (try simp only [Exit.inBlock,Exit.then])
      refine bodyPost_ret (v:=.tuple #[]) (by simp [results,Tryz.results209,go_sem]) rfl ?_
      rw [HEE.out]
      exact⟨u,rfl,hG4,hU4,hC4,hch4⟩
theorem bfbytes0_any(F B base:Nat)(u:Value)(b:List UInt8)(w:World)(h0:(bkW b).1=0)(hG:w.heap[F]? = some (frB B (bkW b).1 (bkN b).1 (bkP b).1 u))(hu:Ow w base eB u (bkB b).1) :
  Calls Tryz.prog 210 #[.pointer (some ⟨F,0,none⟩)] w fun e w'=>∃ x,e=.returned (.tuple #[x,.int .i64 ((bkO b).2:Int)])/\See w' eB x (bkO b).1/\Fr w w':=by
 have HO:Hid (bkO b=if(bkN b).1=(bkP b).1 then((bkB b).1,0)else([],2)):=by show _=_;unfold bkO;rw [if_pos h0]
 rw [h0]at hG
 have HS:=hid hu.see
 obtain⟨pu,zu,rfl⟩:=hu.shape'
 clear h0 hu
 generalize bkO b=R at *
 generalize (bkN b).1=xn at *
 generalize (bkP b).1=xp at *
 generalize (bkB b).1=U at *
 have c1:=cellx hG 1 rfl
 have c2:=cellx hG 2 rfl
 have c3:=cellx hG 3 rfl
 have c4:=cellx hG 4 rfl
 have HK:=hid (fun m=>((Fr.refl w).drewN m).cell c4)
 by_cases h:xn=xp
 · have HR:=hid (HO.out.trans (if_pos h))
   have j1:(xn:Int)=(xp:Int):=by omega
   have j2:((xn:Int) != (xp:Int))=false:=by simp [j1]
   clear HO hG
   go_enter Tryz.func210, Tryz.ntmps210
   go_wp2_with fail
   go_quiet (fail)
   have c5:=HK.out nq
   go_wp2_with fail
   go_ret2
   rw [HR.out]
   exact⟨_,rfl,HS.out.fr ((Fr.refl w).drewN nq),(Fr.refl w).drewN nq⟩
 · have HR:=hid (HO.out.trans (if_neg h))
   have j1:¬(xn:Int)=(xp:Int):=by omega
   have j2:((xn:Int) != (xp:Int))=true:=by simpa using j1
   clear HO hG
   go_enter Tryz.func210, Tryz.ntmps210
   go_wp2_with fail
   go_quiet (fail)
   go_wp2_with fail
   go_ret2
   rw [HR.out]
   exact⟨_,rfl,See.nil,(Fr.refl w).drewN _⟩
theorem bopen_fr(v:Value)(b:List UInt8)(w:World)(hs:See w eB v b)(hl:b.length<=1000000)(ht:Crc w)
  (HBy:Hid (∀ F B base u W,W.heap[F]? = some (frB B (bkW b).1 (bkN b).1 (bkP b).1 u)->Ow W base eB u (bkB b).1->base<=W.heap.size->bkE b=0->Calls Tryz.prog 210 #[.pointer (some ⟨F,0,none⟩)] W fun e w'=>∃ x,e=.returned (.tuple #[x,.int .i64 ((bkO b).2:Int)])/\See w' eB x (bkO b).1/\Fr W w')) :
  Calls Tryz.prog 176 #[v] w fun e w'=>Fr w w'/\((bkE b≠0/\e=.returned (.tuple #[.pointer none,.slice none 0 0,.int .i64 (bkE b:Int)]))\/(bkE b=0/\∃ F B x u,e=.returned (.tuple #[.pointer (some ⟨F,0,none⟩),x,.int .i64 ((bkO b).2:Int)])/\See w' eB x (bkO b).1/\w'.heap[F]? = some (frB B (bkW b).1 (bkN b).1 (bkP b).1 u)/\CurF w' 156 B w.heap.size b (bkT b).2.at_ 0)):=by
 have HNew:=hid (New_any v b w hs hl)
 have HHd:=hid (fun F B W h1 h2 h3 h4=>bfhead_any F B w.heap.size b W h1 h2 h3 hl h4)
 have HRs:=hid (fun F B W h1 h2 h3 h4 h5 h6 h7=>bfrest_any F B w.heap.size v b w W hs h1 h2 h3 h4 h5 h6 hl h7 ht)
 have HEr:=hid (fun B n er W (h:CurF W 156 B w.heap.size b n er)=>CErr_any B w.heap.size n er b W h)
 obtain⟨a0,cap,rfl,_⟩:=hs.shape
 clear hs ht
 generalize bkE b=E at *
 generalize bkO b=O at *
 generalize (bkT b).2.at_=tat at *
 generalize (bkW b).1=xw at *
 generalize (bkN b).1=xn at *
 generalize (bkP b).1=xp at *
 generalize bkD b=sD at *
 go_enter Tryz.func176, Tryz.ntmps176
 go_wp2_with fail
 refine(HNew.out).mono ?_
 rintro e w1 ⟨B,rfl,hC1,hf1,hB⟩
 have hBw:=hC1.lt
 have hfa:Fr w1 (w1.alloc (.cells #[.pointer (some ⟨B,0,none⟩),.int .i64 0,.int .i64 0,.int .i64 0,.slice none 0 0] 283)):=(Fr.refl w1).alloc _
 have hG2:(w1.alloc (.cells #[.pointer (some ⟨B,0,none⟩),.int .i64 0,.int .i64 0,.int .i64 0,.slice none 0 0] 283)).heap[w1.heap.size]? = some (frB B 0 0 0 (.slice none 0 0)):=heap_new _ _ _ rfl
 have hC2:=hC1.fr hfa
 have hf2:=hf1.trans hfa
 have hF:w.heap.size<=w1.heap.size:=hf1.size
 have HHd1:=hid (HHd.out w1.heap.size B _ hG2 hC2 (by omega) hf2.size)
 clear HNew HHd hC1 hG2 hC2 hfa hf1
 go_wp2_with fail
 refine(HHd1.out).mono ?_
 rintro e w3 ⟨rfl,hG3,hC3,hc3⟩
 have hFB:w1.heap.size≠B:=by omega
 generalize w1.heap.size=F at *
 have hf3:Fr w w3:=Chg.below hf2 hc3 hf2.size (fun i e=>by rcases e with e | e <;> omega)
 have HRs1:=hid (HRs.out F B w3 hf3 hB hF hG3 hC3 hFB hf3.size)
 clear HHd1 HRs hG3 hC3 hc3 hf2
 go_wp2_with fail
 refine(HRs1.out).mono ?_
 rintro e w4 ⟨u,rfl,hG4,hU4,hC4,hc4⟩
 have hf4:Fr w w4:=Chg.below hf3 hc4 hf3.size (fun i e=>by rcases e with e | e <;> omega)
 have c4:=cellx hG4 0 rfl
 have HE4:=hid (HEr.out _ _ _ w4 hC4)
 have hz4:w3.heap.size<=w4.heap.size:=hc4.size
 clear HRs1 HEr hf3 hc4
 by_cases h0:E=0
 · have h0':((E:Nat):Int)=0:=by omega
   have HB4:=hid (HBy.out F B _ u w4 hG4 hU4 hz4 h0)
   rw [h0']at HE4
   rw [h0]at hC4
   have HH0:=hid h0
   clear HBy h0 h0' hU4
   go_wp2_with fail
   refine(HE4.out).mono ?_
   rintro e w5 ⟨rfl,rfl⟩
   clear HE4
   go_wp2_with fail
   refine(HB4.out).mono ?_
   rintro e w6 ⟨x,rfl,hx,hf6⟩
   obtain⟨px,zx,rfl,_⟩:=hx.shape
   go_wp2_with fail
   go_ret3
   exact⟨hf4.trans hf6,.inr ⟨HH0.out,F,B,_,u,rfl,hx,hf6.heap hG4,hC4.fr hf6⟩⟩
 · have h0':¬((E:Nat):Int)=0:=by omega
   have HH0:=hid h0
   clear HBy h0
   go_wp2_with fail
   refine(HE4.out).mono ?_
   rintro e w5 ⟨rfl,rfl⟩
   go_wp2_with fail
   go_ret3
   exact⟨hf4,.inl ⟨HH0.out,rfl⟩⟩
theorem BRead_fr(v:Value)(b:List UInt8)(w:World)(hs:See w eB v b)(hl:b.length<=1000000)(ht:Crc w)(hO:(bkO b).1.length<=1000000)
  (HBy:Hid (∀ F B base u W,W.heap[F]? = some (frB B (bkW b).1 (bkN b).1 (bkP b).1 u)->Ow W base eB u (bkB b).1->base<=W.heap.size->bkE b=0->Calls Tryz.prog 210 #[.pointer (some ⟨F,0,none⟩)] W fun e w'=>∃ x,e=.returned (.tuple #[x,.int .i64 ((bkO b).2:Int)])/\See w' eB x (bkO b).1/\Fr W w')) :
  Calls Tryz.prog 140 #[v] w fun e w'=>∃ u,e=.returned (.tuple #[u,N (blkR b).2.1,.int .i64 ((blkR b).2.2:Int)])/\Ow w' w.heap.size eB u (blkR b).1/\Fr w w':=by
 have HOp:=hid (bopen_fr v b w hs hl ht HBy.out)
 have HR:Hid (blkR b=if bkE b=0 then(if(bkO b).2=0 then((bkO b).1,(bkT b).2.at_,0)else([],0,(bkO b).2))else([],0,bkE b)):=rfl
 have HAt:=hid (fun B n er W (h:CurF W 156 B w.heap.size b n er)=>At_cur B w.heap.size n er b W h)
 have HCl:=hid (fun x W (h:See W eB x (bkO b).1)=>BClone_any x _ W h hO)
 obtain⟨a0,cap,rfl,_⟩:=hs.shape
 clear hs ht hO HBy
 generalize blkR b=R at *
 generalize bkE b=E at *
 generalize bkO b=O at *
 obtain⟨ol,oe⟩:=O
 generalize (bkT b).2.at_=tat at *
 simp only at HOp HR HCl
 go_enter Tryz.func140, Tryz.ntmps140
 go_wp2_with fail
 refine(HOp.out).mono ?_
 rintro e w1 ⟨hf1,⟨hE,rfl⟩ | ⟨hE,F,B,x,u,rfl,hx,hG,hC⟩⟩
 · have HR2:=hid (HR.out.trans (if_neg hE))
   have j1:¬((E:Nat):Int)=0:=by omega
   clear HR hE HOp
   go_wp2_with fail
   go_ret3
   rw [HR2.out]
   exact⟨_,rfl,Ow.nil,hf1⟩
 · have HR1:=hid (HR.out.trans (if_pos hE))
   obtain⟨px,zx,rfl,_⟩:=hx.shape
   clear HR HOp
   by_cases h:oe=0
   · have HR2:=hid (HR1.out.trans (if_pos h))
     have h':((oe:Nat):Int)=0:=by omega
     rw [h']
     have c1:=cellx hG 0 rfl
     have HC1:=hid (HCl.out _ w1.drew hx.drew)
     have HA1:=hid (fun W (h:Fr w1 W)=>HAt.out B _ _ W (hC.fr h))
     clear HR1 h h' hE HCl HAt hG
     go_wp2_with fail
     go_region_held3 (fun W => W.cell? ⟨F, 0, none⟩ = some (.pointer (some ⟨B, 0, none⟩)))
      (first | go_keep)
      ((first
       | (go_at_call 48; refine HC1.out.mono ?_; rintro e w2 ⟨u2, rfl, hO2, hf2⟩; obtain ⟨p2, z2, hq2⟩ := hO2.shape'; subst hq2; have c2 := hf2.cell c1)
       | (go_at_call 141; refine (HA1.out _ ((Fr.refl w1).drew.trans hf2)).mono ?_; rintro e w3 ⟨rfl, rfl⟩)))
     go_wp2_with fail
     go_ret3
     rw [HR2.out]
     exact⟨_,rfl,hO2.rebase hf1.size,hf1.trans ((Fr.refl w1).drew.trans hf2)⟩
   · have HR2:=hid (HR1.out.trans (if_neg h))
     have h':¬((oe:Nat):Int)=0:=by omega
     clear HR1 h hE
     go_wp2_with fail
     go_ret3
     rw [HR2.out]
     exact⟨_,rfl,Ow.nil,hf1⟩
theorem bkB_len(b:List UInt8):(bkB b).1.length<=b.length:=by
 show((bkD b).take b (bkP b).1).1.length<=_
 unfold Cs.take
 split
 · split
   · exact Nat.zero_le _
   · rw [List.length_take,List.length_drop];omega
 · exact Nat.zero_le _
theorem BRead_st(v:Value)(b:List UInt8)(w:World)(hs:See w eB v b)(hl:b.length<=1000000)(ht:Crc w)(h0:(bkW b).1=0) :
  Calls Tryz.prog 140 #[v] w fun e w'=>∃ u,e=.returned (.tuple #[u,N (blkR b).2.1,.int .i64 ((blkR b).2.2:Int)])/\Ow w' w.heap.size eB u (blkR b).1/\Fr w w':=
 BRead_fr v b w hs hl ht (by
  unfold bkO
  rw [if_pos h0]
  have := bkB_len b
  split
  · show (bkB b).1.length ≤ _; omega
  · exact Nat.zero_le _) (fun F B base u W h1 h2 _ _ => bfbytes0_any F B base u b W h0 h1 h2)
def rdT(wh:Bool)(b:List UInt8)(s:Cs):Nat × Cs:=if wh=true then s.num b else(0,s)
def rdL(wh:Bool)(b:List UInt8)(s:Cs):Nat × Cs:=if wh=true then(rdT wh b s).2.byte b else(0,(rdT wh b s).2)
def rdS(wh:Bool)(b:List UInt8)(s:Cs):List UInt8 × Cs:=(rdL wh b s).2.text b 4000
def rdX(wh:Bool)(b:List UInt8)(s:Cs):List UInt8 × Cs:=(rdS wh b s).2.text b 4000
def rdR(wh:Bool)(b:List UInt8)(s:Cs):Rec:=⟨UInt64.ofNat (rdT wh b s).1,UInt8.ofNat (rdL wh b s).1,(rdS wh b s).1,(rdX wh b s).1⟩
def recGo(wh:Bool)(b:List UInt8):Nat->Cs->List Rec->List Rec × Nat
 | 0,s,out=>(out,s.er)
 | f+1,s,out=>
  if b.length<=s.at_ then(out,0)
  else if(rdX wh b s).2.er=0 then recGo wh b f (rdX wh b s).2 (out++[rdR wh b s])
  else([],(rdX wh b s).2.er)
def recsL(wh:Bool)(b:List UInt8):List Rec × Nat:=recGo wh b b.length ⟨0,0⟩ []
theorem recGo_end(wh:Bool)(b:List UInt8)(f:Nat)(s:Cs)(out:List Rec)(h:b.length<=s.at_)(he:s.er=0):recGo wh b f s out=(out,0):=by
 cases f with
 | zero=>rw [recGo,he]
 | succ f=>rw [recGo,if_pos h]
theorem recGo_step(wh:Bool)(b:List UInt8)(f:Nat)(s:Cs)(out:List Rec)(h:s.at_<b.length)(he:(rdX wh b s).2.er=0):recGo wh b (f+1) s out=recGo wh b f (rdX wh b s).2 (out++[rdR wh b s]):=by
 rw [recGo,if_neg (by omega),if_pos he]
theorem recGo_bad(wh:Bool)(b:List UInt8)(f:Nat)(s:Cs)(out:List Rec)(h:s.at_<b.length)(he:¬(rdX wh b s).2.er=0):recGo wh b (f+1) s out=([],(rdX wh b s).2.er):=by
 rw [recGo,if_neg (by omega),if_neg he]
theorem Cs.step_er(s:Cs)(r:Nat × Nat × Nat)(h:(s.step r).er=0):s.er=0/\r.2.2=0/\(s.step r).at_=s.at_+r.2.1:=by
 unfold Cs.step at *
 by_cases h0:s.er=0
 · rw [if_pos h0]at h ⊢
   by_cases h1:r.2.2=0
   · rw [if_pos h1];exact⟨h0,h1,rfl⟩
   · rw [if_neg h1]at h;exact absurd h h1
 · rw [if_neg h0]at h;exact absurd h h0
theorem Cs.text_up(s:Cs)(l:List UInt8)(most:Nat)(h:(s.text l most).2.er=0):s.er=0/\s.at_<(s.text l most).2.at_/\(s.text l most).1.length<=most:=by
 obtain⟨h1,h2,h3⟩:=Cs.step_er s _ h
 have h4:=txtL_ok most (l.drop s.at_) h2
 refine⟨h1,?_,?_⟩
 · show s.at_<(s.step _).at_;rw [h3];show s.at_<s.at_+(txtL most (l.drop s.at_)).2.1;omega
 · show(if s.er=0 then _ else _:List UInt8).length<=most;rw [if_pos h1];exact h4.2.2
theorem Cs.num_up(s:Cs)(l:List UInt8)(h:(s.num l).2.er=0):s.er=0/\s.at_<=(s.num l).2.at_:=by
 obtain⟨h1,h2,h3⟩:=Cs.step_er s _ h
 exact⟨h1,by show s.at_<=(s.step _).at_;rw [h3];exact Nat.le_add_right _ _⟩
theorem Cs.byte_up(s:Cs)(l:List UInt8)(h:(s.byte l).2.er=0):s.er=0/\s.at_<=(s.byte l).2.at_:=by
 have h':(s.take l 1).2.er=0:=h
 show s.er=0/\s.at_<=(s.take l 1).2.at_
 unfold Cs.take at *
 by_cases h0:s.er=0
 · rw [if_pos h0]at h' ⊢
   refine⟨h0,?_⟩
   split
   · exact Nat.le_refl _
   · exact Nat.le_add_right _ _
 · rw [if_neg h0]at h';exact absurd h' h0
theorem rd_up(wh:Bool)(b:List UInt8)(s:Cs)(h:(rdX wh b s).2.er=0):s.er=0/\s.at_<(rdX wh b s).2.at_/\(rdS wh b s).1.length<=4000/\(rdX wh b s).1.length<=4000:=by
 obtain⟨h1,h2,h3⟩:=Cs.text_up _ _ _ h
 obtain⟨h4,h5,h6⟩:=Cs.text_up _ _ _ h1
 have h2':(rdS wh b s).2.at_<(rdX wh b s).2.at_:=h2
 have h5':(rdL wh b s).2.at_<(rdS wh b s).2.at_:=h5
 have key:s.er=0/\s.at_<=(rdL wh b s).2.at_:=by
  cases wh
  · exact⟨h4,Nat.le_refl _⟩
  · obtain⟨h7,h8⟩:=Cs.byte_up _ _ h4
    obtain⟨h9,h10⟩:=Cs.num_up _ _ h7
    exact⟨h9,Nat.le_trans h10 h8⟩
 exact⟨key.1,by omega,h6,h3⟩
theorem rd_le(wh:Bool)(b:List UInt8)(s:Cs)(h:s.at_<=b.length):(rdX wh b s).2.at_<=b.length:=by
 refine Cs.text_le _ _ _ (Cs.text_le _ _ _ ?_)
 cases wh
 · exact h
 · exact Cs.take_le _ _ _ (Cs.num_le _ _ h)
def wholeR(b:List UInt8):List UInt8 × Nat:=
 if (markV b).2 = 0 then
  (if(markV b).1=1 then(if errCut b=0 then(if(cutB b).length<5 then([],1)else((cutB b).drop 5,0))else([],errCut b))else([],4))
 else([],(markV b).2)
def o1B(x:List UInt8):Nat × Cs:=(⟨0,0⟩:Cs).int x 32768
def o1P(x:List UInt8):Nat × Cs:=(o1B x).2.byte x
def o1C(x:List UInt8):Cs:=if 1<(o1P x).1 then(o1P x).2.fail 2 else(o1P x).2
def o1R(x:List UInt8):Nat × Cs:=(o1C x).int x 20000
def o1K(x:List UInt8):Nat × Cs:=(o1R x).2.int x (o1R x).1
def o1E(x:List UInt8):Nat:=if(o1K x).2.er=0 then(if 16<=(o1B x).1/\(o1B x).1<=32768 then 0 else 9)else(o1K x).2.er
def o1At(x:List UInt8):Nat->Cs
 | 0=>(o1K x).2
 | i+1=>((o1At x i).take x (blkR (x.drop (o1At x i).at_)).2.1).2
def o1L(x:List UInt8)(i:Nat):List Rec × Nat:=
 if (blkR (x.drop (o1At x i).at_)).2.2 = 0 then
  (if (recsL true (blkR (x.drop (o1At x i).at_)).1).2 = 0 then (if (recsL true (blkR (x.drop (o1At x i).at_)).1).1 = [] then ([], 2) else recsL true (blkR (x.drop (o1At x i).at_)).1)
   else ([], (recsL true (blkR (x.drop (o1At x i).at_)).1).2))
 else([],(blkR (x.drop (o1At x i).at_)).2.2)
def o1Go(x:List UInt8):Nat->Nat->List Rec->List Rec × Nat
 | 0,_,out=>(out,0)
 | k+1,i,out=>if(o1L x i).2=0 then o1Go x k (i+1) (out++(o1L x i).1)else([],(o1L x i).2)
def o1G(x:List UInt8):List Rec × Nat:=o1Go x (o1K x).1 0 []
def o1X(x:List UInt8):List Rec × Nat:=
 if (o1G x).2 = 0 then
  (if 0<x.length - (o1At x (o1K x).1).at_\/(o1G x).1.length≠(o1R x).1 then([],2)else if okLog (o1G x).1=true then((o1G x).1,0)else([],6))
 else([],(o1G x).2)
def oneE(b:List UInt8):Nat:=if(wholeR b).2=0 then(if o1E (wholeR b).1=0 then(o1X (wholeR b).1).2 else o1E (wholeR b).1)else(wholeR b).2
theorem owhole_any(v:Value)(b:List UInt8)(w:World)(hs:See w eB v b)(hl:b.length<=1000000)(ht:Crc w) :
  Calls Tryz.prog 64 #[v] w fun e w'=>∃ u,e=.returned (.tuple #[u,.int .i64 ((wholeR b).2:Int)])/\See w' eB u (wholeR b).1/\Fr w w':=by
 have HM:=hid (OMarked_any v b w hs)
 have HC:=hid (fun W (h:Fr w W)=>Cut_any v b W (hs.fr h) hl (ht.fr h))
 have HR:Hid (wholeR b=if(markV b).2=0 then(if(markV b).1=1 then(if errCut b=0 then(if(cutB b).length<5 then([],1)else((cutB b).drop 5,0))else([],errCut b))else([],4))else([],(markV b).2)):=rfl
 obtain⟨a0,cap,rfl,_⟩:=hs.shape
 clear hs ht
 generalize wholeR b=R at *
 generalize markV b=mv at *
 obtain⟨ver,er⟩:=mv
 generalize errCut b=ec at *
 generalize cutB b=q at *
 simp only at HM HR
 by_cases h1:er=0
 · subst h1
   by_cases h2:ver=1
   · subst h2
     by_cases h3:ec=0
     · subst h3
       by_cases h4:q.length<5
       · have HR2:Hid (R=([],1)):=by show _=_;rw [HR.out,if_pos rfl,if_pos rfl,if_pos rfl,if_pos h4]
         have j1:(q.length:Int)<5:=by omega
         clear HR h4
         go_enter Tryz.func64, Tryz.ntmps64
         go_wp2_with fail
         refine(HM.out).mono ?_
         rintro e w1 ⟨rfl,hf1⟩
         have HC1:=hid (HC.out w1 hf1)
         go_wp2_with fail
         refine(HC1.out).mono ?_
         rintro e w2 ⟨u,rfl,hO,hf2⟩
         obtain⟨p,z,rfl⟩:=hO.shape'
         go_wp2_with fail
         go_ret2
         rw [HR2.out]
         exact⟨_,rfl,See.nil,hf1.trans hf2⟩
       · have HR2:Hid (R=(q.drop 5,0)):=by show _=_;rw [HR.out,if_pos rfl,if_pos rfl,if_pos rfl,if_neg h4]
         have j1:¬(q.length:Int)<5:=by omega
         clear HR
         go_enter Tryz.func64, Tryz.ntmps64
         go_wp2_with fail
         refine(HM.out).mono ?_
         rintro e w1 ⟨rfl,hf1⟩
         have HC1:=hid (HC.out w1 hf1)
         go_wp2_with fail
         refine(HC1.out).mono ?_
         rintro e w2 ⟨u,rfl,hO,hf2⟩
         obtain⟨p,z,rfl⟩:=hO.shape'
         obtain⟨f1,f2,hfr,hfs⟩:=run_from eB 27 Tryz.underlying27 hO.see 5 (by omega)
         have hfr5:∀ W,(Instr.slice 27 (.slice p q.length z) (some (.int .i64 5)) none none).run Tryz.prog W=.ok (.slice f1 (q.length - 5) f2) W:=hfr
         have HFs:=hid hfs
         clear hfr hfs hO h4
         generalize q.length - 5=m at *
         go_wp2_with fail
         go_ret2
         rw [HR2.out]
         exact⟨_,rfl,HFs.out,hf1.trans hf2⟩
     · have HR2:Hid (R=([],ec)):=by show _=_;rw [HR.out,if_pos rfl,if_pos rfl,if_neg h3]
       have j1:¬(ec:Int)=0:=by omega
       clear HR h3
       go_enter Tryz.func64, Tryz.ntmps64
       go_wp2_with fail
       refine(HM.out).mono ?_
       rintro e w1 ⟨rfl,hf1⟩
       have HC1:=hid (HC.out w1 hf1)
       go_wp2_with fail
       refine(HC1.out).mono ?_
       rintro e w2 ⟨u,rfl,hO,hf2⟩
       obtain⟨p,z,rfl⟩:=hO.shape'
       go_wp2_with fail
       go_ret2
       rw [HR2.out]
       exact⟨_,rfl,See.nil,hf1.trans hf2⟩
   · have HR2:Hid (R=([],4)):=by show _=_;rw [HR.out,if_pos rfl,if_neg h2]
     have j1:¬(ver:Int)=1:=by omega
     clear HR h2
     go_enter Tryz.func64, Tryz.ntmps64
     go_wp2_with fail
     refine(HM.out).mono ?_
     rintro e w1 ⟨rfl,hf1⟩
     go_wp2_with fail
     go_ret2
     rw [HR2.out]
     exact⟨_,rfl,See.nil,hf1⟩
 · have HR2:Hid (R=([],er)):=by show _=_;rw [HR.out,if_neg h1]
   have j1:¬(er:Int)=0:=by omega
   clear HR h1
   go_enter Tryz.func64, Tryz.ntmps64
   go_wp2_with fail
   refine(HM.out).mono ?_
   rintro e w1 ⟨rfl,hf1⟩
   go_wp2_with fail
   go_ret2
   rw [HR2.out]
   exact⟨_,rfl,See.nil,hf1⟩
end Go.Proofs.YtdagmoonnbnceaaGreatDoor
