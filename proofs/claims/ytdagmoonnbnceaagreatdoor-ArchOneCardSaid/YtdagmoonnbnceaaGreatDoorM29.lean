/- Parts of the proof of ArchOne: K3 H1 H2 K6 K5 H3 K7 U4 U5. -/
import Derived.Test.YtdagmoonnbnceaaGreatDoorM24
import Derived.Test.YtdagmoonnbnceaaGreatDoorM16
import Derived.Test.YtdagmoonnbnceaaGreatDoorM07
import Derived.Test.YtdagmoonnbnceaaGreatDoorM05
import Derived.Test.YtdagmoonnbnceaaGreatDoorM10
import Derived.Test.YtdagmoonnbnceaaGreatDoorM13
import Derived.Test.YtdagmoonnbnceaaGreatDoorM17
import Derived.Test.YtdagmoonnbnceaaGreatDoorM18
set_option linter.unusedVariables false
set_option linter.unusedSectionVars false
set_option linter.unusedSimpArgs false
set_option maxHeartbeats 8000000
set_option maxRecDepth 100000
namespace Go.Proofs.YtdagmoonnbnceaaGreatDoor
open Go.RowKit Go.Fk
abbrev fstA(lens:List UInt8)(s:Nat):Nat->Int:=fun l=>((if l=0 then 0 else valK lens l s:Nat):Int)
theorem zero17:(#[.int .i64 0,.int .i64 0,.int .i64 0,.int .i64 0,.int .i64 0,.int .i64 0,.int .i64 0,.int .i64 0,.int .i64 0,.int .i64 0,.int .i64 0,.int .i64 0,.int .i64 0,.int .i64 0,.int .i64 0,.int .i64 0,.int .i64 0]:Array Value)=arrI 17 (fun _=>0):=rfl
theorem u16_val(x:Nat):IntKind.u16.wrap (x:Int)=((x % 65536:Nat):Int):=by
 simp only [IntKind.wrap,IntKind.bits,IntKind.signed]
 simp
theorem Codes_any (v : Value) (lens : List UInt8) (w : World) (hs : See w eB v lens) (hn : lens.length ≤ 300) (h15 : ∀ c ∈ lens, c.toNat ≤ 15) :
    Calls Tryz.prog 193 #[v] w fun e w'=>(okK lens=true->∃ v',e=.returned (.tuple #[v',.int .i64 0])/\Ow w' w.heap.size eU v' (codesK lens))/\(okK lens=false->e=.returned (.tuple #[.slice none 0 0,.int .i64 7]))/\Fr w w':=by
  obtain⟨a,cap,rfl,hcap1,hcap2,hnone⟩:=hs.shape
  unfold maxLen at hcap2
  have HCk:=hid (KCheck_any _ lens w hs hn h15)
  have HCo:=hid (fun W h=>count_any (.slice a lens.length cap) lens W h hn h15)
  have hsz:(arrI 16 (cntZ lens)).size=16:=arrI_size _ _
  have hone:=arrI_one 16 (cntZ lens)
  have hinf:(Tryz.prog.info? 342).map (·.size)=some (arrI 16 (cntZ lens)).size:=by rw [hsz];kernel_rfl
  cases hok:okK lens with
  | false=>
    rw [hok]at HCk
    go_enter Tryz.func193, Tryz.ntmps193
    go_wp2_with fail
    refine HCk.out.mono ?_
    rintro e w1 ⟨rfl,hf1⟩
    go_wp2_with fail
    go_ret2
    exact⟨fun h=>by simp at h,fun _=>rfl,hf1⟩
  | true=>
    rw [hok]at HCk
    go_enter Tryz.func193, Tryz.ntmps193
    go_wp2_with fail
    refine HCk.out.mono ?_
    rintro e w1 ⟨rfl,hf1⟩
    go_upto_region 4 with fail
    have hs1:=hs.fr hf1
    have HCo1:=hid (HCo.out w1 hs1)
    have hR1:∀ l,l<16->(arrI 16 (cntZ lens))[l]? = some (.int .i64 (cntZ lens l)):=fun l h=>arrI_at 16 _ l h
    have HR1:=hid hR1
    clear hR1 HCo HCk
    generalize arrI 16 (cntZ lens)=R at *
    go_wp2_with fail
    refine HCo1.out.mono ?_
    rintro e w2 ⟨rfl,hf2⟩
    have h0:(w2.alloc (.cells (arrI 16 (fun _=>0)) 342)).heap[w2.heap.size]? = some (.cells (arrI 16 (fun _=>0)) 342 (0,0)):=heap_new _ _ _ rfl
    have hF0:Fr w2 (w2.alloc (.cells (arrI 16 (fun _=>0)) 342)):=(Fr.refl w2).alloc _
    rw [<- zero16]at h0 hF0
    go_upto_region 5 with(refine wpList_store_row rfl 342 (.tmp 5) (.tmp 20) rfl w2.heap.size R rfl rfl 342 _ h0 hinf (by rw [hsz];rfl) hone ?_)
    have h1:=setRow_heap _ w2.heap.size _ R 342 (0,0) h0
    have hF1:Fr w2 (World.setRow _ w2.heap.size R):=Chg.below hF0 (setRow_chg _ w2.heap.size R) hF0.size (fun k hk=>Nat.le_of_eq hk.symm)
    generalize hW2:World.setRow _ w2.heap.size R=w3 at *
    clear hW2 h0 hF0 hone hinf hsz HCo1
    have hff:=(hf1.trans hf2).trans hF1
    have hB:(w3.alloc (.cells (arrI 17 (fun _=>0)) 346)).heap[w3.heap.size]? = some (.cells (arrI 17 (fun _=>0)) 346 (0,0)):=heap_new _ _ _ rfl
    have hF3:Fr w3 (w3.alloc (.cells (arrI 17 (fun _=>0)) 346)):=(Fr.refl w3).alloc _
    have hA0:ArrI (w3.alloc (.cells (arrI 17 (fun _=>0)) 346)) w3.heap.size 346 17 (fun j=>if j<=1 then((firstK lens j:Nat):Int)else 0):=by
      unfold ArrI; rw [hB, arrI_congr (f' := fun j => if j ≤ 1 then ((firstK lens j : Nat) : Int) else 0) fun j _ => by
        show (0 : Int) = _
        by_cases h : j ≤ 1
        · rw [if_pos h]
          have : j = 0 ∨ j = 1 := by omega
          rcases this with rfl | rfl <;> rfl
        · rw [if_neg h]]
    have h3:=hF3.heap h1
    have hlt:w2.heap.size<w3.heap.size:=(Array.getElem?_eq_some_iff.1 h1).1
    rw [<- zero17]at hF3 hA0 h3
    clear hB h1
    go_upto_region 6 with fail
    generalize hW4:w3.alloc (.cells _ 346)=w4 at *
    clear hW4
    have HN:Hid (∀ W,Chg (fun k=>k=w3.heap.size) w4 W->∀ l,l<16->W.cell? ⟨w2.heap.size,l,none⟩=some (.int .i64 (cntZ lens l))):=fun W h l hl=>by
      rw [cell_of_heap (h.heap h3 (by omega))];exact HR1.out l hl
    have HSee:Hid (∀ W,Chg (fun k=>k=w3.heap.size) w4 W->See W eB (.slice a lens.length cap) lens):=fun W h=>
      hs.fr (Chg.below (hff.trans hF3) h (hff.trans hF3).size (fun i hi=>by rw [hi];exact hff.size))
    have hFw:Fr w w4:=hff.trans hF3
    have hgg:=hff.size
    have hgl:=hA0.lt
    have HF1:=hid (fun l=>firstK_le lens l)
    have HFs:=hid (fun l h=>firstK_succ lens l h)
    have HCl:=hid (fun l=>cntK_le lens l)
    clear HR1 h3 hs hs1 hf1 hf2 hF1 hff hF3
    generalize hg:w3.heap.size=g at *
    clear hg
    go_wp2_with fail
    go_loopw [8] (fun iv wr=>∃ l:Nat,1<=l/\l<=16/\iv=N l/\ArrI wr g 346 17 (fun j=>if j<=l then((firstK lens j:Nat):Int)else 0)/\Chg (fun k=>k=g) w4 wr) (fun iv _=>16 - (intOf iv).toNat)
    case atStart=>exact⟨1,Nat.le_refl _,by omega,rfl,hA0,Chg.refl _ _⟩
    case round=>
      clear hA0
      obtain⟨l,hl1,hl2,rfl,hA,hc⟩:=hrel
      by_cases hlt2:l<16
      · have hlt2':(l:Int)<16:=by omega
        have e1:wr.cell? ⟨g,l,none⟩=some (.int .i64 ((firstK lens l:Nat):Int)):=hA.cell' l (by omega) (if_pos (Nat.le_refl _))
        have e2:wr.cell? ⟨w2.heap.size,l,none⟩=some (.int .i64 ((cntK lens l:Nat):Int)):=by
          have:=HN.out wr hc l hlt2
          rw [this];simp [cntZ];omega
        have e3:=hA.frozen (l+1)
        have e4:=hA.cell (l+1) (by omega)
        have hfl:firstK lens l<=40000000:=by
          have h1:=HF1.out l
          have h2:(2:Nat) ^ (l+1)<=65536*2:=Nat.le_trans (Nat.pow_le_pow_right (by omega) (show l+1<=17 by omega)) (by decide)
          have h3:lens.length*2 ^ (l+1)<=300*(65536*2):=Nat.mul_le_mul hn h2
          omega
        have hcl:=HCl.out l
        have HSet:=hid (hA.set (l+1) (((2*(firstK lens l+cntK lens l):Nat)):Int))
        have HS2:Hid (ArrI (wr.setCell ⟨g,l+1,none⟩ (.int .i64 (((2*(firstK lens l+cntK lens l):Nat)):Int))) g 346 17 (fun j=>if j<=l+1 then((firstK lens j:Nat):Int)else 0)):=HSet.out.congr fun j hj=>by
          show(if j=l+1 then _ else if j<=l then _ else _)=_
          by_cases h:j=l+1
          · subst h;rw [if_pos rfl,if_pos (Nat.le_refl _),HFs.out l hl1]
          · rw [if_neg h]
            by_cases h2:j<=l
            · rw [if_pos h2,if_pos (by omega)]
            · rw [if_neg h2,if_neg (by omega)]
        clear HSet
        generalize firstK lens l=fl at *
        generalize cntK lens l=cl at *
        have i1:(0:Int)<=l:=by omega
        have i2:l<16:=hlt2
        have i3:(0:Int)<=(l:Int)+1:=by omega
        have i4:(l:Int)+1<17:=by omega
        have i5:(l:Int)<17:=by omega
        have hsm:IntKind.i64.wrap ((fl:Int)+cl)=((fl+cl:Nat):Int):=by rw [IntWalk.i64_in _ (by omega)];omega
        have hdb:IntKind.i64.wrap (((fl+cl:Nat):Int)*2)=((2*(fl+cl):Nat):Int):=by rw [IntWalk.i64_in _ (by omega)];omega
        generalize hmu:2*(fl+cl)=mu at *
        generalize hsu:fl+cl=su at *
        have hmb:mu<=90000000:=by omega
        have hll:w2.heap.size≠g:=by omega
        clear hmu hsu
        go_upto_region 9 with fail
        go_region
        all_goals go_wp2_with fail
        all_goals go_roundw
        case rel=>exact⟨l+1,by omega,by omega,by go_num,HS2.out.fr (Fr.drew (Fr.refl _)),hc.trans ((setCell_chg wr ⟨g,l+1,none⟩ _).trans ((Fr.drew (Fr.refl _)).chg (fun k=>k=g)) (fun _ _ h=>h)) (fun _ _ h=>h)⟩
        case measure=>simp [intOf];omega
      · obtain rfl:l=16:=by omega
        have hnl:¬(16:Int)<16:=by omega
        have hA2:ArrI wr g 346 17 (fstA lens 0):=hA.congr fun j hj=>by
          show(if j<=16 then _ else _)=_
          rw [if_pos (by omega)]
          show((firstK lens j:Nat):Int)=((if j=0 then 0 else valK lens j 0:Nat):Int)
          by_cases h:j=0
          · subst h;rfl
          · rw [if_neg h,valK_zero]
        have hmk:=made_run eU rfl rfl 207 Tryz.underlying207 .i64 .i64 lens.length (by omega)
        have HOw:=hid (made_own (base:=w4.heap.size) eU rfl rfl lens.length (by omega) wr hc.size)
        have hFx:Fr wr (wr.alloc (.cells (madeCells #[eU.z] lens.length) eU.e)):=(Fr.refl wr).alloc _
        have hA3:=hA2.fr hFx
        have hcx:=hc.trans (hFx.chg (fun k=>k=g)) (fun _ _ h=>h)
        have hszw:=hc.size
        have hRl:=codesK_len lens
        have HRat:=hid (fun s h=>codesK_at lens s h)
        have HVs:=hid (fun l s h=>valK_succ lens l s h)
        have HVl:=hid (fun l s h=>valK_le lens l s h hn)
        rw [show(eU:Elt Tryz.prog Nat).e=211 from rfl]at *
        generalize madeCells #[eU.z] lens.length=T0 at *
        go_wp2_with fail
        generalize hW5:wr.alloc (.cells T0 211)=w5 at *
        clear hW5 hFx hA hA2 hc
        generalize hq0:wr.heap.size=q at *
        clear hq0
        have hO0:=HOw.out
        clear HOw hmk
        go_loopw [42] (fun iv wr=>∃ s:Nat,s<=lens.length/\iv=N s/\ArrI wr g 346 17 (fstA lens s)/\Ow wr w4.heap.size eU (.slice (some ⟨q,0,none⟩) lens.length lens.length) ((codesK lens).take s++List.replicate (lens.length - s) 0)/\Chg (fun k=>k=g) w4 wr) (fun iv _=>lens.length - (intOf iv).toNat)
        case atStart=>exact⟨0,Nat.zero_le _,rfl,hA3,by simp only [List.take_zero,List.nil_append,Nat.sub_zero];exact hO0,hcx⟩
        case round=>
          clear hA3 hcx hO0
          obtain⟨s,hs,rfl,hA,hO,hc⟩:=hrel
          by_cases hsl:s<lens.length
          · obtain⟨b,off,cap',hv,c0⟩:=(HSee.out wr hc).cell1 (fun c=>Fk.u8 c) rfl s hsl
            have h15s:=h15 _ (List.getElem_mem hsl)
            have HRs:=hid (HRat.out s hsl)
            have HVn:=hid (fun l=>HVs.out l s hsl)
            have hz:lens[s]=0↔lens[s].toNat=0:=⟨fun e=>by rw [e];rfl,fun e=>UInt8.toNat_inj.1 (by simpa using e)⟩
            generalize lens[s]=c at *
            cases hv
            have hlen:((codesK lens).take s++List.replicate (lens.length - s) 0).length=lens.length:=fill_len _ _ _ _ hRl hs
            have HFil:=hid (fun x hx=>fill_set (codesK lens) 0 lens.length s hRl hsl x hx)
            generalize hcn:c.toNat=cn at *
            have i1:(0:Int)<=s:=by omega
            have i2:(s:Int)<lens.length:=by omega
            by_cases hc0:cn=0
            · have hc0':¬(0:Int)<cn:=by omega
              have hA2:ArrI wr g 346 17 (fstA lens (s+1)):=hA.congr fun j hj=>by
                show((if j=0 then 0 else valK lens j s:Nat):Int)=((if j=0 then 0 else valK lens j (s+1):Nat):Int)
                by_cases h:j=0
                · rw [if_pos h,if_pos h]
                · rw [if_neg h,if_neg h,HVn.out j,if_neg (by omega)];rfl
              have HO2:Hid (Ow wr w4.heap.size eU (.slice (some ⟨q,0,none⟩) lens.length lens.length) ((codesK lens).take (s+1)++List.replicate (lens.length - (s+1)) 0)):=by
                have h1:=HFil.out 0 (by rw [HRs.out,if_pos (hz.2 hc0)])
                show Ow _ _ _ _ _
                rw [<- h1]
                have h2:((codesK lens).take s++List.replicate (lens.length - s) 0).set s 0=(codesK lens).take s++List.replicate (lens.length - s) 0:=by
                  rw [List.set_append_right _ _ (by rw [List.length_take];omega),show lens.length - s=(lens.length - (s+1))+1 by omega,List.replicate_succ]
                  have:s - ((codesK lens).take s).length=0:=by rw [List.length_take];omega
                  rw [this];rfl
                rw [h2];exact hO
              clear HFil HRs HVn hO hA
              subst hc0
              go_wp2_with fail
              go_roundw
              case rel=>exact⟨s+1,by omega,by go_num,hA2,HO2.out,hc⟩
              case measure=>simp [intOf];omega
            · have hc0':(0:Int)<cn:=by omega
              have hvl:=HVl.out cn s (by omega)
              have e1:wr.cell? ⟨g,cn,none⟩=some (.int .i64 ((valK lens cn s:Nat):Int)):=hA.cell' cn (by omega) (by simp [fstA,hc0])
              have e2:=hA.frozen cn
              obtain⟨d1,d2⟩:=hO.cellAt (fun n:Nat=>Value.int .u16 (n:Int)) rfl s (by rw [hlen];exact hsl)
              have HS1:=hid (hO.set (fun n:Nat=>Value.int .u16 (n:Int)) rfl s (by rw [hlen];exact hsl) (valK lens cn s % 65536) (.int .u16 ((valK lens cn s % 65536:Nat):Int)) rfl)
              have hcv:(codesK lens)[s]'(by rw [hRl];exact hsl)=valK lens cn s % 65536:=by rw [HRs.out,if_neg (fun e=>hc0 (hz.1 e))]
              rw [HFil.out _ hcv]at HS1
              have HA1:=hid ((hA.chg (setCell_chg wr ⟨q,s,none⟩ (.int .u16 ((valK lens cn s % 65536:Nat):Int))) (by show ¬g=q;omega)).set cn (((valK lens cn s:Nat):Int)+1))
              have HA2:Hid (ArrI ((wr.setCell ⟨q,s,none⟩ (.int .u16 ((valK lens cn s % 65536:Nat):Int))).setCell ⟨g,cn,none⟩ (.int .i64 (((valK lens cn s:Nat):Int)+1))) g 346 17 (fstA lens (s+1))):=HA1.out.congr fun j hj=>by
                show(if j=cn then _ else((if j=0 then 0 else valK lens j s:Nat):Int))=((if j=0 then 0 else valK lens j (s+1):Nat):Int)
                by_cases h:j=cn
                · rw [if_pos h,if_neg (by omega),HVn.out j,if_pos h.symm,h];rfl
                · rw [if_neg h]
                  by_cases h0:j=0
                  · rw [if_pos h0,if_pos h0]
                  · rw [if_neg h0,if_neg h0,HVn.out j,if_neg (Ne.symm h)];rfl
              have HO2:=hid (own_set_other (r:=g) (i:=cn) (u:=.int .i64 (((valK lens cn s:Nat):Int)+1)) HS1.out hgl)
              have HCh:Hid (Chg (fun k=>k=g) w4 ((wr.setCell ⟨q,s,none⟩ (.int .u16 ((valK lens cn s % 65536:Nat):Int))).setCell ⟨g,cn,none⟩ (.int .i64 (((valK lens cn s:Nat):Int)+1)))):=
                (hc.trans (setCell_chg wr ⟨q,s,none⟩ _) (fun i hi e=>by exfalso;have:i=q:=e;omega)).trans (setCell_chg _ ⟨g,cn,none⟩ _) (fun _ _ h=>h)
              have hu:=u16_val (valK lens cn s)
              have e3:(wr.setCell ⟨q,s,none⟩ (.int .u16 ((valK lens cn s % 65536:Nat):Int))).cell? ⟨g,cn,none⟩=some (.int .i64 ((valK lens cn s:Nat):Int)):=
                ((hA.chg (setCell_chg wr ⟨q,s,none⟩ (.int .u16 ((valK lens cn s % 65536:Nat):Int))) (by show ¬g=q;omega))).cell' cn (by omega) (by simp [fstA,hc0])
              clear HS1 HA1 HFil HVn HRs hA hO hc hcv
              generalize valK lens cn s % 65536=vm at *
              generalize valK lens cn s=vv at *
              have i3:(0:Int)<=cn:=by omega
              have i4:(cn:Int)<17:=by omega
              have i5:cn<17:=by omega
              have i6:q≠g:=by omega
              have i7:g≠q:=by omega
              go_wp2_with fail
              go_roundw
              case rel=>exact⟨s+1,by omega,by go_num,HA2.out,HO2.out,HCh.out⟩
              case measure=>simp [intOf];omega
          · obtain rfl:s=lens.length:=by omega
            have hnl2:¬(lens.length:Int)<lens.length:=by omega
            have e:(codesK lens).take lens.length++List.replicate (lens.length - lens.length) 0=codesK lens:=by rw [Nat.sub_self,List.replicate_zero,List.append_nil,<- hRl,List.take_length]
            rw [e]at hO
            go_wp2_with fail
            go_ret2
            refine⟨⟨_,rfl,hO.rebase hFw.size⟩,Chg.below hFw hc hFw.size (fun i hi=>by rw [hi];exact hgg)⟩
structure HufAt (w:World) (base g:Nat) (lens:List UInt8) (s:Nat) (c:Nat->Value):Prop where
 arr:ArrV w g 259 50 c
 own0:Ow w base eB (c 0) lens
 own1:Ow w base eU (c 1) (codesK lens)
 first:∀ l,1<=l->l<16->c (2+l)=N (fM lens s l)
 many:∀ l,1<=l->l<16->c (18+l)=N (cntK (lens.take s) l)
 syms:∀ l,1<=l->l<16->Ow w base eJ (c (34+l)) (sM lens s l)
 apart:∀ j k,1<=j->j<16->1<=k->k<16->j≠k->(c (34+j)).ownBlock=none\/(c (34+j)).ownBlock≠(c (34+k)).ownBlock
 up:base<=g
theorem huf_step{w0 w W3 w4:World}{base g s cn:Nat}{lens:List UInt8}{c c2:Nat->Value}{v':Value}(hH:HufAt w base g lens s c)(hf:Fr w0 w)(hb0:w0.heap.size<=base)(hg:base<=g)(hlt:s<lens.length)(hcn:lens[s].toNat=cn)(h1:1<=cn)(h2:cn<16)
  (hA:ArrV W3 g 259 50 c2) (hch:Chg (fun k=>k=g) w W3) (e1:c2 (2+cn)=N (firstK lens cn % 65536)) (e2:c2 (18+cn)=N (cntK (lens.take s) cn+1))
  (e3:∀ i,i≠2+cn->i≠18+cn->c2 i=c i) (hap:App base eJ (sM lens s cn++[s]) W3 (c (34+cn)) v' w4) :
  HufAt (w4.setCell ⟨g,34+cn,none⟩ v') base g lens (s+1) (fun j=>if j=34+cn then v' else c2 j)/\Fr w0 (w4.setCell ⟨g,34+cn,none⟩ v'):=by
 have hs0:=hH.syms cn h1 h2
 have hsv:=hs0.keepG hH.arr (by decide) hch
 have hA4:ArrV w4 g 259 50 c2:=hA.chg hap.chg' (fun e=>hsv.ne_cells hA (by decide) e)
 have hc5:Chg (fun k=>k=g) w4 (w4.setCell ⟨g,34+cn,none⟩ v'):=setCell_chg w4 ⟨g,34+cn,none⟩ v'
 have hgn:(c (34+cn)).ownBlock≠some g:=hsv.ne_cells hA (by decide)
 refine⟨⟨hA4.set _ _,?_,?_,?_,?_,?_,?_,hg⟩,?_⟩
 · rw [if_neg (by omega),e3 0 (by omega) (by omega)]
   have h3:=hH.own0.keepG hH.arr (by decide) hch
   exact(hap.other h3 (own_ne h3 hsv (by decide))).keepG hA4 (by decide) hc5
 · rw [if_neg (by omega),e3 1 (by omega) (by omega)]
   have h3:=hH.own1.keepG hH.arr (by decide) hch
   exact(hap.other h3 (own_ne h3 hsv (by decide))).keepG hA4 (by decide) hc5
 · intro l l1 l2
   rw [if_neg (by omega),fM_succ lens s l hlt,hcn]
   by_cases e:l=cn
   · subst e;rw [if_pos rfl,e1]
   · rw [if_neg (fun h=>e h.symm),e3 _ (by omega) (by omega)];exact hH.first l l1 l2
 · intro l l1 l2
   rw [if_neg (by omega),cntK_take lens s l hlt,hcn]
   by_cases e:l=cn
   · subst e;rw [if_pos rfl,e2]
   · rw [if_neg (fun h=>e h.symm),e3 _ (by omega) (by omega)];exact hH.many l l1 l2
 · intro l l1 l2
   rw [sM_succ lens s l hlt,hcn]
   by_cases e:l=cn
   · subst e;rw [if_pos rfl,if_pos rfl];exact hap.own.keepG hA4 (by decide) hc5
   · rw [if_neg (by omega),if_neg (fun h=>e h.symm),List.append_nil,e3 _ (by omega) (by omega)]
     have h3:=(hH.syms l l1 l2).keepG hH.arr (by decide) hch
     exact(hap.other h3 (hH.apart l cn l1 l2 h1 h2 e)).keepG hA4 (by decide) hc5
 · intro j k j1 j2 k1 k2 hjk
   by_cases e:j=cn
   · subst e
     rw [if_pos rfl,if_neg (by omega),e3 _ (by omega) (by omega)]
     cases hv:v'.ownBlock with
     | none=>exact .inl rfl
     | some b=>
      refine .inr fun he=>?_
      rcases hap.fresh b hv with h | h
      · rcases hH.apart j k j1 j2 k1 k2 hjk with h5 | h5
        · rw [h5]at h;cases h
        · exact h5 (h.trans he)
      · have h3:=(hH.syms k k1 k2).keepG hH.arr (by decide) hch
        have:=(h3.lt b he.symm).2
        omega
   · rw [if_neg (by omega),e3 _ (by omega) (by omega)]
     by_cases e':k=cn
     · subst e'
       rw [if_pos rfl]
       cases hv:v'.ownBlock with
       | none=>
        cases hv2:(c (34+j)).ownBlock with
        | none=>exact .inl rfl
        | some b=>exact .inr (by simp)
       | some b=>
        rcases hap.fresh b hv with h | h
        · rcases hH.apart j k j1 j2 k1 k2 hjk with h5 | h5
          · exact .inl h5
          · exact .inr (by rw [<- h];exact h5)
        · refine .inr fun he=>?_
          have h3:=(hH.syms j j1 j2).keepG hH.arr (by decide) hch
          have:=(h3.lt b he).2
          omega
     · rw [if_neg (by omega),e3 _ (by omega) (by omega)];exact hH.apart j k j1 j2 k1 k2 hjk
 · have h3:Fr w0 W3:=Chg.below hf hch hf.size (fun i e=>by omega)
   exact set_below (hap.below hsv h3 hb0 h3.size) (by omega) (Nat.le_trans h3.size hap.size)
def hC0(u v:Value)(i:Nat):Value:=if i=0 then u else if i=1 then v else if i<34 then N 0 else .slice none 0 0
theorem HNew_any (v : Value) (lens : List UInt8) (w : World) (hs : See w eB v lens) (hn : lens.length ≤ 300) (h15 : ∀ c ∈ lens, c.toNat ≤ 15) (hok : okK lens = true) :
    Calls Tryz.prog 159 #[v] w fun e w'=>∃ g c,e=.returned (.tuple #[.pointer (some ⟨g,0,none⟩),.int .i64 0])/\HufAt w' w.heap.size g lens lens.length c/\Fr w w':=by
  have HC:=hid (Codes_any _ lens w hs hn h15)
  have HS:=hid (fun W (h:Fr w W)=>hs.fr h)
  obtain⟨a,cap,rfl,hcap1,hcap2,hnone⟩:=hs.shape
  unfold maxLen at hcap2
  clear hs
  have HCl:=hid (fun W (h:See W eB _ lens)=>BClone_any (.slice a lens.length cap) lens W h (by omega))
  go_enter Tryz.func159, Tryz.ntmps159
  go_wp2_with fail
  refine HC.out.mono ?_
  rintro e w1 ⟨ht,_,hf1⟩
  obtain⟨cv,rfl,hcv⟩:=ht hok
  obtain⟨ca,cc,hcv'⟩:=hcv.shape'
  rw [codesK_len]at hcv'
  subst hcv'
  have HCl1:=hid (HCl.out w1 (HS.out w1 hf1))
  go_wp2_with fail
  refine HCl1.out.mono ?_
  rintro e w2 ⟨lv,rfl,hlv,hf2⟩
  obtain⟨la,lc,hlv'⟩:=hlv.shape'
  subst hlv'
  go_wp2_with fail
  go_loopw [25] (fun iv wr=>∃ (s:Nat) (c:Nat->Value),s<=lens.length/\iv=N s/\HufAt wr w.heap.size w2.heap.size lens s c/\Hid (c 0=.slice la lens.length lc/\c 1=.slice ca lens.length cc)/\Fr w wr) (fun iv _=>lens.length - (intOf iv).toNat)
  case atStart=>
    refine⟨0,hC0 (.slice la lens.length lc) (.slice ca lens.length cc),Nat.zero_le _,rfl,⟨?_,?_,?_,?_,?_,?_,?_,?_⟩,⟨rfl,rfl⟩,((hf1.trans hf2).alloc _)⟩
    · exact heap_new _ _ _ rfl
    · exact(hlv.rebase hf1.size).fr ((Fr.refl w2).alloc _)
    · exact(hcv.fr hf2).fr ((Fr.refl w2).alloc _)
    · intro l h1 h2;rw [fM_zero];unfold hC0;rw [if_neg (by omega),if_neg (by omega),if_pos (by omega)]
    · intro l h1 h2;rw [List.take_zero,cntK_nil];unfold hC0;rw [if_neg (by omega),if_neg (by omega),if_pos (by omega)]
    · intro l h1 h2;rw [sM_zero];unfold hC0;rw [if_neg (by omega),if_neg (by omega),if_neg (by omega)];exact Ow.nil
    · intro j k h1 h2 _ _ _;unfold hC0;rw [if_neg (by omega),if_neg (by omega),if_neg (by omega)];exact .inl rfl
    · exact Nat.le_trans hf1.size hf2.size
  case round=>
    obtain⟨s,c,hsl,rfl,hH,HCC,hf⟩:=hrel
    by_cases hlt:s<lens.length
    · obtain⟨b,off,cap',hv,c0⟩:=bAt (HS.out wr hf) s hlt
      have h15i:=h15 _ (List.getElem_mem hlt)
      have hz:=hid (u8_zero lens[s])
      have HcM:=hid (fun l=>cntK_take lens s l hlt)
      have HsM:=hid (fun l=>sM_succ lens s l hlt)
      have HfM:=hid (fun l=>fM_succ lens s l hlt)
      have HfC:=hid (first_code lens s hlt)
      have HfS:=hid (first_stays lens s)
      generalize hc:lens[s]=x at *
      cases hv
      replace c0:wr.cell? ⟨b,off+s,none⟩=some (.int .u8 ((x.toNat:Nat):Int)):=c0
      generalize hcn:x.toNat=cn at *
      have i1:(0:Int)<=s:=by omega
      have i2:(s:Int)<lens.length:=by omega
      by_cases hx:cn=0
      · subst hx
        have HN:Hid (HufAt wr w.heap.size w2.heap.size lens (s+1) c):=by
          refine⟨hH.arr,hH.own0,hH.own1,fun l h1 h2=>?_,fun l h1 h2=>?_,fun l h1 h2=>?_,hH.apart,hH.up⟩
          · rw [HfM.out,if_neg (by omega)];exact hH.first l h1 h2
          · rw [HcM.out,if_neg (by omega)];exact hH.many l h1 h2
          · rw [HsM.out,if_neg (by omega),List.append_nil];exact hH.syms l h1 h2
        clear HcM HsM HfM HfC HfS hz hcn
        go_wp2_with fail
        go_roundw
        case rel=>exact⟨s+1,c,by omega,by go_num,HN.out,HCC,hf⟩
        case measure=>simp [intOf];omega
      · have i3:(0:Int)<cn:=by omega
        have i4:(cn:Int)<16:=by omega
        have i5:¬(cn:Int)=0:=by omega
        have i6:cn<16:=by omega
        have hx0:x≠0:=fun e=>hx (hz.out.1 e)
        have HHH:=hid hH
        have HCN:=hid (show lens[s].toNat=cn by rw [hc,hcn])
        clear hz hcn
        obtain⟨hA,hO0,hO1,hF,hM,hSy,hAp,hUp⟩:=hH
        have hb0:((cn:Int) == 0)=false:=by simp [hx]
        have hc18:c (18+cn)=N (cntK (lens.take s) cn):=hM cn (by omega) i6
        have hc2:c (2+cn)=N (fM lens s cn):=hF cn (by omega) i6
        have k18:=hA.cell (18+cn) (by omega) hc18
        have f2:=hA.frozen (2+cn)
        have k2:=hA.cell (2+cn) (by omega) hc2
        have hca:=hO1.see
        rw [HCC.out.2]at hca
        have hlc:s<(codesK lens).length:=by rw [codesK_len];exact hlt
        obtain⟨b1,off1,cap1,hv1,c1⟩:=hca.cell1 (fun n=>Value.int .u16 (n:Int)) rfl s hlc
        have h16:=code16 lens s hlc
        have hqw:IntKind.i64.wrap (((codesK lens)[s]:Nat):Int)=(((codesK lens)[s]:Nat):Int):=IntWalk.i64_in _ (by omega)
        have HfC2:=hid (fun h=>HfC.out hx0 h)
        generalize hq:(codesK lens)[s]=q at *
        rw [codesK_len]at hv1
        cases hv1
        replace c1:wr.cell? ⟨b1,off1+s,none⟩=some (.int .u16 (q:Int)):=c1
        have hle:=cntK_le (lens.take s) cn
        have htl:(lens.take s).length<=300:=by rw [List.length_take];omega
        have HcMc:=hid (HcM.out cn)
        have HfMc:=hid (HfM.out cn)
        have HfSc:=hid (HfS.out cn)
        clear hq HfC hlc
        generalize hm:cntK (lens.take s) cn=m at *
        generalize fM lens s cn=f at *
        have HA:=hid hA
        have HH:=hid (And.intro hO0 (And.intro hO1 (And.intro hF (And.intro hM (And.intro hSy hAp)))))
        have HMM:=hid hm
        clear hO0 hO1 hF hM hSy hAp hca hm
        have hmc:((m:Int) == 0)=decide (m=0):=by by_cases h:m=0 <;> simp [h]
        have HBt:Hid (decide (m=0)=true->m=0):=fun h=>by simpa using h
        have HBf:Hid (decide (m=0)=false->m≠0):=fun h=>by simpa using h
        generalize decide (m=0)=bm at *
        go_upto_if 38 with fail
        go_cut []from 39 to 48 (fun wx=>∃ c1,ArrV wx w2.heap.size 259 50 c1/\c1 (2+cn)=N (firstK lens cn % 65536)/\(∀ i,i≠2+cn->c1 i=c i)/\Chg (fun k=>k=w2.heap.size) wr wx)
        case first=>
          cases bm
          · have hqv:=hid (HfSc.out (HBf.out (by first | rfl | trivial)))
            go_wp2_with fail
            go_meet
            exact⟨c,hA,by rw [hc2,hqv.out],fun _ _=>rfl,Chg.refl _ _⟩
          · have hqv:=hid (HfC2.out (HBt.out (by first | rfl | trivial)))
            clear HfC2 HfMc HfSc HcMc
            go_wp2_with fail
            go_region
            all_goals go_wp2_with fail
            all_goals go_meet
            exact⟨_,(hA.set (2+cn) (.int .i64 (q:Int))).drew,by rw [if_pos rfl,hqv.out],fun i hi=>if_neg hi,(setCell_chg wr ⟨_,2+cn,none⟩ _).trans ((Fr.drew (Fr.refl _)).chg (fun k=>k=w2.heap.size)) (fun _ _ h=>h)⟩
        case rest=>
          generalize hwc1:wc=wd at *
          clear hwc1
          obtain⟨c1,hA1,h1a,h1b,hc1⟩:=hcut
          clear HfC2 HfSc HBt HBf f2 k2 k18 hqw hmc
          have hc18':c1 (18+cn)=N m:=by rw [h1b _ (by omega),hc18]
          have k18:=hA1.cell (18+cn) (by omega) hc18'
          have f18:=hA1.frozen (18+cn)
          have hmw:IntKind.i64.wrap ((m:Int)+1)=((m+1:Nat):Int):=by rw [IntWalk.i64_in _ (by omega)];omega
          have HA2:=hid ((hA1.set (18+cn) (.int .i64 ((m:Int)+1))).drew)
          have HC2:Hid (Chg (fun k=>k=w2.heap.size) wr (wd.setCell ⟨w2.heap.size,18+cn,none⟩ (.int .i64 ((m:Int)+1))).drew):=(hc1.trans (setCell_chg wd ⟨_,18+cn,none⟩ _) (fun _ _ h=>h)).trans ((Fr.drew (Fr.refl _)).chg (fun k=>k=w2.heap.size)) (fun _ _ h=>h)
          go_upto_region 11 with fail
          go_region
          all_goals go_wp2_with fail
          generalize hW3:(wd.setCell ⟨w2.heap.size,18+cn,none⟩ (.int .i64 ((m:Int)+1))).drew=W3 at *
          clear hW3 k18 f18 hA1 hc1 c0
          have HStep:=hid (fun c2 v' w4 a1 a2 a3 a4 (a5:ArrV W3 w2.heap.size 259 50 c2)=>huf_step (w4:=w4) (v':=v') (c2:=c2) HHH.out hf (Nat.le_refl _) hUp hlt HCN.out (by omega) i6 a5 HC2.out a1 a2 a3 a4)
          have hown:=HHH.out.syms cn (by omega) i6
          have hlen:=sM_len lens s cn hsl
          have hle2:=cntK_le (lens.take s) cn
          have hown3:=hown.keepG HHH.out.arr (by decide) HC2.out
          obtain⟨sa,sc,hsv⟩:=hown3.shape'
          have k34:W3.cell? ⟨w2.heap.size,34+cn,none⟩=some (c (34+cn)):=HA2.out.cell (34+cn) (by omega) (by rw [if_neg (by omega),h1b _ (by omega)])
          have hD:=hown3.drew
          have hsz3:w.heap.size<=W3.heap.size:=Nat.le_trans hf.size HC2.out.size
          have HSZ:Hid (w.heap.size<=W3.drew.heap.size):=hsz3
          have hfa:Fr W3 (W3.alloc (.cells #[.int .i64 (s:Int)] 3)):=(Fr.refl W3).alloc _
          have k34a:=hfa.cell k34
          have HCL:Hid ((sM lens s cn).length+[s].length<=2147483648):=by show _<=_;rw [hlen];simp;omega
          have hgn:=hown3.ne_cells HA2.out (by decide)
          have hArr:=HA2.out
          rw [hsv]at hD k34 k34a hgn
          have HSV:=hid hsv
          generalize hsm:sM lens s cn=m9 at *
          clear hfa hown hown3 hlen hle2 hsv hsz3 HA HH hA
          go_upto_region 12 with fail
          go_region_law (refine step_app1d eJ rfl (.tmp 66) (.tmp 68) 55 rfl Tryz.underlying55 w.heap.size rfl hD [s] _ _ _ rfl rfl rfl HCL.out HSZ.out ?_
                         intro v' w4 hap
                         have own4 := hap.own
                         have HA4 := hid hap
                         obtain ⟨va, vc, hv'⟩ := own4.shape'
                         have k0 := hArr.chg hap.chg' (fun e => hgn e)
                         have e3 := k0.cell (34 + cn) (by omega) rfl
                         have e4 := k0.frozen (34 + cn)
                         clear hap
                         subst hv')
          all_goals (go_wp2_with fail
                     rw [show (m9 ++ [s]).length = m9.length + 1 by simp] at HA4
                     have hst := HStep.out _ (.slice va (m9.length + 1) vc) w4 (by rw [if_neg (by omega), h1a]) (by rw [if_pos rfl, HMM.out]; rfl) (fun i j1 j2 => by rw [if_neg j2, h1b i j1]) (by rw [HSV.out]; exact HA4.out) HA2.out
                     go_roundw
                     case rel => exact ⟨s + 1, _, by omega, by go_num, hst.1, ⟨by rw [if_neg (by omega), if_neg (by omega), h1b _ (by omega)]; exact HCC.out.1, by rw [if_neg (by omega), if_neg (by omega), h1b _ (by omega)]; exact HCC.out.2⟩, hst.2⟩
                     case measure => simp [intOf]; omega)
    · obtain rfl:s=lens.length:=by omega
      have hnl:¬(lens.length:Int)<lens.length:=by omega
      go_wp2_with fail
      go_ret2
      exact⟨_,rfl,⟨c,hH⟩,hf⟩
theorem HNew_no(v:Value)(lens:List UInt8)(w:World)(hs:See w eB v lens)(hn:lens.length<=300)(h15:∀ c∈lens,c.toNat<=15)(hok:okK lens=false) :
  Calls Tryz.prog 159 #[v] w fun e w'=>e=.returned (.tuple #[.pointer none,.int .i64 7])/\Fr w w':=by
 have HC:=hid (Codes_any _ lens w hs hn h15)
 clear hs
 go_enter Tryz.func159, Tryz.ntmps159
 go_wp2_with fail
 refine HC.out.mono ?_
 rintro e w1 ⟨_,ht,hf1⟩
 obtain rfl:=ht hok
 go_wp2_with fail
 go_ret2
 exact⟨rfl,hf1⟩
theorem hlength_any(lens:List UInt8)(base g n s:Nat)(c:Nat->Value)(w:World)(h:HufAt w base g lens n c)(hn:lens.length<=300)(hs:s<=1000000) :
  Calls Tryz.prog 194 #[.pointer (some ⟨g,0,none⟩),N s] w fun e w'=>e=.returned (N (symL lens s))/\w'=w:=by
 have hs0:=h.own0.see
 obtain⟨a,cap,hv,hcap1,hcap2,hnone⟩:=hs0.shape
 have k0:=h.arr.cell 0 (by omega) hv
 unfold maxLen at hcap2
 have hs1:¬(s:Int)<0:=by omega
 by_cases hlt:s<lens.length
 · rw [hv]at hs0
   obtain⟨b,off,cap',hv',c0⟩:=bAt hs0 s hlt
   cases hv'
   rw [symL_at lens s hlt]
   generalize lens[s]=x at *
   replace c0:w.cell? ⟨b,off+s,none⟩=some (.int .u8 ((x.toNat:Nat):Int)):=c0
   have hx:x.toNat<256:=x.toNat_lt
   generalize x.toNat=cn at *
   have i2:¬(lens.length:Int)<=s:=by omega
   have i3:(s:Int)<lens.length:=by omega
   clear h hs0 hv
   go_enter Tryz.func194, Tryz.ntmps194
   go_wp2_with fail
   go_ret
   exact⟨rfl,rfl⟩
 · rw [symL_out lens s (by omega)]
   have i2:(lens.length:Int)<=s:=by omega
   clear h hs0 hv
   go_enter Tryz.func194, Tryz.ntmps194
   go_wp2_with fail
   go_ret
   exact⟨rfl,rfl⟩
theorem HLen_any(lens:List UInt8)(base g n s:Nat)(c:Nat->Value)(w:World)(h:HufAt w base g lens n c)(hn:lens.length<=300)(hs:s<=1000000) :
  Calls Tryz.prog 160 #[.pointer (some ⟨g,0,none⟩),N s] w fun e w'=>e=.returned (N (symL lens s))/\w'=w:=by
 have HL:=hid (hlength_any lens base g n s c w h hn hs)
 have k0:=h.arr.cell 0 (by omega) rfl
 clear h
 go_enter Tryz.func160, Tryz.ntmps160
 go_wp2_with fail
 refine HL.out.mono ?_
 rintro e w1 ⟨rfl,rfl⟩
 go_wp2_with fail
 go_ret
 exact⟨rfl,rfl⟩
theorem HPut_nil(x v:Value)(w:World) :
  Calls Tryz.prog 111 #[.pointer none,x,v] w fun e w'=>e=.returned (.int .i64 7)/\Fr w w':=by
 go_enter Tryz.func111, Tryz.ntmps111
 go_wp2_with fail
 go_ret
 exact⟨rfl,Fr.refl w⟩
theorem HPut_any(lens:List UInt8)(b2 g2 n s:Nat)(c:Nat->Value)(base g:Nat)(T:TypeId)(rest:List Value)(bv:Value)(l:List UInt8)(w:World)(h:HufAt w b2 g2 lens n c)(hW:WrB w base g T rest bv l)
  (hn:lens.length<=300) (h15:∀ c∈lens,c.toNat<=15) (hok:okK lens=true) (hs:s<=1000000) (hl:l.length<=900000000) (hsz:base<=w.heap.size) :
  Calls Tryz.prog 111 #[.pointer (some ⟨g2,0,none⟩),.pointer (some ⟨g,0,none⟩),N s] w fun e w'=>e=.returned (.int .i64 (if symL lens s=0 then 13 else 0))/\∃ bv',WrB w' base g T rest bv' (l++bitK lens s)/\WSt g bv bv' w w':=by
 have HL:=hid (fun W h=>HLen_any lens b2 g2 n s c W h hn hs)
 have HD:=hid (fun k=>(⟨h.arr.fr ((Fr.refl w).drewN k),h.own0.fr ((Fr.refl w).drewN k),h.own1.fr ((Fr.refl w).drewN k),h.first,h.many,fun l a b=>(h.syms l a b).fr ((Fr.refl w).drewN k),h.apart,h.up⟩:HufAt (w.drewN k) b2 g2 lens n c))
 have HPut:=hid (fun x n hn hx bv' m W hW hm hb=>bput_any x n hn hx base g T rest bv' m W hW hm hb)
 have HL0:=hid (HL.out w h)
 have HLd:=hid (fun k=>HL.out (w.drewN k) (HD.out k))
 have hs0:=h.own0.see
 have hs1:=h.own1.see
 obtain⟨a,cap,hv,hcap1,hcap2,hnone⟩:=hs0.shape
 obtain⟨a1,cap1,hv1,hcap3,hcap4,hnone1⟩:=hs1.shape
 have k0:=h.arr.cell 0 (by omega) hv
 have k1:=h.arr.cell 1 (by omega) hv1
 unfold maxLen at hcap2 hcap4
 by_cases hz:symL lens s=0
 · rw [if_pos hz,bitK_none lens s hz,List.append_nil]
   rw [hz]at HL0
   clear h HL HD HLd hs0 hs1 hv hv1
   go_enter Tryz.func111, Tryz.ntmps111
   go_upto_region 3 with fail
   go_wp2_with fail
   refine HL0.out.mono ?_
   rintro e w1 ⟨rfl,rfl⟩
   go_wp2_with fail
   go_ret
   exact⟨rfl,bv,hW,WSt.refl g bv _⟩
 · rw [if_neg hz,bitK_some lens s hz]
   have hlt:s<lens.length:=by
    by_cases h:s<lens.length
    · exact h
    · exact absurd (symL_out lens s (by omega)) hz
   have hx0:lens[s]≠0:=fun e=>hz (by rw [symL_at lens s hlt,e];rfl)
   have hcl:=code_lt lens hok h15 s hlt hx0
   have hlc:s<(codesK lens).length:=by rw [codesK_len];exact hlt
   have h16:=code16 lens s hlc
   have hl15:=h15 _ (List.getElem_mem hlt)
   rw [hv1]at hs1
   obtain⟨b1,off1,cap1',hv1',c1⟩:=hs1.cell1 (fun n=>Value.int .u16 (n:Int)) rfl s hlc
   rw [codesK_get lens s hlt]
   rw [<- symL_at lens s hlt]at hcl hl15
   generalize hq:(codesK lens)[s]=q at *
   generalize hsl:symL lens s=sl at *
   rw [codesK_len]at hv1 hv1' k1 hcap3
   cases hv1'
   replace c1:w.cell? ⟨b1,off1+s,none⟩=some (.int .u16 (q:Int)):=c1
   have i2:(s:Int)<lens.length:=by omega
   have i3:(0:Int)<=s:=by omega
   have hqw:IntKind.u64.wrap (q:Int)=(q:Int):=IntWalk.u64_in _ (by omega)
   have hz':¬(sl:Int)=0:=by omega
   have hzb:((sl:Int) == 0)=false:=by simp;omega
   have hWd:WrB w.drew base g T rest bv l:=⟨((Fr.refl w).drewN 1).heap hW.1,hW.2.1.drew,hW.2.2⟩
   have HP:=hid (HPut.out q sl (by omega) hcl bv l w.drew hWd (by omega) hsz)
   have HWS:Hid (∀ bv' w',WSt g bv bv' w.drew w'->WSt g bv bv' w w'):=fun bv' w' h=>WSt.fr ((Fr.refl w).drewN 1) h
   clear h HL hs0 hs1 hv hv1 hq hsl hWd hW
   go_enter Tryz.func111, Tryz.ntmps111
   go_upto_region 3 with fail
   go_wp2_with fail
   refine HL0.out.mono ?_
   rintro e w1 ⟨rfl,rfl⟩
   go_upto_region 5 with fail
   go_region_with (first
    | (go_at_call 160; refine ((HLd.out 1).mono ?_); rintro e w1 ⟨rfl, rfl⟩)
    | (go_at_call 121; refine HP.out.mono ?_; rintro e w1 ⟨rfl, bv', hW', hst⟩))
   all_goals go_wp2_with fail
   all_goals go_ret
   all_goals exact⟨rfl,bv',hW',HWS.out _ _ hst⟩
theorem KWrite_any(v:Value)(lens:List UInt8)(b2:Nat)(base g:Nat)(T:TypeId)(hT:T≠(eB:Elt Tryz.prog UInt8).e)(rest:List Value)(bv:Value)(l:List UInt8)(w:World)(h:WrB w base g T rest bv l)
  (hs:Ow w b2 eB v lens) (hap:v.ownBlock=none\/v.ownBlock≠bv.ownBlock) (hn:lens.length<=300) (h15:∀ c∈lens,c.toNat<=15) (hok:okK lens=true) (hl:l.length<=900000000) (hsz:base<=w.heap.size) :
  Calls Tryz.prog 158 #[.pointer (some ⟨g,0,none⟩),v] w fun e w'=>e=.returned (.int .i64 0)/\∃ bv',WrB w' base g T rest bv' (l++wrGo lens)/\WSt g bv bv' w w':=by
 obtain⟨a,cap,rfl,hcap1,hcap2,hnone⟩:=hs.see.shape
 unfold maxLen at hcap2
 have HCk:=hid (KCheck_any _ lens w hs.see hn h15)
 rw [hok]at HCk
 have hvg:=hs.ne_cells h.1 hT
 have HSee:Hid (∀ W bv',WSt g bv bv' w W->See W eB (.slice a lens.length cap) lens):=fun W bv' hst=>
  (hs.chg hst.1 fun k hk e => by
   rcases e with e | e
   · rw [e] at hk; exact hvg hk
   · rcases hap with h1 | h1
     · rw [h1] at hk; cases hk
     · exact h1 (hk.trans e.symm)).see
 have HPut:=hid (fun x n hn hx bv' m W hW hm hb=>bput_any x n hn hx base g T rest bv' m W hW hm hb)
 have HWl:=hid (wrGo_len lens.length lens (Nat.le_refl _))
 go_enter Tryz.func158, Tryz.ntmps158
 go_wp2_with fail
 refine HCk.out.mono ?_
 rintro e w1 ⟨rfl,hf1⟩
 have HSt0:Hid (WSt g bv bv w w1):=(WSt.refl g bv w).frR hf1
 have HW0:Hid (WrB w1 base g T rest bv l):=⟨hf1.heap h.1,h.2.1.fr hf1,h.2.2⟩
 clear h hs
 go_wp2_with fail
 go_loopw [6] (fun iv wr=>∃ (i:Nat) (bv':Value) (m:List UInt8),i<=lens.length/\iv=N i/\WrB wr base g T rest bv' m/\WSt g bv bv' w wr/\m.length<=l.length+10*i/\Hid (l++wrGo lens=m++wrGo (lens.drop i))) (fun iv _=>lens.length - (intOf iv).toNat)
 case atStart=>exact⟨0,bv,l,Nat.zero_le _,rfl,HW0.out,HSt0.out,by omega,rfl⟩
 case round=>
  obtain⟨i,bv',m,hi,rfl,hW,hst,hml,HE⟩:=hrel
  have hszr:=Nat.le_trans hsz hst.1.size
  by_cases hlt:i<lens.length
  · obtain⟨b,off,cap',hv,c0⟩:=bAt (HSee.out wr bv' hst) i hlt
    have h15i:=h15 _ (List.getElem_mem hlt)
    have hz:=hid (u8_zero lens[i])
    have HDr:=hid (List.drop_eq_getElem_cons hlt)
    generalize hc:lens[i]=c at *
    cases hv
    replace c0:wr.cell? ⟨b,off+i,none⟩=some (.int .u8 ((c.toNat:Nat):Int)):=c0
    have HEone:Hid (c≠0->l++wrGo lens=(m++bitsL c.toNat 4)++wrGo (lens.drop (i+1))):=fun h0=>by rw [HE.out,HDr.out,wrGo_one _ _ h0];simp
    have HEzero:Hid (c=0->l++wrGo lens=(m++bitsL 0 4)++(bitsL (zrun (lens.drop (i+1)) 63) 6++wrGo (lens.drop (i+(zrun (lens.drop (i+1)) 63+1))))):=fun h0=>by
     rw [HE.out,HDr.out,wrGo_zero _ _ h0,List.drop_drop];simp [Nat.add_assoc,Nat.add_comm]
    generalize c.toNat=cn at *
    have i1:(0:Int)<=i:=by omega
    have i2:(i:Int)<lens.length:=by omega
    have hb4:=bitsL_len cn 4
    by_cases hc0:cn=0
    · have hc0':¬(0:Int)<cn:=by omega
      have HE0:=hid (HEzero.out (hz.out.2 hc0))
      clear HEone HEzero HDr hz HE
      subst hc0
      have hb0:=bitsL_len 0 4
      go_wp2_with fail
      generalize wr=wo at *
      go_loopw [7] (fun nv wr=>∃ n:Nat,1<=n/\n<=64/\i+n<=lens.length/\nv=N n/\Hid (zrun (lens.drop (i+1)) 63+1=n+zrun (lens.drop (i+n)) (64 - n))/\∃ q,wr=wo.drewN q) (fun nv _=>64 - (intOf nv).toNat)
      case atStart=>exact⟨1,Nat.le_refl _,by omega,by omega,rfl,Nat.add_comm _ _,0,rfl⟩
      case round=>
       obtain⟨n,hn1,hn2,hn3,rfl,HZ,q,rfl⟩:=hrel
       have n1:(1:Int)<=n:=by omega
       obtain⟨Z,hZ⟩:∃ Z,Z=zrun (lens.drop (i+n)) (64 - n):=⟨_,rfl⟩
       rw [<- hZ]at HZ
       have HZZ:=hid hZ
       clear hZ
       generalize hwq:wo.drewN q=wq at *
       go_upto_region 12 with fail
       go_cut [51]from 33 to 51 (fun cv wx=>cv=.bool (decide (0<Z))/\Hid (0<Z->n<64/\i+n<lens.length/\Z=zrun (lens.drop (i+(n+1))) (64 - (n+1))+1)/\∃ q,wx=wo.drewN q)
       case first=>
        by_cases h64:n<64
        · have k1:(n:Int)<64:=by omega
          by_cases hin:i+n<lens.length
          · have k2:(i:Int)+n<lens.length:=by omega
            obtain⟨b',off',cap3,hv',c3⟩:=bAt (HSee.out wo bv' hst) (i+n) hin
            have hzz:=hid (u8_zero lens[i+n])
            have HOn:=hid (zrun_on lens (i+n) (63 - n) hin)
            have HOff:=hid (zrun_off lens (i+n) (64 - n) hin)
            generalize hc3:lens[i+n]=c' at *
            cases hv'
            replace c3:wo.cell? ⟨b,off+(i+n),none⟩=some (.int .u8 ((c'.toNat:Nat):Int)):=c3
            have c3q:wq.cell? ⟨b,off+(i+n),none⟩=some (.int .u8 ((c'.toNat:Nat):Int)):=by rw [<- hwq];exact c3
            by_cases hcz:c'=0
            · have hcn:c'.toNat=0:=by rw [hcz];rfl
              have HZ1:Hid (Z=zrun (lens.drop (i+(n+1))) (64 - (n+1))+1):=by
               show _=_
               rw [HZZ.out,show 64 - n=63 - n+1 by omega,HOn.out hcz,show 63 - n=64 - (n+1) by omega];rfl
              have HZd:Hid (decide (0<Z)=true):=decide_eq_true (by rw [HZ1.out];omega)
              generalize c'.toNat=cn' at *
              subst hcn
              clear HOn HOff
              go_wp2_with fail
              go_meet
              exact⟨by rw [HZd.out],fun _=>⟨h64,hin,HZ1.out⟩,_,hwq.symm⟩
            · have hcn:c'.toNat≠0:=fun e=>hcz (hzz.out.2 e)
              have HZ1:Hid (Z=0):=by show _=_;rw [HZZ.out,HOff.out hcz]
              have HZd:Hid (decide (0<Z)=false):=decide_eq_false (by rw [HZ1.out];omega)
              generalize c'.toNat=cn' at *
              have hcn2:decide ((cn':Int)=0)=false:=decide_eq_false (by omega)
              clear HOn HOff
              go_wp2_with fail
              go_meet
              exact⟨by rw [HZd.out];simp [hcn],fun h=>by rw [HZ1.out]at h;omega,_,hwq.symm⟩
          · have k2:¬(i:Int)+n<lens.length:=by omega
            have HZ1:Hid (Z=0):=by show _=_;rw [HZZ.out,zrun_end _ _ _ (by omega)]
            have HZd:Hid (decide (0<Z)=false):=decide_eq_false (by rw [HZ1.out];omega)
            go_wp2_with fail
            go_meet
            exact⟨by rw [HZd.out],fun h=>by rw [HZ1.out]at h;omega,_,hwq.symm⟩
        · have k1:¬(n:Int)<64:=by omega
          have HZ1:Hid (Z=0):=by show _=_;rw [HZZ.out,show 64 - n=0 by omega,zrun_zero]
          have HZd:Hid (decide (0<Z)=false):=decide_eq_false (by rw [HZ1.out];omega)
          go_wp2_with fail
          go_meet
          exact⟨by rw [HZd.out],fun h=>by rw [HZ1.out]at h;omega,_,hwq.symm⟩
       case rest=>
        obtain⟨rfl,HN,q2,rfl⟩:=hcut
        by_cases hZp:0<Z
        · have hZd:decide (0<Z)=true:=decide_eq_true hZp
          obtain⟨a1,a2,a3⟩:=HN.out hZp
          simp only [hZd]
          have HZ2:Hid (zrun (lens.drop (i+1)) 63+1=n+1+zrun (lens.drop (i+(n+1))) (64 - (n+1))):=by show _=_;rw [HZ.out,a3];omega
          clear a3 HZ HZZ HN
          go_wp2_with fail
          go_roundw
          case rel=>exact⟨n+1,by omega,by omega,by omega,by go_num,HZ2,q2,rfl⟩
          case measure=>simp [intOf];omega
        · have hZd:decide (0<Z)=false:=decide_eq_false hZp
          obtain rfl:Z=0:=by omega
          simp only [hZd]
          have HZn:Hid (zrun (lens.drop (i+1)) 63=n - 1):=by show _=_;have:=HZ.out;omega
          have HE1:Hid (l++wrGo lens=((m++bitsL 0 4)++bitsL (n - 1) 6)++wrGo (lens.drop (i+n))):=by
           show _=_
           rw [HE0.out,HZn.out,show n - 1+1=n by omega];simp
          have hWq:WrB (wo.drewN q2) base g T rest bv' m:=⟨((Fr.refl wo).drewN q2).heap hW.1,hW.2.1.fr ((Fr.refl wo).drewN q2),hW.2.2⟩
          have hstq:=hst.frR ((Fr.refl wo).drewN q2)
          have hszq:=Nat.le_trans hszr ((Fr.refl wo).drewN q2).size
          generalize wo.drewN q2=wq at *
          have HP:=hid (HPut.out 0 4 (by omega) (by omega) bv' m wq hWq (by omega) hszq)
          have h6:=bitsL_len (n - 1) 6
          have hcw:IntKind.u64.wrap ((n:Int) - 1)=((n - 1:Nat):Int):=by rw [show(n:Int) - 1=((n - 1:Nat):Int) by omega];exact IntWalk.u64_in _ (by omega)
          have hiw:IntKind.i64.wrap ((n:Int) - 1)=((n - 1:Nat):Int):=by rw [IntWalk.i64_in _ (by omega)];omega
          clear HZ HZZ HN hZd hZp HZn HE0
          go_wp2_with fail
          refine HP.out.mono ?_
          rintro e w3 ⟨rfl,bv3,hW3,hst3⟩
          have hsz3:=Nat.le_trans hszq hst3.1.size
          have hml3:(m++bitsL 0 4).length<=l.length+10*i+4:=by rw [List.length_append,hb0];omega
          have HP2:=hid (HPut.out (n - 1) 6 (by omega) (by have:(2:Nat) ^ 6=64:=rfl;omega) bv3 (m++bitsL 0 4) w3 hW3 (by omega) hsz3)
          have HML:Hid ((m++bitsL 0 4++bitsL (n - 1) 6).length<=l.length+10*(i+n)):=by show _<=_;rw [List.length_append,h6];omega
          clear hml3 h6 hb0
          go_wp2_with fail
          refine HP2.out.mono ?_
          rintro e w4 ⟨rfl,bv4,hW4,hst4⟩
          go_wp2_with fail
          go_roundw
          case rel=>exact⟨i+n,bv4,_,by omega,by go_num,hW4,(hstq.trans hst3).trans hst4,HML.out,HE1⟩
          case measure=>simp [intOf];omega
    · have hc0':(0:Int)<cn:=by omega
      have HE1:=hid (HEone.out (fun e=>hc0 (hz.out.1 e)))
      have HP:=hid (HPut.out cn 4 (by omega) (by have:(2:Nat) ^ 4=16:=rfl;omega) bv' m wr hW (by omega) hszr)
      have hcw:IntKind.u64.wrap (cn:Int)=cn:=IntWalk.u64_in _ (by omega)
      have hml2:(m++bitsL cn 4).length<=l.length+10*(i+1):=by rw [List.length_append,hb4];omega
      have HML:=hid hml2
      clear HEone HEzero HDr hz HE hml2 hb4
      go_wp2_with fail
      refine HP.out.mono ?_
      rintro e w3 ⟨rfl,bv3,hW3,hst3⟩
      go_wp2_with fail
      go_roundw
      case rel=>exact⟨i+1,bv3,_,by omega,by go_num,hW3,hst.trans hst3,HML.out,HE1⟩
      case measure=>simp [intOf];omega
  · obtain rfl:i=lens.length:=by omega
    have hnl:¬(lens.length:Int)<lens.length:=by omega
    have HE2:Hid (l++wrGo lens=m):=by show _=_;rw [HE.out,List.drop_length,wrGo_nil,List.append_nil]
    go_wp2_with fail
    go_ret
    exact⟨rfl,bv',by rw [HE2.out];exact hW,hst⟩
theorem KWrite_no(v:Value)(lens:List UInt8)(g:Nat)(w:World)(hs:See w eB v lens)(hn:lens.length<=300)(h15:∀ c∈lens,c.toNat<=15)(hok:okK lens=false) :
  Calls Tryz.prog 158 #[.pointer (some ⟨g,0,none⟩),v] w fun e w'=>e=.returned (.int .i64 7)/\Fr w w':=by
 have HCk:=hid (KCheck_any _ lens w hs hn h15)
 rw [hok]at HCk
 clear hs
 go_enter Tryz.func158, Tryz.ntmps158
 go_wp2_with fail
 refine HCk.out.mono ?_
 rintro e w1 ⟨rfl,hf1⟩
 go_wp2_with fail
 go_ret
 exact⟨rfl,hf1⟩
def cdR(lens:List UInt8)(l s:Nat):List Nat:=
 (List.range lens.length).map fun i=>if 1<=(lens.getD i 0).toNat/\((lens.getD i 0).toNat<l\/((lens.getD i 0).toNat=l/\i<s))then valK lens (lens.getD i 0).toNat i % 65536 else 0
def NxI(lens:List UInt8)(l s next was:Nat)(any:Bool):Prop:=
 (any=true/\was<=l/\(next+1)*2 ^ (l - was)=valK lens l s)\/(any=false/\next=0/\valK lens l s=0)
theorem NxI.start(lens:List UInt8):NxI lens 1 0 0 0 false:=.inr ⟨rfl,rfl,by rw [valK_zero];rfl⟩
theorem NxI.skip{lens:List UInt8}{l s next was:Nat}{any:Bool}(h:NxI lens l s next was any)(hs:s<lens.length)(hc:lens[s].toNat≠l):NxI lens l (s+1) next was any:=by
 have e:=valK_succ lens l s hs
 rw [if_neg hc,Nat.add_zero]at e
 unfold NxI;rw [e];exact h
theorem NxI.level{lens:List UInt8}{l next was:Nat}{any:Bool}(h:NxI lens l lens.length next was any)(hl:1<=l):NxI lens (l+1) 0 next was any:=by
 have e:=valK_end lens l hl
 unfold NxI;rw [e]
 rcases h with⟨h1,h2,h3⟩ | ⟨h1,h2,h3⟩
 · refine .inl ⟨h1,by omega,?_⟩
   rw [show l+1 - was=(l - was)+1 by omega,Nat.pow_succ,<- h3];simp [Nat.mul_comm,Nat.mul_left_comm]
 · exact .inr ⟨h1,h2,by rw [h3]⟩
abbrev rcB(t l s x:Value):Obj:=.cells #[t,l,s,x] 36 (0,0)
theorem recordT_any(B base:Nat)(s:Cs)(b:List UInt8)(w:World)(hc:CurF w 156 B base b s.at_ s.er)(hl:b.length<=1000000)(hb:base<=w.heap.size) :
  Calls Tryz.prog 177 #[.agg #[.pointer (some ⟨B,0,none⟩)],.bool true] w fun e w'=>e=.returned (recV (rdR true b s))/\CurF w' 156 B base b (rdX true b s).2.at_ (rdX true b s).2.er/\Chg (fun k=>k=B) w w':=by
 have HA1:Hid (∀ W,CurF W 156 B base b s.at_ s.er->Calls Tryz.prog 211 #[.pointer (some ⟨B,0,none⟩)] W fun e w'=>e=.returned (.int .u64 ((rdT true b s).1:Int))/\CurF w' 156 B base b (rdT true b s).2.at_ (rdT true b s).2.er/\Chg (fun b=>b=B) W w'):=fun W h=>Num_cur B base s b W h hl
 have HA2:Hid (∀ W,CurF W 156 B base b (rdT true b s).2.at_ (rdT true b s).2.er->base<=W.heap.size->Calls Tryz.prog 97 #[.pointer (some ⟨B,0,none⟩)] W fun e w'=>e=.returned (.int .u8 ((rdL true b s).1:Int))/\CurF w' 156 B base b (rdL true b s).2.at_ (rdL true b s).2.er/\Chg (fun b=>b=B) W w'):=fun W h h2=>Byte_cur B base (rdT true b s).2 b W h hl h2
 have HT1:Hid (∀ W,CurF W 156 B base b (rdL true b s).2.at_ (rdL true b s).2.er->Calls Tryz.prog 212 #[.pointer (some ⟨B,0,none⟩),N 4000] W fun e w'=>e=.returned (S (rdS true b s).1)/\CurF w' 156 B base b (rdS true b s).2.at_ (rdS true b s).2.er/\Chg (fun b=>b=B) W w'):=fun W h=>Text_cur 4000 (by decide) B base (rdL true b s).2 b W h hl
 have HT2:Hid (∀ W,CurF W 156 B base b (rdS true b s).2.at_ (rdS true b s).2.er->Calls Tryz.prog 212 #[.pointer (some ⟨B,0,none⟩),N 4000] W fun e w'=>e=.returned (S (rdX true b s).1)/\CurF w' 156 B base b (rdX true b s).2.at_ (rdX true b s).2.er/\Chg (fun b=>b=B) W w'):=fun W h=>Text_cur 4000 (by decide) B base (rdS true b s).2 b W h hl
 have hx1:(rdT true b s).1<18446744073709551616:=by
  show Cs.val _ _<_
  unfold Cs.val
  split
  · exact numL_lt _
  · decide
 have hx2:(rdL true b s).1<256:=UInt8.toNat_lt _
 have HR:Hid (recV (rdR true b s)=.agg #[.int .u64 ((rdT true b s).1:Int),.int .u8 ((rdL true b s).1:Int),S (rdS true b s).1,S (rdX true b s).1]):=by
  show Value.agg #[.int .u64 ((UInt64.ofNat (rdT true b s).1).toNat:Int),.int .u8 ((UInt8.ofNat (rdL true b s).1).toNat:Int),_,_]=_
  rw [UInt64.toNat_ofNat',UInt8.toNat_ofNat',Nat.mod_eq_of_lt hx1,Nat.mod_eq_of_lt hx2]
  rfl
 have hBw:=hc.lt
 obtain⟨g,hg⟩:∃ g,g=w.heap.size:=⟨_,rfl⟩
 obtain⟨W0,hW0⟩:∃ W0,W0=(w.alloc (.cells #[.pointer (some ⟨B,0,none⟩)] 285)).alloc (.cells #[.int .u64 0,.int .u8 0,.string ⟨#[]⟩,.string ⟨#[]⟩] 36):=⟨_,rfl⟩
 have hfa:Fr w (w.alloc (.cells #[.pointer (some ⟨B,0,none⟩)] 285)):=(Fr.refl w).alloc _
 have hf0:Fr w W0:=by rw [hW0];exact hfa.alloc _
 have hR0:W0.heap[g]? = some (.cells #[.pointer (some ⟨B,0,none⟩)] 285 (0,0)):=by rw [hW0,hg];exact((Fr.refl _).alloc _).heap (heap_new _ _ _ rfl)
 have hO0:W0.heap[g+1]? = some (rcB (.int .u64 0) (.int .u8 0) (.string ⟨#[]⟩) (.string ⟨#[]⟩)):=by rw [hW0,hg];exact heap_new _ _ _ (by simp)
 have hC0:=hc.fr hf0
 have hBg:B≠g:=by omega
 have hBo:B≠g+1:=by omega
 have c0:=cellx hR0 0 rfl
 have HA1a:=hid (HA1.out W0 hC0)
 have hbg:base<=g:=by omega
 clear hx1 hx2
 generalize (rdT true b s).1=t1 at *
 generalize (rdT true b s).2=q1 at *
 generalize (rdL true b s).1=t2 at *
 generalize (rdL true b s).2=q2 at *
 generalize (rdS true b s).1=x1 at *
 generalize (rdS true b s).2=s1 at *
 generalize (rdX true b s).1=x2 at *
 generalize (rdX true b s).2=s2 at *
 generalize recV (rdR true b s)=RV at *
 have HG:=hid hg
 have HW:=hid hW0
 clear hc hW0 HA1
 go_enter Tryz.func177, Tryz.ntmps177
 go_upto_region 5 with fail
 rw [<- HG.out,<- HW.out]
 clear hg
 go_wp2_with fail
 refine(HA1a.out).mono ?_
 rintro e w1 ⟨rfl,hC1,hc1⟩
 have hR1:=hc1.heap hR0 (fun e=>hBg e.symm)
 have hO1:=hc1.heap hO0 (fun e=>hBo e.symm)
 have z0:=frozen_of_heap hO1 0
 have d0:=cellx hO1 0 rfl
 have dr:=cellx hR1 0 rfl
 have hst:=setCell_chg w1 ⟨g+1,0,none⟩ (.int .u64 (t1:Int))
 have hO2:(w1.setCell ⟨g+1,0,none⟩ (.int .u64 (t1:Int))).heap[g+1]? = some (rcB (.int .u64 (t1:Int)) (.int .u8 0) (.string ⟨#[]⟩) (.string ⟨#[]⟩)):=heap_setCell_own hO1 0 _
 have hR2:=hst.heap hR1 (fun e=>by have e:g=g+1:=e;omega)
 have hC2:=hC1.box hO1 (by decide) hBo hst
 have hch2:=(hc1.mono (G':=fun k=>k=B\/k=g+1) (fun k hk h=>.inl h)).trans hst (fun _ _ h=>.inr h)
 clear hC1 hc1 HA1a c0 hst
 go_upto_region 5 with fail
 generalize hW2:w1.setCell ⟨g+1,0,none⟩ (.int .u64 (t1:Int))=W2 at *
 clear hW2 z0 d0 dr hR1 hO1
 have e2:=cellx hR2 0 rfl
 have hz2:base<=W2.heap.size:=by have:=(Array.getElem?_eq_some_iff.1 hO2).1;omega
 have HA2a:=hid (HA2.out W2 hC2 hz2)
 clear HA2 hC2
 go_wp2_with fail
 refine(HA2a.out).mono ?_
 rintro e w3 ⟨rfl,hC3,hc3⟩
 have hR3:=hc3.heap hR2 (fun e=>hBg e.symm)
 have hO3:=hc3.heap hO2 (fun e=>hBo e.symm)
 have z1:=frozen_of_heap hO3 1
 have d1:=cellx hO3 1 rfl
 have dr:=cellx hR3 0 rfl
 have hst:=setCell_chg w3 ⟨g+1,1,none⟩ (.int .u8 (t2:Int))
 have hO4:(w3.setCell ⟨g+1,1,none⟩ (.int .u8 (t2:Int))).heap[g+1]? = some (rcB (.int .u64 (t1:Int)) (.int .u8 (t2:Int)) (.string ⟨#[]⟩) (.string ⟨#[]⟩)):=heap_setCell_own hO3 1 _
 have hR4:=hst.heap hR3 (fun e=>by have e:g=g+1:=e;omega)
 have hC4:=hC3.box hO3 (by decide) hBo hst
 have hch4:=(hch2.trans hc3 (fun _ _ h=>.inl h)).trans hst (fun _ _ h=>.inr h)
 clear hC3 hc3 HA2a e2 hst hO2 hR2 hch2 hz2
 go_upto_region 5 with fail
 generalize hW4:w3.setCell ⟨g+1,1,none⟩ (.int .u8 (t2:Int))=W4 at *
 clear hW4 z1 d1 dr hR3 hO3
 have e4:=cellx hR4 0 rfl
 have HT1a:=hid (HT1.out W4 hC4)
 clear HT1 hC4
 go_wp2_with fail
 refine(HT1a.out).mono ?_
 rintro e w5 ⟨rfl,hC5,hc5⟩
 have hR5:=hc5.heap hR4 (fun e=>hBg e.symm)
 have hO5:=hc5.heap hO4 (fun e=>hBo e.symm)
 have z2:=frozen_of_heap hO5 2
 have d2:=cellx hO5 2 rfl
 have dr:=cellx hR5 0 rfl
 have hst:=setCell_chg w5 ⟨g+1,2,none⟩ (S x1)
 have hO6:(w5.setCell ⟨g+1,2,none⟩ (S x1)).heap[g+1]? = some (rcB (.int .u64 (t1:Int)) (.int .u8 (t2:Int)) (S x1) (.string ⟨#[]⟩)):=heap_setCell_own hO5 2 _
 have hR6:=hst.heap hR5 (fun e=>by have e:g=g+1:=e;omega)
 have hC6:=hC5.box hO5 (by decide) hBo hst
 have hch6:=(hch4.trans hc5 (fun _ _ h=>.inl h)).trans hst (fun _ _ h=>.inr h)
 clear hC5 hc5 HT1a e4 hst hO4 hR4 hch4
 go_upto_region 5 with fail
 generalize hW6:w5.setCell ⟨g+1,2,none⟩ (S x1)=W6 at *
 clear hW6 z2 d2 dr hR5 hO5
 have e6:=cellx hR6 0 rfl
 have HT2a:=hid (HT2.out W6 hC6)
 clear HT2 hC6
 go_wp2_with fail
 refine(HT2a.out).mono ?_
 rintro e w7 ⟨rfl,hC7,hc7⟩
 have hO7:=hc7.heap hO6 (fun e=>hBo e.symm)
 have z3:=frozen_of_heap hO7 3
 have d3:=cellx hO7 3 rfl
 have hst:=setCell_chg w7 ⟨g+1,3,none⟩ (S x2)
 have hO8:(w7.setCell ⟨g+1,3,none⟩ (S x2)).heap[g+1]? = some (rcB (.int .u64 (t1:Int)) (.int .u8 (t2:Int)) (S x1) (S x2)):=heap_setCell_own hO7 3 (S x2)
 have hC8:=hC7.box hO7 (by decide) hBo hst
 have hch8:=(hch6.trans hc7 (fun _ _ h=>.inl h)).trans hst (fun _ _ h=>.inr h)
 clear hC7 hc7 HT2a e6 hst hO6 hR6 hch6
 have hinf:(Tryz.prog.info? 36).map (·.size)=some 4:=by kernel_rfl
 have hone:(#[Value.int .u64 (t1:Int),.int .u8 (t2:Int),S x1,S x2]:Array Value).all (·.oneCell')=true:=by rw [List.all_toArray];rfl
 clear hO7
 have hst9:=setRow_chg (w7.setCell ⟨g+1,3,none⟩ (S x2)) (g+1) #[Value.int .u64 (t1:Int),.int .u8 (t2:Int),S x1,S x2]
 have hC9:=hC8.box hO8 (by decide) hBo hst9
 have hO9:=setRow_heap (w7.setCell ⟨g+1,3,none⟩ (S x2)) (g+1) _ #[Value.int .u64 (t1:Int),.int .u8 (t2:Int),S x1,S x2] _ _ hO8
 have hch9:=hch8.trans hst9 (fun _ _ h=>.inr h)
 have HF:Hid (Chg (fun k=>k=B) w ((w7.setCell ⟨g+1,3,none⟩ (S x2)).setRow (g+1) #[Value.int .u64 (t1:Int),.int .u8 (t2:Int),S x1,S x2])):=(hf0.chg (fun k=>k=B)).trans hch9 (fun k hk h=>by rcases h with h | h;exact h;rw [HG.out]at h;omega)
 go_wp2_with (first | (refine wpList_load_row rfl 36 (.tmp 4) rfl (g+1) rfl 36 #[.int .u64 (t1:Int),.int .u8 (t2:Int),S x1,S x2] (0,0) _ hO8 Tryz.underlying36 rfl hinf ?_) | (refine wpList_store_row rfl 36 (.tmp 4) (.tmp 22) rfl (g+1) #[.int .u64 (t1:Int),.int .u8 (t2:Int),S x1,S x2] rfl rfl 36 _ hO8 hinf rfl hone ?_))
 go_wp2_with fail
 (try simp only [Exit.inBlock,Exit.then])
 refine bodyPost_ret (v:=.agg #[.int .u64 (t1:Int),.int .u8 (t2:Int),S x1,S x2]) (results_cell_row Tryz.results177 _ _ (g+1) 36 #[.int .u64 (t1:Int),.int .u8 (t2:Int),S x1,S x2] (0,0) _ rfl hO9 Tryz.underlying36 rfl hinf) rfl ?_
 exact⟨by rw [HR.out],hC9,HF.out⟩
theorem QRead_any(wh:Bool)(HRec:Hid (∀ (B base:Nat) (s:Cs) (b:List UInt8) (W:World),CurF W 156 B base b s.at_ s.er->b.length<=1000000->base<=W.heap.size->Calls Tryz.prog 177 #[.agg #[.pointer (some ⟨B,0,none⟩)],.bool wh] W fun e w'=>e=.returned (recV (rdR wh b s))/\CurF w' 156 B base b (rdX wh b s).2.at_ (rdX wh b s).2.er/\Chg (fun k=>k=B) W w'))
  (v:Value) (b:List UInt8) (w:World) (hs:See w eB v b) (hl:b.length<=1000000) :
  Calls Tryz.prog 142 #[.bool wh,v] w fun e w'=>∃ u,e=.returned (.tuple #[u,.int .i64 ((recsL wh b).2:Int)])/\Ow w' w.heap.size eR u (recsL wh b).1/\Fr w w':=by
 have HNew:=hid (New_any v b w hs hl)
 have HRc:=hid (fun B s W h hb=>HRec.out B w.heap.size s b W h hl hb)
 have HLf:=hid (fun B n er W (h:CurF W 156 B w.heap.size b n er)=>Left_cur B w.heap.size n er b W h)
 have HEr:=hid (fun B n er W (h:CurF W 156 B w.heap.size b n er)=>CErr_any B w.heap.size n er b W h)
 have HEnd:=hid (recGo_end wh b)
 have HStep:=hid (recGo_step wh b)
 have HBad:=hid (recGo_bad wh b)
 have HUp:=hid (rd_up wh b)
 have HLe:=hid (rd_le wh b)
 have HR0:Hid (recsL wh b=recGo wh b b.length ⟨0,0⟩ []):=rfl
 generalize recsL wh b=R at *
 obtain⟨a0,cap,rfl,_⟩:=hs.shape
 clear hs
 have hinf:(Tryz.prog.info? 36).map (·.size)=some 4:=by kernel_rfl
 go_enter Tryz.func142, Tryz.ntmps142
 go_wp2_with fail
 refine(HNew.out).mono ?_
 rintro e w1 ⟨B,rfl,hC,hf1,hB⟩
 have hBw:=hC.lt
 have hg0:(w1.alloc (.cells #[.pointer (some ⟨B,0,none⟩)] 285)).heap[w1.heap.size]? = some (.cells #[.pointer (some ⟨B,0,none⟩)] 285 (0,0)):=heap_new _ _ _ rfl
 have hfa:Fr w1 (w1.alloc (.cells #[.pointer (some ⟨B,0,none⟩)] 285)):=(Fr.refl w1).alloc _
 have hC0:=hC.fr hfa
 have hf0:=hf1.trans hfa
 have hgw:w.heap.size<=w1.heap.size:=hf1.size
 go_upto_region 4 with fail
 generalize w1.alloc (.cells #[.pointer (some ⟨B,0,none⟩)] 285)=W0 at *
 generalize w1.heap.size=g at *
 clear hC hf1 hfa HNew
 have hBg:B≠g:=by omega
 go_loopw [7] (fun ov wr=>∃ (f:Nat) (s:Cs) (out:List Rec),s.er=0/\b.length<=f+s.at_/\out.length<=s.at_/\s.at_<=b.length/\Ow wr w.heap.size eR ov out/\CurF wr 156 B w.heap.size b s.at_ s.er/\wr.heap[g]? = some (.cells #[.pointer (some ⟨B,0,none⟩)] 285 (0,0))/\Hid (R=recGo wh b f s out)/\Fr w wr) (fun ov _=>b.length - (match ov with | .slice _ m _=>m | _=>0))
 case atStart=>exact⟨b.length,⟨0,0⟩,[],rfl,Nat.le_refl _,Nat.le_refl _,Nat.zero_le _,Ow.nil,hC0,hg0,HR0.out,hf0⟩
 case round=>
  clear hg0 hC0 hf0 HR0
  obtain⟨f,s,out,he,hfu,hol,hat,hO,hC,hG,HR,hf⟩:=hrel
  have c0:=cellx hG 0 rfl
  have HL1:=hid (HLf.out B _ _ wr hC)
  obtain⟨oa,oc,rfl⟩:=hO.shape'
  by_cases hlt:s.at_<b.length
  · obtain⟨f2,rfl⟩:∃ f2,f=f2+1:=by
      cases f with
      | zero=>omega
      | succ f2=>exact⟨f2,rfl⟩
    have i1:(0:Int)<(b.length:Int) - s.at_:=by omega
    go_wp2_with fail
    refine(HL1.out).mono ?_
    rintro e w2 ⟨rfl,hf2⟩
    have hC2:=hC.fr hf2
    have hG2:=hf2.heap hG
    have hO2:=hO.fr hf2
    have c2:=hf2.cell c0
    have hf02:=hf.trans hf2
    have HRc1:=hid (HRc.out B s w2 hC2 hf02.size)
    have hr1:((b.length - s.at_:Nat):Int)=(b.length:Int) - s.at_:=by omega
    have i2:(0:Int)<((b.length - s.at_:Nat):Int):=by omega
    generalize b.length - s.at_=m at *
    clear hO hC hG c0 hf hf2 HL1 i1 hr1
    go_wp2_with fail
    refine(HRc1.out).mono ?_
    rintro e w3 ⟨rfl,hC3,hc3⟩
    have hB3:=hC3.lt
    have hG3:=hc3.heap hG2 (fun e=>hBg e.symm)
    have hb3:=hC2.cbox
    have hO3 := hO2.chg hc3 (fun i hi e => by
     obtain ⟨cs, h5⟩ := hb3
     exact hO2.ne_cells h5 (by decide) (by rw [hi, show i = B from e]))
    have hf3:Fr w w3:=Chg.below hf02 hc3 hf02.size (fun i e=>by rw [show i=B from e];exact hB)
    have c3:=cellx hG3 0 rfl
    have hfb:Fr w3 (w3.alloc (.cells #[.int .u64 ((rdR wh b s).time.toNat:Int),Fk.u8 (rdR wh b s).level,S (rdR wh b s).source,S (rdR wh b s).text] 36)):=(Fr.refl w3).alloc _
    have hX4:(w3.alloc (.cells #[.int .u64 ((rdR wh b s).time.toNat:Int),Fk.u8 (rdR wh b s).level,S (rdR wh b s).source,S (rdR wh b s).text] 36)).heap[w3.heap.size]? = some (.cells #[.int .u64 ((rdR wh b s).time.toNat:Int),Fk.u8 (rdR wh b s).level,S (rdR wh b s).source,S (rdR wh b s).text] 36 (0,0)):=heap_new _ _ _ rfl
    have HU:=hid (fun h=>HUp.out s h)
    have HS1:=hid (fun h=>HStep.out f2 s out hlt h)
    have HB1:=hid (fun h=>HBad.out f2 s out hlt h)
    have HL1:=hid (HLe.out s hat)
    clear hC2 hG2 hO2 c2 hf02 hc3 hb3 HRc1
    generalize rdR wh b s=r at *
    generalize (rdX wh b s).2=s2 at *
    have hC4:=hC3.fr hfb
    have hG4:=hfb.heap hG3
    have hO4:=hO3.fr hfb
    have c4:=hfb.cell c3
    have hf4:=hf3.trans hfb
    have HE4:=hid (HEr.out B _ _ _ hC4)
    have hlo:out.length+[r].length<=2147483648:=by rw [show [r].length=1 from rfl];omega
    clear hC3 hG3 hO3 c3 hf3 hfb
    go_wp2_with fail
    refine(HE4.out).mono ?_
    rintro e w5 ⟨rfl,rfl⟩
    generalize w3.alloc (.cells #[.int .u64 (r.time.toNat:Int),Fk.u8 r.level,S r.source,S r.text] 36)=W4 at *
    generalize w3.heap.size=x3 at *
    by_cases he2:s2.er=0
    · have h0:((s2.er:Nat):Int)=0:=by omega
      have HS2:=hid (HS1.out he2)
      have hup:=(HU.out he2).2.1
      have hrs:(#[Value.int .u64 (r.time.toNat:Int),Fk.u8 r.level,S r.source,S r.text]:Array Value).size=4:=rfl
      rw [h0]
      clear HB1 HE4 h0 HU
      go_wp2_with (first | (refine wpList_load_row rfl 36 (.tmp 8) rfl x3 rfl 36 #[.int .u64 (r.time.toNat:Int),Fk.u8 r.level,S r.source,S r.text] (0,0) _ hX4 Tryz.underlying36 rfl hinf ?_) | (at_builtin;refine wpList_app1 eR rfl (.tmp 26) (.tmp 28) 24 rfl Tryz.underlying24 w.heap.size rfl hO4 [r] _ _ _ rfl rfl rfl hlo hf4.size ?_))
      intro v' w6 hap
      have hC6:=hC4.app hO4 hap (by decide) (by decide)
      have hG6:=hap.chg'.heap hG4 (hO4.ne_cells hG4 (by decide))
      have hf6:=hap.below hO4 hf4 (Nat.le_refl _) hf4.size
      have hO6:=hap.own
      obtain⟨va,vc,hv'⟩:=hO6.shape'
      rw [List.length_append,show [r].length=1 from rfl]at hv'
      subst hv'
      have HO6:=hid hO6
      clear hap hO6 hO4
      go_wp2_with fail
      go_roundw
      case rel=>exact⟨f2,s2,out++[r],he2,by omega,by rw [List.length_append];simp;omega,HL1.out,HO6.out,hC6,hG6,by show _=_;rw [HR.out,HS2.out],hf6⟩
      case measure=>simp;omega
    · have h0:¬((s2.er:Nat):Int)=0:=by omega
      have HB2:=hid (HB1.out he2)
      clear HS1 HE4 HU he2 HL1
      go_wp2_with fail
      go_ret2
      rw [HR.out,HB2.out]
      exact⟨_,rfl,Ow.nil,hf4⟩
  · have i1:¬(0:Int)<(b.length:Int) - s.at_:=by omega
    have hm:b.length - s.at_=0:=by omega
    have HE2:=hid (HEnd.out f s out (by omega) he)
    rw [hm]at HL1
    clear hm
    go_wp2_with fail
    refine(HL1.out).mono ?_
    rintro e w2 ⟨rfl,hf2⟩
    have hO2:=hO.fr hf2
    have hf02:=hf.trans hf2
    go_wp2_with fail
    go_ret2
    rw [HR.out,HE2.out]
    exact⟨_,rfl,hO2,hf02⟩
theorem QReadT_any(v:Value)(b:List UInt8)(w:World)(hs:See w eB v b)(hl:b.length<=1000000) :
  Calls Tryz.prog 142 #[.bool true,v] w fun e w'=>∃ u,e=.returned (.tuple #[u,.int .i64 ((recsL true b).2:Int)])/\Ow w' w.heap.size eR u (recsL true b).1/\Fr w w':=
 QRead_any true (fun B base s b W h hl hb=>recordT_any B base s b W h hl hb) v b w hs hl
end Go.Proofs.YtdagmoonnbnceaaGreatDoor
