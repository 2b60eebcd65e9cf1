/- Parts of the proof of ArchVersions: K3 H1. -/
import Derived.Test.YtghcmindankceaaGreatDoorM25
import Derived.Test.YtghcmindankceaaGreatDoorM17
import Derived.Test.YtghcmindankceaaGreatDoorM07
import Derived.Test.YtghcmindankceaaGreatDoorM16
import Derived.Test.YtghcmindankceaaGreatDoorM04
set_option linter.unusedVariables false
set_option linter.unusedSectionVars false
set_option linter.unusedSimpArgs false
set_option maxHeartbeats 8000000
namespace Go.Proofs.YtghcmindankceaaGreatDoor
open Go.RowKit Go.Fk
abbrev fstA(lens:List UInt8)(s:Nat):Nat->Int:=fun l=>((if l=0 then 0 else valK lens l s:Nat):Int)
theorem zero17:(#[.int .i64 0,.int .i64 0,.int .i64 0,.int .i64 0,.int .i64 0,.int .i64 0,.int .i64 0,.int .i64 0,.int .i64 0,.int .i64 0,.int .i64 0,.int .i64 0,.int .i64 0,.int .i64 0,.int .i64 0,.int .i64 0,.int .i64 0]:Array Value)=arrI 17 (fun _=>0):=rfl
theorem u16_val(x:Nat):IntKind.u16.wrap (x:Int)=((x % 65536:Nat):Int):=by
 simp only [IntKind.wrap,IntKind.bits,IntKind.signed]
 simp
set_option maxRecDepth 100000
theorem Codes_any (v : Value) (lens : List UInt8) (w : World) (hs : See w eB v lens) (hn : lens.length ≤ 300) (h15 : ∀ c ∈ lens, c.toNat ≤ 15) :
    Calls Tryz.prog 338 #[v] w fun e w'=>(okK lens=true->∃ v',e=.returned (.tuple #[v',.int .i64 0])/\Ow w' w.heap.size eU v' (codesK lens))/\(okK lens=false->e=.returned (.tuple #[.slice none 0 0,.int .i64 7]))/\Fr w w':=by
  obtain⟨a,cap,hv,hcap1,hcap2,hnone⟩:=hs.shape
  subst hv
  unfold maxLen at hcap2
  have HCk:=hid (KCheck_any _ lens w hs hn h15)
  have HCo:=hid (fun W h=>count_any (.slice a lens.length cap) lens W h hn h15)
  have hsz:(arrI 16 (cntZ lens)).size=16:=arrI_size _ _
  have hone:=arrI_one 16 (cntZ lens)
  have hinf:(Tryz.prog.info? 446).map (·.size)=some (arrI 16 (cntZ lens)).size:=by rw [hsz];kernel_rfl
  cases hok:okK lens with
  | false=>
    rw [hok]at HCk
    go_enter Tryz.func338, Tryz.ntmps338
    go_wp2_with fail
    refine HCk.out.mono ?_
    rintro e w1 ⟨rfl,hf1⟩
    go_wp2_with fail
    go_ret2
    exact⟨fun h=>by simp at h,fun _=>rfl,hf1⟩
  | true=>
    rw [hok]at HCk
    go_enter Tryz.func338, Tryz.ntmps338
    go_wp2_with fail
    refine HCk.out.mono ?_
    rintro e w1 ⟨rfl,hf1⟩
    go_upto_region 4 with fail
    have hs1:=hs.fr hf1
    have HCo1:=hid (HCo.out w1 hs1)
    have hR1:∀ l,l<16->(arrI 16 (cntZ lens))[l]?=some (.int .i64 (cntZ lens l)):=fun l h=>arrI_at 16 _ l h
    have HR1:=hid hR1
    clear hR1 HCo HCk
    generalize arrI 16 (cntZ lens)=R at *
    go_wp2_with fail
    refine HCo1.out.mono ?_
    rintro e w2 ⟨rfl,hf2⟩
    have h0:(w2.alloc (.cells (arrI 16 (fun _=>0)) 446)).heap[w2.heap.size]?=some (.cells (arrI 16 (fun _=>0)) 446 (0,0)):=heap_new _ _ _ rfl
    have hF0:Fr w2 (w2.alloc (.cells (arrI 16 (fun _=>0)) 446)):=(Fr.refl w2).alloc _
    rw [<- zero16]at h0 hF0
    go_upto_region 5 with(refine wpList_store_row rfl 446 (.tmp 5) (.tmp 20) rfl w2.heap.size R rfl rfl 446 _ h0 hinf (by rw [hsz];rfl) hone ?_)
    have h1:=setRow_heap _ w2.heap.size _ R 446 (0,0) h0
    have hF1:Fr w2 (World.setRow _ w2.heap.size R):=Chg.below hF0 (setRow_chg _ w2.heap.size R) hF0.size (fun k hk=>Nat.le_of_eq hk.symm)
    generalize hW2:World.setRow _ w2.heap.size R=w3 at *
    clear hW2 h0 hF0 hone hinf hsz HCo1
    have hff:=(hf1.trans hf2).trans hF1
    have hB:(w3.alloc (.cells (arrI 17 (fun _=>0)) 450)).heap[w3.heap.size]?=some (.cells (arrI 17 (fun _=>0)) 450 (0,0)):=heap_new _ _ _ rfl
    have hF3:Fr w3 (w3.alloc (.cells (arrI 17 (fun _=>0)) 450)):=(Fr.refl w3).alloc _
    have hA0:ArrI (w3.alloc (.cells (arrI 17 (fun _=>0)) 450)) w3.heap.size 450 17 (fun j=>if j<=1 then((firstK lens j:Nat):Int)else 0):=by
      unfold ArrI; rw [hB, arrI_congr (f' := fun j => if j ≤ 1 then ((firstK lens j : Nat) : Int) else 0) fun j _ => by
        show (0 : Int) = _
        by_cases h : j ≤ 1
        · rw [if_pos h]
          have : j = 0 ∨ j = 1 := by omega
          rcases this with rfl | rfl <;> rfl
        · rw [if_neg h]]
    have h3:=hF3.heap h1
    have hlt:w2.heap.size<w3.heap.size:=(Array.getElem?_eq_some_iff.1 h1).1
    rw [<- zero17]at hF3 hA0 h3
    clear hB h1
    go_upto_region 6 with fail
    generalize hW4:w3.alloc (.cells _ 450)=w4 at *
    clear hW4
    have HN:Hid (∀ W,Chg (fun k=>k=w3.heap.size) w4 W->∀ l,l<16->W.cell? ⟨w2.heap.size,l,none⟩=some (.int .i64 (cntZ lens l))):=fun W h l hl=>by
      rw [cell_of_heap (h.heap h3 (by omega))];exact HR1.out l hl
    have HSee:Hid (∀ W,Chg (fun k=>k=w3.heap.size) w4 W->See W eB (.slice a lens.length cap) lens):=fun W h=>
      hs.fr (Chg.below (hff.trans hF3) h (hff.trans hF3).size (fun i hi=>by rw [hi];exact hff.size))
    have hFw:Fr w w4:=hff.trans hF3
    have hgg:=hff.size
    have hgl:=hA0.lt
    have HF1:=hid (fun l=>firstK_le lens l)
    have HFs:=hid (fun l h=>firstK_succ lens l h)
    have HCl:=hid (fun l=>cntK_le lens l)
    clear HR1 h3 hs hs1 hf1 hf2 hF1 hff hF3
    generalize hg:w3.heap.size=g at *
    clear hg
    go_wp2_with fail
    go_loopw [8] (fun iv wr=>∃ l:Nat,1<=l/\l<=16/\iv=N l/\ArrI wr g 450 17 (fun j=>if j<=l then((firstK lens j:Nat):Int)else 0)/\Chg (fun k=>k=g) w4 wr) (fun iv _=>16 - (intOf iv).toNat)
    case atStart=>exact⟨1,Nat.le_refl _,by omega,rfl,hA0,Chg.refl _ _⟩
    case round=>
      clear hA0
      obtain⟨l,hl1,hl2,rfl,hA,hc⟩:=hrel
      by_cases hlt2:l<16
      · have hlt2':(l:Int)<16:=by omega
        have e1:wr.cell? ⟨g,l,none⟩=some (.int .i64 ((firstK lens l:Nat):Int)):=hA.cell' l (by omega) (if_pos (Nat.le_refl _))
        have e2:wr.cell? ⟨w2.heap.size,l,none⟩=some (.int .i64 ((cntK lens l:Nat):Int)):=by
          have:=HN.out wr hc l hlt2
          rw [this];simp [cntZ];omega
        have e3:=hA.frozen (l+1)
        have e4:=hA.cell (l+1) (by omega)
        have hfl:firstK lens l<=40000000:=by
          have h1:=HF1.out l
          have h2:(2:Nat) ^ (l+1)<=65536*2:=Nat.le_trans (Nat.pow_le_pow_right (by omega) (show l+1<=17 by omega)) (by decide)
          have h3:lens.length*2 ^ (l+1)<=300*(65536*2):=Nat.mul_le_mul hn h2
          omega
        have hcl:=HCl.out l
        have HSet:=hid (hA.set (l+1) (((2*(firstK lens l+cntK lens l):Nat)):Int))
        have HS2:Hid (ArrI (wr.setCell ⟨g,l+1,none⟩ (.int .i64 (((2*(firstK lens l+cntK lens l):Nat)):Int))) g 450 17 (fun j=>if j<=l+1 then((firstK lens j:Nat):Int)else 0)):=HSet.out.congr fun j hj=>by
          show(if j=l+1 then _ else if j<=l then _ else _)=_
          by_cases h:j=l+1
          · subst h;rw [if_pos rfl,if_pos (Nat.le_refl _),HFs.out l hl1]
          · rw [if_neg h]
            by_cases h2:j<=l
            · rw [if_pos h2,if_pos (by omega)]
            · rw [if_neg h2,if_neg (by omega)]
        clear HSet
        generalize firstK lens l=fl at *
        generalize cntK lens l=cl at *
        have i1:(0:Int)<=l:=by omega
        have i2:l<16:=hlt2
        have i3:(0:Int)<=(l:Int)+1:=by omega
        have i4:(l:Int)+1<17:=by omega
        have i5:(l:Int)<17:=by omega
        have hsm:IntKind.i64.wrap ((fl:Int)+cl)=((fl+cl:Nat):Int):=by rw [IntWalk.i64_in _ (by omega)];omega
        have hdb:IntKind.i64.wrap (((fl+cl:Nat):Int)*2)=((2*(fl+cl):Nat):Int):=by rw [IntWalk.i64_in _ (by omega)];omega
        generalize hmu:2*(fl+cl)=mu at *
        generalize hsu:fl+cl=su at *
        have hmb:mu<=90000000:=by omega
        have hll:w2.heap.size≠g:=by omega
        clear hmu hsu
        go_upto_region 9 with fail
        go_region
        all_goals go_wp2_with fail
        all_goals go_roundw
        case rel=>exact⟨l+1,by omega,by omega,by go_num,HS2.out.fr (Fr.drew (Fr.refl _)),hc.trans ((setCell_chg wr ⟨g,l+1,none⟩ _).trans ((Fr.drew (Fr.refl _)).chg (fun k=>k=g)) (fun _ _ h=>h)) (fun _ _ h=>h)⟩
        case measure=>simp [intOf];omega
      · obtain rfl:l=16:=by omega
        have hnl:¬(16:Int)<16:=by omega
        have hA2:ArrI wr g 450 17 (fstA lens 0):=hA.congr fun j hj=>by
          show(if j<=16 then _ else _)=_
          rw [if_pos (by omega)]
          show((firstK lens j:Nat):Int)=((if j=0 then 0 else valK lens j 0:Nat):Int)
          by_cases h:j=0
          · subst h;rfl
          · rw [if_neg h,valK_zero]
        have hmk:=made_run eU rfl rfl 258 Tryz.underlying258 .i64 .i64 lens.length (by omega)
        have HOw:=hid (made_own (base:=w4.heap.size) eU rfl rfl lens.length (by omega) wr hc.size)
        have hFx:Fr wr (wr.alloc (.cells (madeCells #[eU.z] lens.length) eU.e)):=(Fr.refl wr).alloc _
        have hA3:=hA2.fr hFx
        have hcx:=hc.trans (hFx.chg (fun k=>k=g)) (fun _ _ h=>h)
        have hszw:=hc.size
        have hRl:=codesK_len lens
        have HRat:=hid (fun s h=>codesK_at lens s h)
        have HVs:=hid (fun l s h=>valK_succ lens l s h)
        have HVl:=hid (fun l s h=>valK_le lens l s h hn)
        rw [show(eU:Elt Tryz.prog Nat).e=266 from rfl]at *
        generalize madeCells #[eU.z] lens.length=T0 at *
        go_wp2_with fail
        generalize hW5:wr.alloc (.cells T0 266)=w5 at *
        clear hW5 hFx hA hA2 hc
        generalize hq0:wr.heap.size=q at *
        clear hq0
        have hO0:=HOw.out
        clear HOw hmk
        go_loopw [42] (fun iv wr=>∃ s:Nat,s<=lens.length/\iv=N s/\ArrI wr g 450 17 (fstA lens s)/\Ow wr w4.heap.size eU (.slice (some ⟨q,0,none⟩) lens.length lens.length) ((codesK lens).take s++List.replicate (lens.length - s) 0)/\Chg (fun k=>k=g) w4 wr) (fun iv _=>lens.length - (intOf iv).toNat)
        case atStart=>exact⟨0,Nat.zero_le _,rfl,hA3,by simp only [List.take_zero,List.nil_append,Nat.sub_zero];exact hO0,hcx⟩
        case round=>
          clear hA3 hcx hO0
          obtain⟨s,hs,rfl,hA,hO,hc⟩:=hrel
          by_cases hsl:s<lens.length
          · obtain⟨b,off,cap',hv,c0⟩:=(HSee.out wr hc).cell1 (fun c=>Fk.u8 c) rfl s hsl
            have h15s:=h15 _ (List.getElem_mem hsl)
            have HRs:=hid (HRat.out s hsl)
            have HVn:=hid (fun l=>HVs.out l s hsl)
            have hz:lens[s]=0↔lens[s].toNat=0:=⟨fun e=>by rw [e];rfl,fun e=>UInt8.toNat_inj.1 (by simpa using e)⟩
            generalize lens[s]=c at *
            cases hv
            have hlen:((codesK lens).take s++List.replicate (lens.length - s) 0).length=lens.length:=fill_len _ _ _ _ hRl hs
            have HFil:=hid (fun x hx=>fill_set (codesK lens) 0 lens.length s hRl hsl x hx)
            generalize hcn:c.toNat=cn at *
            have i1:(0:Int)<=s:=by omega
            have i2:(s:Int)<lens.length:=by omega
            by_cases hc0:cn=0
            · have hc0':¬(0:Int)<cn:=by omega
              have hA2:ArrI wr g 450 17 (fstA lens (s+1)):=hA.congr fun j hj=>by
                show((if j=0 then 0 else valK lens j s:Nat):Int)=((if j=0 then 0 else valK lens j (s+1):Nat):Int)
                by_cases h:j=0
                · rw [if_pos h,if_pos h]
                · rw [if_neg h,if_neg h,HVn.out j,if_neg (by omega)];rfl
              have HO2:Hid (Ow wr w4.heap.size eU (.slice (some ⟨q,0,none⟩) lens.length lens.length) ((codesK lens).take (s+1)++List.replicate (lens.length - (s+1)) 0)):=by
                have h1:=HFil.out 0 (by rw [HRs.out,if_pos (hz.2 hc0)])
                show Ow _ _ _ _ _
                rw [<- h1]
                have h2:((codesK lens).take s++List.replicate (lens.length - s) 0).set s 0=(codesK lens).take s++List.replicate (lens.length - s) 0:=by
                  rw [List.set_append_right _ _ (by rw [List.length_take];omega),show lens.length - s=(lens.length - (s+1))+1 by omega,List.replicate_succ]
                  have:s - ((codesK lens).take s).length=0:=by rw [List.length_take];omega
                  rw [this];rfl
                rw [h2];exact hO
              clear HFil HRs HVn hO hA
              subst hc0
              go_wp2_with fail
              go_roundw
              case rel=>exact⟨s+1,by omega,by go_num,hA2,HO2.out,hc⟩
              case measure=>simp [intOf];omega
            · have hc0':(0:Int)<cn:=by omega
              have hvl:=HVl.out cn s (by omega)
              have e1:wr.cell? ⟨g,cn,none⟩=some (.int .i64 ((valK lens cn s:Nat):Int)):=hA.cell' cn (by omega) (by simp [fstA,hc0])
              have e2:=hA.frozen cn
              obtain⟨d1,d2⟩:=hO.cellAt (fun n:Nat=>Value.int .u16 (n:Int)) rfl s (by rw [hlen];exact hsl)
              have HS1:=hid (hO.set (fun n:Nat=>Value.int .u16 (n:Int)) rfl s (by rw [hlen];exact hsl) (valK lens cn s % 65536) (.int .u16 ((valK lens cn s % 65536:Nat):Int)) rfl)
              have hcv:(codesK lens)[s]'(by rw [hRl];exact hsl)=valK lens cn s % 65536:=by rw [HRs.out,if_neg (fun e=>hc0 (hz.1 e))]
              rw [HFil.out _ hcv]at HS1
              have HA1:=hid ((hA.chg (setCell_chg wr ⟨q,s,none⟩ (.int .u16 ((valK lens cn s % 65536:Nat):Int))) (by show ¬g=q;omega)).set cn (((valK lens cn s:Nat):Int)+1))
              have HA2:Hid (ArrI ((wr.setCell ⟨q,s,none⟩ (.int .u16 ((valK lens cn s % 65536:Nat):Int))).setCell ⟨g,cn,none⟩ (.int .i64 (((valK lens cn s:Nat):Int)+1))) g 450 17 (fstA lens (s+1))):=HA1.out.congr fun j hj=>by
                show(if j=cn then _ else((if j=0 then 0 else valK lens j s:Nat):Int))=((if j=0 then 0 else valK lens j (s+1):Nat):Int)
                by_cases h:j=cn
                · rw [if_pos h,if_neg (by omega),HVn.out j,if_pos h.symm,h];rfl
                · rw [if_neg h]
                  by_cases h0:j=0
                  · rw [if_pos h0,if_pos h0]
                  · rw [if_neg h0,if_neg h0,HVn.out j,if_neg (Ne.symm h)];rfl
              have HO2:=hid (own_set_other (r:=g) (i:=cn) (u:=.int .i64 (((valK lens cn s:Nat):Int)+1)) HS1.out hgl)
              have HCh:Hid (Chg (fun k=>k=g) w4 ((wr.setCell ⟨q,s,none⟩ (.int .u16 ((valK lens cn s % 65536:Nat):Int))).setCell ⟨g,cn,none⟩ (.int .i64 (((valK lens cn s:Nat):Int)+1)))):=
                (hc.trans (setCell_chg wr ⟨q,s,none⟩ _) (fun i hi e=>by exfalso;have:i=q:=e;omega)).trans (setCell_chg _ ⟨g,cn,none⟩ _) (fun _ _ h=>h)
              have hu:=u16_val (valK lens cn s)
              have e3:(wr.setCell ⟨q,s,none⟩ (.int .u16 ((valK lens cn s % 65536:Nat):Int))).cell? ⟨g,cn,none⟩=some (.int .i64 ((valK lens cn s:Nat):Int)):=
                ((hA.chg (setCell_chg wr ⟨q,s,none⟩ (.int .u16 ((valK lens cn s % 65536:Nat):Int))) (by show ¬g=q;omega))).cell' cn (by omega) (by simp [fstA,hc0])
              clear HS1 HA1 HFil HVn HRs hA hO hc hcv
              generalize valK lens cn s % 65536=vm at *
              generalize valK lens cn s=vv at *
              have i3:(0:Int)<=cn:=by omega
              have i4:(cn:Int)<17:=by omega
              have i5:cn<17:=by omega
              have i6:q≠g:=by omega
              have i7:g≠q:=by omega
              go_wp2_with fail
              go_roundw
              case rel=>exact⟨s+1,by omega,by go_num,HA2.out,HO2.out,HCh.out⟩
              case measure=>simp [intOf];omega
          · obtain rfl:s=lens.length:=by omega
            have hnl2:¬(lens.length:Int)<lens.length:=by omega
            have e:(codesK lens).take lens.length++List.replicate (lens.length - lens.length) 0=codesK lens:=by rw [Nat.sub_self,List.replicate_zero,List.append_nil,<- hRl,List.take_length]
            rw [e]at hO
            go_wp2_with fail
            go_ret2
            refine⟨⟨_,rfl,hO.rebase hFw.size⟩,Chg.below hFw hc hFw.size (fun i hi=>by rw [hi];exact hgg)⟩
set_option maxRecDepth 512
structure HufAt (w:World) (base g:Nat) (lens:List UInt8) (s:Nat) (c:Nat->Value):Prop where
 arr:ArrV w g 390 50 c
 own0:Ow w base eB (c 0) lens
 own1:Ow w base eU (c 1) (codesK lens)
 first:∀ l,1<=l->l<16->c (2+l)=N (fM lens s l)
 many:∀ l,1<=l->l<16->c (18+l)=N (cntK (lens.take s) l)
 syms:∀ l,1<=l->l<16->Ow w base eJ (c (34+l)) (sM lens s l)
 apart:∀ j k,1<=j->j<16->1<=k->k<16->j≠k->(c (34+j)).ownBlock=none\/(c (34+j)).ownBlock≠(c (34+k)).ownBlock
 up:base<=g
theorem huf_step{w0 w W3 w4:World}{base g s cn:Nat}{lens:List UInt8}{c c2:Nat->Value}{v':Value}(hH:HufAt w base g lens s c)(hf:Fr w0 w)(hb0:w0.heap.size<=base)(hg:base<=g)(hlt:s<lens.length)(hcn:lens[s].toNat=cn)(h1:1<=cn)(h2:cn<16)
  (hA:ArrV W3 g 390 50 c2) (hch:Chg (fun k=>k=g) w W3) (e1:c2 (2+cn)=N (firstK lens cn % 65536)) (e2:c2 (18+cn)=N (cntK (lens.take s) cn+1))
  (e3:∀ i,i≠2+cn->i≠18+cn->c2 i=c i) (hap:App base eJ (sM lens s cn++[s]) W3 (c (34+cn)) v' w4) :
  HufAt (w4.setCell ⟨g,34+cn,none⟩ v') base g lens (s+1) (fun j=>if j=34+cn then v' else c2 j)/\Fr w0 (w4.setCell ⟨g,34+cn,none⟩ v'):=by
 have hs0:=hH.syms cn h1 h2
 have hsv:=hs0.keepG hH.arr (by decide) hch
 have hA4:ArrV w4 g 390 50 c2:=hA.chg hap.chg' (fun e=>hsv.ne_cells hA (by decide) e)
 have hc5:Chg (fun k=>k=g) w4 (w4.setCell ⟨g,34+cn,none⟩ v'):=setCell_chg w4 ⟨g,34+cn,none⟩ v'
 have hgn:(c (34+cn)).ownBlock≠some g:=hsv.ne_cells hA (by decide)
 refine⟨⟨hA4.set _ _,?_,?_,?_,?_,?_,?_,hg⟩,?_⟩
 · rw [if_neg (by omega),e3 0 (by omega) (by omega)]
   have h3:=hH.own0.keepG hH.arr (by decide) hch
   exact(hap.other h3 (own_ne h3 hsv (by decide))).keepG hA4 (by decide) hc5
 · rw [if_neg (by omega),e3 1 (by omega) (by omega)]
   have h3:=hH.own1.keepG hH.arr (by decide) hch
   exact(hap.other h3 (own_ne h3 hsv (by decide))).keepG hA4 (by decide) hc5
 · intro l l1 l2
   rw [if_neg (by omega),fM_succ lens s l hlt,hcn]
   by_cases e:l=cn
   · subst e;rw [if_pos rfl,e1]
   · rw [if_neg (fun h=>e h.symm),e3 _ (by omega) (by omega)];exact hH.first l l1 l2
 · intro l l1 l2
   rw [if_neg (by omega),cntK_take lens s l hlt,hcn]
   by_cases e:l=cn
   · subst e;rw [if_pos rfl,e2]
   · rw [if_neg (fun h=>e h.symm),e3 _ (by omega) (by omega)];exact hH.many l l1 l2
 · intro l l1 l2
   rw [sM_succ lens s l hlt,hcn]
   by_cases e:l=cn
   · subst e;rw [if_pos rfl,if_pos rfl];exact hap.own.keepG hA4 (by decide) hc5
   · rw [if_neg (by omega),if_neg (fun h=>e h.symm),List.append_nil,e3 _ (by omega) (by omega)]
     have h3:=(hH.syms l l1 l2).keepG hH.arr (by decide) hch
     exact(hap.other h3 (hH.apart l cn l1 l2 h1 h2 e)).keepG hA4 (by decide) hc5
 · intro j k j1 j2 k1 k2 hjk
   by_cases e:j=cn
   · subst e
     rw [if_pos rfl,if_neg (by omega),e3 _ (by omega) (by omega)]
     cases hv:v'.ownBlock with
     | none=>exact .inl rfl
     | some b=>
      refine .inr fun he=>?_
      rcases hap.fresh b hv with h | h
      · rcases hH.apart j k j1 j2 k1 k2 hjk with h5 | h5
        · rw [h5]at h;cases h
        · exact h5 (h.trans he)
      · have h3:=(hH.syms k k1 k2).keepG hH.arr (by decide) hch
        have:=(h3.lt b he.symm).2
        omega
   · rw [if_neg (by omega),e3 _ (by omega) (by omega)]
     by_cases e':k=cn
     · subst e'
       rw [if_pos rfl]
       cases hv:v'.ownBlock with
       | none=>
        cases hv2:(c (34+j)).ownBlock with
        | none=>exact .inl rfl
        | some b=>exact .inr (by simp)
       | some b=>
        rcases hap.fresh b hv with h | h
        · rcases hH.apart j k j1 j2 k1 k2 hjk with h5 | h5
          · exact .inl h5
          · exact .inr (by rw [<- h];exact h5)
        · refine .inr fun he=>?_
          have h3:=(hH.syms j j1 j2).keepG hH.arr (by decide) hch
          have:=(h3.lt b he).2
          omega
     · rw [if_neg (by omega),e3 _ (by omega) (by omega)];exact hH.apart j k j1 j2 k1 k2 hjk
 · have h3:Fr w0 W3:=Chg.below hf hch hf.size (fun i e=>by omega)
   exact set_below (hap.below hsv h3 hb0 h3.size) (by omega) (Nat.le_trans h3.size hap.size)
def hC0(u v:Value)(i:Nat):Value:=if i=0 then u else if i=1 then v else if i<34 then N 0 else .slice none 0 0
set_option maxRecDepth 100000
theorem HNew_any (v : Value) (lens : List UInt8) (w : World) (hs : See w eB v lens) (hn : lens.length ≤ 300) (h15 : ∀ c ∈ lens, c.toNat ≤ 15) (hok : okK lens = true) :
    Calls Tryz.prog 303 #[v] w fun e w'=>∃ g c,e=.returned (.tuple #[.pointer (some ⟨g,0,none⟩),.int .i64 0])/\HufAt w' w.heap.size g lens lens.length c/\Fr w w':=by
  have HC:=hid (Codes_any _ lens w hs hn h15)
  have HS:=hid (fun W (h:Fr w W)=>hs.fr h)
  obtain⟨a,cap,hv,hcap1,hcap2,hnone⟩:=hs.shape
  subst hv
  unfold maxLen at hcap2
  clear hs
  have HCl:=hid (fun W (h:See W eB _ lens)=>BClone_any (.slice a lens.length cap) lens W h (by omega))
  go_enter Tryz.func303, Tryz.ntmps303
  go_wp2_with fail
  refine HC.out.mono ?_
  rintro e w1 ⟨ht,_,hf1⟩
  obtain⟨cv,rfl,hcv⟩:=ht hok
  obtain⟨ca,cc,hcv'⟩:=hcv.shape'
  rw [codesK_len]at hcv'
  subst hcv'
  have HCl1:=hid (HCl.out w1 (HS.out w1 hf1))
  go_wp2_with fail
  refine HCl1.out.mono ?_
  rintro e w2 ⟨lv,rfl,hlv,hf2⟩
  obtain⟨la,lc,hlv'⟩:=hlv.shape'
  subst hlv'
  go_wp2_with fail
  go_loopw [25] (fun iv wr=>∃ (s:Nat) (c:Nat->Value),s<=lens.length/\iv=N s/\HufAt wr w.heap.size w2.heap.size lens s c/\Hid (c 0=.slice la lens.length lc/\c 1=.slice ca lens.length cc)/\Fr w wr) (fun iv _=>lens.length - (intOf iv).toNat)
  case atStart=>
    refine⟨0,hC0 (.slice la lens.length lc) (.slice ca lens.length cc),Nat.zero_le _,rfl,⟨?_,?_,?_,?_,?_,?_,?_,?_⟩,⟨rfl,rfl⟩,((hf1.trans hf2).alloc _)⟩
    · exact heap_new _ _ _ rfl
    · exact(hlv.rebase hf1.size).fr ((Fr.refl w2).alloc _)
    · exact(hcv.fr hf2).fr ((Fr.refl w2).alloc _)
    · intro l h1 h2;rw [fM_zero];unfold hC0;rw [if_neg (by omega),if_neg (by omega),if_pos (by omega)]
    · intro l h1 h2;rw [List.take_zero,cntK_nil];unfold hC0;rw [if_neg (by omega),if_neg (by omega),if_pos (by omega)]
    · intro l h1 h2;rw [sM_zero];unfold hC0;rw [if_neg (by omega),if_neg (by omega),if_neg (by omega)];exact Ow.nil
    · intro j k h1 h2 _ _ _;unfold hC0;rw [if_neg (by omega),if_neg (by omega),if_neg (by omega)];exact .inl rfl
    · exact Nat.le_trans hf1.size hf2.size
  case round=>
    obtain⟨s,c,hsl,rfl,hH,HCC,hf⟩:=hrel
    by_cases hlt:s<lens.length
    · obtain⟨b,off,cap',hv,c0⟩:=bAt (HS.out wr hf) s hlt
      have h15i:=h15 _ (List.getElem_mem hlt)
      have hz:=hid (u8_zero lens[s])
      have HcM:=hid (fun l=>cntK_take lens s l hlt)
      have HsM:=hid (fun l=>sM_succ lens s l hlt)
      have HfM:=hid (fun l=>fM_succ lens s l hlt)
      have HfC:=hid (first_code lens s hlt)
      have HfS:=hid (first_stays lens s)
      generalize hc:lens[s]=x at *
      cases hv
      replace c0:wr.cell? ⟨b,off+s,none⟩=some (.int .u8 ((x.toNat:Nat):Int)):=c0
      generalize hcn:x.toNat=cn at *
      have i1:(0:Int)<=s:=by omega
      have i2:(s:Int)<lens.length:=by omega
      by_cases hx:cn=0
      · subst hx
        have HN:Hid (HufAt wr w.heap.size w2.heap.size lens (s+1) c):=by
          refine⟨hH.arr,hH.own0,hH.own1,fun l h1 h2=>?_,fun l h1 h2=>?_,fun l h1 h2=>?_,hH.apart,hH.up⟩
          · rw [HfM.out,if_neg (by omega)];exact hH.first l h1 h2
          · rw [HcM.out,if_neg (by omega)];exact hH.many l h1 h2
          · rw [HsM.out,if_neg (by omega),List.append_nil];exact hH.syms l h1 h2
        clear HcM HsM HfM HfC HfS hz hcn
        go_wp2_with fail
        go_roundw
        case rel=>exact⟨s+1,c,by omega,by go_num,HN.out,HCC,hf⟩
        case measure=>simp [intOf];omega
      · have i3:(0:Int)<cn:=by omega
        have i4:(cn:Int)<16:=by omega
        have i5:¬(cn:Int)=0:=by omega
        have i6:cn<16:=by omega
        have hx0:x≠0:=fun e=>hx (hz.out.1 e)
        have HHH:=hid hH
        have HCN:=hid (show lens[s].toNat=cn by rw [hc,hcn])
        clear hz hcn
        obtain⟨hA,hO0,hO1,hF,hM,hSy,hAp,hUp⟩:=hH
        have hb0:((cn:Int) == 0)=false:=by simp [hx]
        have hc18:c (18+cn)=N (cntK (lens.take s) cn):=hM cn (by omega) i6
        have hc2:c (2+cn)=N (fM lens s cn):=hF cn (by omega) i6
        have k18:=hA.cell (18+cn) (by omega) hc18
        have f2:=hA.frozen (2+cn)
        have k2:=hA.cell (2+cn) (by omega) hc2
        have hca:=hO1.see
        rw [HCC.out.2]at hca
        have hlc:s<(codesK lens).length:=by rw [codesK_len];exact hlt
        obtain⟨b1,off1,cap1,hv1,c1⟩:=hca.cell1 (fun n=>Value.int .u16 (n:Int)) rfl s hlc
        have h16:=code16 lens s hlc
        have hqw:IntKind.i64.wrap (((codesK lens)[s]:Nat):Int)=(((codesK lens)[s]:Nat):Int):=IntWalk.i64_in _ (by omega)
        have HfC2:=hid (fun h=>HfC.out hx0 h)
        generalize hq:(codesK lens)[s]=q at *
        rw [codesK_len]at hv1
        cases hv1
        replace c1:wr.cell? ⟨b1,off1+s,none⟩=some (.int .u16 (q:Int)):=c1
        have hle:=cntK_le (lens.take s) cn
        have htl:(lens.take s).length<=300:=by rw [List.length_take];omega
        have HcMc:=hid (HcM.out cn)
        have HfMc:=hid (HfM.out cn)
        have HfSc:=hid (HfS.out cn)
        clear hq HfC hlc
        generalize hm:cntK (lens.take s) cn=m at *
        generalize fM lens s cn=f at *
        have HA:=hid hA
        have HH:=hid (And.intro hO0 (And.intro hO1 (And.intro hF (And.intro hM (And.intro hSy hAp)))))
        have HMM:=hid hm
        clear hO0 hO1 hF hM hSy hAp hca hm
        have hmc:((m:Int) == 0)=decide (m=0):=by by_cases h:m=0 <;> simp [h]
        have HBt:Hid (decide (m=0)=true->m=0):=fun h=>by simpa using h
        have HBf:Hid (decide (m=0)=false->m≠0):=fun h=>by simpa using h
        generalize decide (m=0)=bm at *
        go_upto_if 38 with fail
        go_cut []from 39 to 48 (fun wx=>∃ c1,ArrV wx w2.heap.size 390 50 c1/\c1 (2+cn)=N (firstK lens cn % 65536)/\(∀ i,i≠2+cn->c1 i=c i)/\Chg (fun k=>k=w2.heap.size) wr wx)
        case first=>
          cases bm
          · have hqv:=hid (HfSc.out (HBf.out (by first | rfl | trivial)))
            go_wp2_with fail
            go_meet
            exact⟨c,hA,by rw [hc2,hqv.out],fun _ _=>rfl,Chg.refl _ _⟩
          · have hqv:=hid (HfC2.out (HBt.out (by first | rfl | trivial)))
            clear HfC2 HfMc HfSc HcMc
            go_wp2_with fail
            go_region
            all_goals go_wp2_with fail
            all_goals go_meet
            exact⟨_,(hA.set (2+cn) (.int .i64 (q:Int))).drew,by rw [if_pos rfl,hqv.out],fun i hi=>if_neg hi,(setCell_chg wr ⟨_,2+cn,none⟩ _).trans ((Fr.drew (Fr.refl _)).chg (fun k=>k=w2.heap.size)) (fun _ _ h=>h)⟩
        case rest=>
          generalize hwc1:wc=wd at *
          clear hwc1
          obtain⟨c1,hA1,h1a,h1b,hc1⟩:=hcut
          clear HfC2 HfSc HBt HBf f2 k2 k18 hqw hmc
          have hc18':c1 (18+cn)=N m:=by rw [h1b _ (by omega),hc18]
          have k18:=hA1.cell (18+cn) (by omega) hc18'
          have f18:=hA1.frozen (18+cn)
          have hmw:IntKind.i64.wrap ((m:Int)+1)=((m+1:Nat):Int):=by rw [IntWalk.i64_in _ (by omega)];omega
          have HA2:=hid ((hA1.set (18+cn) (.int .i64 ((m:Int)+1))).drew)
          have HC2:Hid (Chg (fun k=>k=w2.heap.size) wr (wd.setCell ⟨w2.heap.size,18+cn,none⟩ (.int .i64 ((m:Int)+1))).drew):=(hc1.trans (setCell_chg wd ⟨_,18+cn,none⟩ _) (fun _ _ h=>h)).trans ((Fr.drew (Fr.refl _)).chg (fun k=>k=w2.heap.size)) (fun _ _ h=>h)
          go_upto_region 11 with fail
          go_region
          all_goals go_wp2_with fail
          generalize hW3:(wd.setCell ⟨w2.heap.size,18+cn,none⟩ (.int .i64 ((m:Int)+1))).drew=W3 at *
          clear hW3 k18 f18 hA1 hc1 c0
          have HStep:=hid (fun c2 v' w4 a1 a2 a3 a4 (a5:ArrV W3 w2.heap.size 390 50 c2)=>huf_step (w4:=w4) (v':=v') (c2:=c2) HHH.out hf (Nat.le_refl _) hUp hlt HCN.out (by omega) i6 a5 HC2.out a1 a2 a3 a4)
          have hown:=HHH.out.syms cn (by omega) i6
          have hlen:=sM_len lens s cn hsl
          have hle2:=cntK_le (lens.take s) cn
          have hown3:=hown.keepG HHH.out.arr (by decide) HC2.out
          obtain⟨sa,sc,hsv⟩:=hown3.shape'
          have k34:W3.cell? ⟨w2.heap.size,34+cn,none⟩=some (c (34+cn)):=HA2.out.cell (34+cn) (by omega) (by rw [if_neg (by omega),h1b _ (by omega)])
          have hD:=hown3.drew
          have hsz3:w.heap.size<=W3.heap.size:=Nat.le_trans hf.size HC2.out.size
          have HSZ:Hid (w.heap.size<=W3.drew.heap.size):=hsz3
          have hfa:Fr W3 (W3.alloc (.cells #[.int .i64 (s:Int)] 3)):=(Fr.refl W3).alloc _
          have k34a:=hfa.cell k34
          have HCL:Hid ((sM lens s cn).length+[s].length<=2147483648):=by show _<=_;rw [hlen];simp;omega
          have hgn:=hown3.ne_cells HA2.out (by decide)
          have hArr:=HA2.out
          rw [hsv]at hD k34 k34a hgn
          have HSV:=hid hsv
          generalize hsm:sM lens s cn=m9 at *
          clear hfa hown hown3 hlen hle2 hsv hsz3 HA HH hA
          go_upto_region 12 with fail
          go_region_law (refine step_app1d eJ rfl (.tmp 66) (.tmp 68) 49 rfl Tryz.underlying49 w.heap.size rfl hD [s] _ _ _ rfl rfl rfl HCL.out HSZ.out ?_
                         intro v' w4 hap
                         have own4 := hap.own
                         have HA4 := hid hap
                         obtain ⟨va, vc, hv'⟩ := own4.shape'
                         have k0 := hArr.chg hap.chg' (fun e => hgn e)
                         have e3 := k0.cell (34 + cn) (by omega) rfl
                         have e4 := k0.frozen (34 + cn)
                         clear hap
                         subst hv')
          all_goals (go_wp2_with fail
                     rw [show (m9 ++ [s]).length = m9.length + 1 by simp] at HA4
                     have hst := HStep.out _ (.slice va (m9.length + 1) vc) w4 (by rw [if_neg (by omega), h1a]) (by rw [if_pos rfl, HMM.out]; rfl) (fun i j1 j2 => by rw [if_neg j2, h1b i j1]) (by rw [HSV.out]; exact HA4.out) HA2.out
                     go_roundw
                     case rel => exact ⟨s + 1, _, by omega, by go_num, hst.1, ⟨by rw [if_neg (by omega), if_neg (by omega), h1b _ (by omega)]; exact HCC.out.1, by rw [if_neg (by omega), if_neg (by omega), h1b _ (by omega)]; exact HCC.out.2⟩, hst.2⟩
                     case measure => simp [intOf]; omega)
    · obtain rfl:s=lens.length:=by omega
      have hnl:¬(lens.length:Int)<lens.length:=by omega
      go_wp2_with fail
      go_ret2
      exact⟨_,rfl,⟨c,hH⟩,hf⟩
set_option maxRecDepth 512
end Go.Proofs.YtghcmindankceaaGreatDoor
