/- Parts of the proof of ArchOne: K1 K2 K4 Z1 Z2. -/
import Derived.Test.YtdagmoonnbnceaaGreatDoorM05
import Derived.Test.YtdagmoonnbnceaaGreatDoorM07
import Derived.Test.YtdagmoonnbnceaaGreatDoorM18
set_option linter.unusedVariables false
set_option linter.unusedSectionVars false
set_option linter.unusedSimpArgs false
set_option maxHeartbeats 8000000
set_option maxRecDepth 100000
namespace Go.Proofs.YtdagmoonnbnceaaGreatDoor
open Go.RowKit Go.Fk
theorem results_cell_tmp{P:Program}{fn:Func}{p q:Tmp}{ty:TypeId}(h:fn.results=#[.cell p ty,.tmp q])(tmps:Array Value)(w:World)(g:Nat)(t:TypeId)(cs:Array Value)(fr:Nat × Nat)(d:TypeDesc)(v:Value)
  (hp:tmps.getD p undef=.pointer (some ⟨g,0,none⟩)) (hq:tmps.getD q undef=v) (hg:w.heap[g]? = some (.cells cs t fr))
  (hu:P.underlying ty=some d) (hd:(match d with | .struct _ | .array _ _=>true | _=>false)=true) (hi:(P.info? ty).map (·.size)=some cs.size) :
  (results fn tmps).run P w=.ok (.tuple #[.agg cs,v]) w:=by
 have hp':tmps[p]?.getD undef=.pointer (some ⟨g,0,none⟩):=by simpa using hp
 have hq':tmps[q]?.getD undef=v:=by simpa using hq
 simp [results,h,hp',hq',asAddr,run_loadVar_row w g t ty cs fr d hg hu hd hi]
abbrev cntA(lens:List UInt8)(k:Nat):Nat->Int:=fun l=>((cntK (lens.take k) l:Nat):Int)
abbrev cntZ(lens:List UInt8):Nat->Int:=fun l=>if l=0 then 0 else((cntK lens l:Nat):Int)
theorem zero16:(#[.int .i64 0,.int .i64 0,.int .i64 0,.int .i64 0,.int .i64 0,.int .i64 0,.int .i64 0,.int .i64 0,.int .i64 0,.int .i64 0,.int .i64 0,.int .i64 0,.int .i64 0,.int .i64 0,.int .i64 0,.int .i64 0]:Array Value)=arrI 16 (fun _=>0):=rfl
theorem count_any (v : Value) (lens : List UInt8) (w : World) (hs : See w eB v lens) (hn : lens.length ≤ 300) (h15 : ∀ c ∈ lens, c.toNat ≤ 15) :
    Calls Tryz.prog 226 #[v] w fun e w'=>e=.returned (.tuple #[.agg (arrI 16 (cntZ lens)),.bool true])/\Fr w w':=by
  obtain⟨a,cap,rfl,hcap1,hcap2,hnone⟩:=hs.shape
  unfold maxLen at hcap2
  have hL1:¬(300:Int)<lens.length:=by omega
  have hB:(w.alloc (.cells (arrI 16 (fun _=>0)) 342)).heap[w.heap.size]? = some (.cells (arrI 16 (fun _=>0)) 342 (0,0)):=heap_new _ _ _ rfl
  have hF0:Fr w (w.alloc (.cells (arrI 16 (fun _=>0)) 342)):=(Fr.refl w).alloc _
  have hA0:ArrI (w.alloc (.cells (arrI 16 (fun _=>0)) 342)) w.heap.size 342 16 (cntA lens 0):=by
    unfold ArrI;rw [hB,arrI_congr (f':=cntA lens 0) fun i _=>by show(0:Int)=((cntK (lens.take 0) i:Nat):Int);rw [List.take_zero];rfl]
  rw [<- zero16]at hF0 hA0
  clear hB
  go_enter Tryz.func226, Tryz.ntmps226
  go_wp2_with fail
  generalize hW:w.alloc (.cells _ 342)=W0 at *
  clear hW
  go_loopw [12] (fun iv wr=>∃ k:Nat,k<=lens.length/\iv=N k/\ArrI wr w.heap.size 342 16 (cntA lens k)/\Fr w wr) (fun iv _=>lens.length - (intOf iv).toNat)
  case atStart=>exact⟨0,Nat.zero_le _,rfl,hA0,hF0⟩
  case round=>
    clear hA0 hF0
    obtain⟨k,hk,rfl,hA,hf⟩:=hrel
    by_cases hlt:k<lens.length
    · obtain⟨b,off,cap',hv,c0⟩:=(hs.fr hf).cell1 (fun c=>Fk.u8 c) rfl k hlt
      have h15k:=h15 _ (List.getElem_mem hlt)
      have HT:=hid (fun l=>cntK_take lens k l hlt)
      generalize lens[k]=c at *
      cases hv
      generalize hcn:c.toNat=cn at *
      have hle:=cntK_le (lens.take k) cn
      have htl:(lens.take k).length<=300:=by rw [List.length_take];omega
      have e1:wr.cell? ⟨w.heap.size,cn,none⟩=some (.int .i64 ((cntK (lens.take k) cn:Nat):Int)):=hA.cell cn (by omega)
      have e2:=hA.frozen cn
      have HS:=hid (hA.set cn (((cntK (lens.take k) cn:Nat):Int)+1))
      have HS2:Hid (ArrI (wr.setCell ⟨w.heap.size,cn,none⟩ (.int .i64 (((cntK (lens.take k) cn:Nat):Int)+1))) w.heap.size 342 16 (cntA lens (k+1))):=HS.out.congr fun i hi=>by
        show(if i=cn then _ else _)=((cntK (lens.take (k+1)) i:Nat):Int)
        rw [HT.out i]
        by_cases h:i=cn
        · subst h;simp
        · rw [if_neg h,if_neg (Ne.symm h)];simp
      clear HS HT
      have i1:(0:Int)<=k:=by omega
      have i2:(k:Int)<lens.length:=by omega
      have i3:(0:Int)<=cn:=by omega
      have i4:(cn:Int)<16:=by omega
      have i5:¬(15:Int)<cn:=by omega
      have i6:cn<16:=by omega
      generalize cntK (lens.take k) cn=q at *
      go_wp2_with fail
      go_roundw
      case rel=>exact⟨k+1,by omega,by go_num,HS2.out,set_below hf (Nat.le_refl _) hf.size⟩
      case measure=>simp [intOf];omega
    · obtain rfl:k=lens.length:=by omega
      have hnl:¬((lens.length:Int)<lens.length):=by omega
      have e2:=hA.frozen 0
      have e1:wr.cell? ⟨w.heap.size,0,none⟩=some (.int .i64 ((cntK (lens.take lens.length) 0:Nat):Int)):=hA.cell 0 (by omega)
      have HS:=hid (hA.set 0 0)
      have HS2:Hid (ArrI (wr.setCell ⟨w.heap.size,0,none⟩ (.int .i64 0)) w.heap.size 342 16 (cntZ lens)):=HS.out.congr fun i hi=>by
        show(if i=0 then(0:Int)else((cntK (lens.take lens.length) i:Nat):Int))=if i=0 then 0 else((cntK lens i:Nat):Int)
        rw [List.take_length]
      have HF2:Hid (Fr w (wr.setCell ⟨w.heap.size,0,none⟩ (.int .i64 0))):=set_below hf (Nat.le_refl _) hf.size
      clear HS hA
      go_upto_region 11 with fail
      generalize wr.setCell ⟨w.heap.size,0,none⟩ (.int .i64 0)=w2 at *
      have h0:w2.heap[w.heap.size]? = some (.cells (arrI 16 (cntZ lens)) 342 (0,0)):=HS2.out
      have hinf:(Tryz.prog.info? 342).map (·.size)=some (arrI 16 (cntZ lens)).size:=by rw [arrI_size];kernel_rfl
      go_wp2_with (first | (refine wpList_load_row rfl 342 (.tmp 2) rfl w.heap.size rfl 342 (arrI 16 (cntZ lens)) (0,0) _ h0 Tryz.underlying342 rfl hinf ?_) | (refine wpList_store_row rfl 342 (.tmp 2) (.tmp 26) rfl w.heap.size (arrI 16 (cntZ lens)) rfl rfl 342 (arrI 16 (cntZ lens)) h0 hinf rfl (arrI_one _ _) ?_))
      have h1:=setRow_heap w2 w.heap.size (arrI 16 (cntZ lens)) (arrI 16 (cntZ lens)) 342 (0,0) h0
      have h2:=setRow_chg w2 w.heap.size (arrI 16 (cntZ lens))
      exact bodyPost_ret (v:=.tuple #[.agg (arrI 16 (cntZ lens)),.bool true]) (results_cell_tmp Tryz.results226 _ _ w.heap.size 342 _ (0,0) _ _ rfl rfl h1 Tryz.underlying342 rfl hinf) rfl ⟨rfl,Chg.below HF2.out h2 HF2.out.size (fun k hk=>Nat.le_of_eq hk.symm)⟩
theorem sumK_le(f:Nat->Nat)(b:Nat)(h:∀ k,f k<=b):∀ l,sumK f l<=l*b:=by
 intro l
 induction l with
 | zero=>simp [sumK]
 | succ l ih=>rw [sumK,Nat.add_mul];have:=h (l+1);omega
theorem weight_any (lens : List UInt8) (w : World) (hn : lens.length ≤ 300) :
    Calls Tryz.prog 227 #[.agg (arrI 16 (cntZ lens))] w fun e w'=>e=.returned (.tuple #[N (sumK (fun k=>cntK lens k*2 ^ (15 - k)) 15),N (sumK (cntK lens) 15)])/\Fr w w':=by
  have hA0:ArrI (w.alloc (.cells (arrI 16 (cntZ lens)) 342)) w.heap.size 342 16 (cntZ lens):=heap_new _ _ _ rfl
  have hF0:Fr w (w.alloc (.cells (arrI 16 (cntZ lens)) 342)):=(Fr.refl w).alloc _
  have hsz:(arrI 16 (cntZ lens)).size=16:=arrI_size _ _
  have HC:=hid (fun k=>cntK_le lens k)
  generalize hR:arrI 16 (cntZ lens)=R at *
  go_enter Tryz.func227, Tryz.ntmps227
  go_wp2_with fail
  generalize hW:w.alloc (.cells R 342)=W0 at *
  clear hW hR
  go_loopw [2,3,4] (fun sv mv lv wr=>∃ l:Nat,l<=15/\lv=N (l+1)/\Hid (sv=N (sumK (fun k=>cntK lens k*2 ^ (15 - k)) l))/\Hid (mv=N (sumK (cntK lens) l))/\W0=wr) (fun _ _ lv _=>16 - (intOf lv).toNat)
  case atStart=>exact⟨0,by omega,rfl,rfl,rfl,by first | rfl | trivial⟩
  case round=>
    obtain⟨l,hl,rfl,HS,HM,rfl⟩:=hrel
    have hs:=HS.out
    have hm:=HM.out
    have hsl : sumK (fun k => cntK lens k * 2 ^ (15 - k)) l ≤ 15 * (300 * 32768) := Nat.le_trans (sumK_le _ (300 * 32768) (fun k => by
      have h1 := HC.out k
      have h2 : (2 : Nat) ^ (15 - k) ≤ 32768 := Nat.le_trans (Nat.pow_le_pow_right (by omega) (show 15 - k ≤ 15 by omega)) (by decide)
      exact Nat.mul_le_mul (by omega) h2) l) (Nat.mul_le_mul_right _ hl)
    have hml:sumK (cntK lens) l<=15*300:=Nat.le_trans (sumK_le _ 300 (fun k=>by have:=HC.out k;omega) l) (Nat.mul_le_mul_right _ hl)
    have HS1:Hid (sumK (fun k=>cntK lens k*2 ^ (15 - k)) (l+1)=sumK (fun k=>cntK lens k*2 ^ (15 - k)) l+cntK lens (l+1)*2 ^ (14 - l)):=by
      show _=_;rw [sumK,show 15 - (l+1)=14 - l by omega]
    have HM1:Hid (sumK (cntK lens) (l+1)=sumK (cntK lens) l+cntK lens (l+1)):=rfl
    by_cases hlt:l<15
    · have hlt':((l+1:Nat):Int)<16:=by omega
      have e1:W0.cell? ⟨w.heap.size,l+1,none⟩=some (.int .i64 ((cntK lens (l+1):Nat):Int)):=hA0.cell' (l+1) (by omega) (by simp [cntZ])
      have hcl:=HC.out (l+1)
      have h2:(2:Nat) ^ (14 - l)<=32768:=Nat.le_trans (Nat.pow_le_pow_right (by omega) (show 14 - l<=15 by omega)) (by decide)
      have hmu:cntK lens (l+1)*2 ^ (14 - l)<=300*32768:=Nat.mul_le_mul (by omega) h2
      have hwl:IntKind.i64.wrap (15 - ((l+1:Nat):Int))=((14 - l:Nat):Int):=by rw [IntWalk.i64_in _ (by omega)];omega
      have hsh:IntKind.i64.wrap (((cntK lens (l+1):Nat):Int)*2 ^ (14 - l))=((cntK lens (l+1)*2 ^ (14 - l):Nat):Int):=by
        have e:((cntK lens (l+1):Nat):Int)*2 ^ (14 - l)=((cntK lens (l+1)*2 ^ (14 - l):Nat):Int):=by simp
        rw [e];exact IntWalk.i64_in _ (by omega)
      have HS1':=hid HS1.out
      have HSh:=hid hsh
      clear hsh
      generalize hmm:cntK lens (l+1)*2 ^ (14 - l)=mu at *
      generalize hsx:sumK (fun k=>cntK lens k*2 ^ (15 - k)) l=sx at *
      generalize hmx:sumK (cntK lens) l=mx at *
      generalize cntK lens (l+1)=q at *
      have hd0:(0:Int)<=((14 - l:Nat):Int):=by omega
      have i1:(0:Int)<=((l+1:Nat):Int):=by omega
      have i2:l+1<16:=by omega
      subst hs hm
      clear HS HM hsx hmx hmm h2
      go_wp2_with fail
      go_roundw
      case rel=>
        refine⟨l+1,by omega,by go_num,?_,?_,by first | rfl | trivial⟩
        · show _=_
          rw [HS1'.out]
          have h9:=HSh.out
          rw [<- IntWalk.i64_left,<- IntWalk.i64_left,h9,IntWalk.i64_in _ (by omega)]
          show Value.int _ _=Value.int _ _
          congr 1
        · show _=_
          rw [HM1.out];show Value.int _ _=Value.int _ _;congr 1
      case measure=>simp [intOf];omega
    · obtain rfl:l=15:=by omega
      subst hs hm
      clear HS1 HM1
      generalize hsx:sumK (fun k=>cntK lens k*2 ^ (15 - k)) 15=sx at *
      generalize hmx:sumK (cntK lens) 15=mx at *
      have HSX:=hid hsx
      have HMX:=hid hmx
      clear hsx hmx
      have hnl:¬((15+1:Nat):Int)<16:=by omega
      go_wp2_with fail
      go_ret2
      exact⟨by rw [HSX.out,HMX.out];rfl,hF0⟩
theorem KCheck_any(v:Value)(lens:List UInt8)(w:World)(hs:See w eB v lens)(hn:lens.length<=300)(h15:∀ c∈lens,c.toNat<=15) :
  Calls Tryz.prog 192 #[v] w fun e w'=>e=.returned (.int .i64 (if okK lens then 0 else 7))/\Fr w w':=by
 obtain⟨a,cap,rfl,hcap1,hcap2,hnone⟩:=hs.shape
 unfold maxLen at hcap2
 have HCo:=hid (count_any _ lens w hs hn h15)
 have HWe:=hid (fun W=>weight_any lens W hn)
 rw [sum_kraft lens h15,sum_words lens h15]at HWe
 have hsz:(arrI 16 (cntZ lens)).size=16:=arrI_size _ _
 have hone:=arrI_one 16 (cntZ lens)
 have hwl:=wordsK_le lens
 have hkl:=kraftK_le lens
 have HOk:Hid (okK lens=(decide (wordsK lens=0) || decide (kraftK lens=32768) || (decide (wordsK lens=1) && decide (cntK lens 1=1)))):=rfl
 have hAt:(arrI 16 (cntZ lens))[1]? = some (.int .i64 ((cntK lens 1:Nat):Int)):=by rw [arrI_at 16 _ 1 (by omega)];rfl
 have hcl:=cntK_le lens 1
 generalize arrI 16 (cntZ lens)=R at *
 generalize kraftK lens=kr at *
 generalize wordsK lens=wd at *
 generalize cntK lens 1=c1 at *
 generalize okK lens=okb at *
 have hinf:(Tryz.prog.info? 342).map (·.size)=some R.size:=by rw [hsz];kernel_rfl
 go_enter Tryz.func192, Tryz.ntmps192
 go_wp2_with fail
 refine HCo.out.mono ?_
 rintro e w1 ⟨rfl,hf1⟩
 have h0:(w1.alloc (.cells (arrI 16 (fun _=>0)) 342)).heap[w1.heap.size]? = some (.cells (arrI 16 (fun _=>0)) 342 (0,0)):=heap_new _ _ _ rfl
 have hF0:Fr w1 (w1.alloc (.cells (arrI 16 (fun _=>0)) 342)):=(Fr.refl w1).alloc _
 have hz:(arrI 16 (fun _=>0)).size=16:=rfl
 rw [<- zero16]at h0 hF0 hz
 go_upto_region 2 with(refine wpList_store_row rfl 342 (.tmp 3) (.tmp 10) rfl w1.heap.size R rfl rfl 342 _ h0 hinf (by rw [hsz];rfl) hone ?_)
 have h1:=setRow_heap _ w1.heap.size _ R 342 (0,0) h0
 have hF1:Fr w1 (World.setRow _ w1.heap.size R):=Chg.below hF0 (setRow_chg _ w1.heap.size R) hF0.size (fun k hk=>Nat.le_of_eq hk.symm)
 generalize hW2:World.setRow _ w1.heap.size R=w2 at *
 clear hW2 h0 hF0
 go_wp2_with (first | (refine wpList_load_row rfl 342 (.tmp 3) rfl w1.heap.size rfl 342 R (0,0) _ h1 Tryz.underlying342 rfl hinf ?_))
 refine(HWe.out w2).mono ?_
 rintro e w3 ⟨rfl,hf3⟩
 have h3:=hf3.heap h1
 have e1:w3.cell? ⟨w1.heap.size,1,none⟩=some (.int .i64 (c1:Int)):=by rw [cell_of_heap h3];exact hAt
 have hFF:=(hf1.trans hF1).trans hf3
 clear h1 h3 hone hinf
 by_cases hw0:wd=0
 · have hr:okb=true:=by rw [HOk.out,hw0];rfl
   subst hr hw0
   go_wp2_with fail
   go_ret
   exact⟨rfl,hFF⟩
 · have hw0':(0:Int)<wd:=by omega
   have hw0d:decide (0<wd)=true:=decide_eq_true (by omega)
   have hw0e:0<wd:=by omega
   by_cases hk:kr=32768
   · have hr:okb=true:=by rw [HOk.out,hk];simp
     have hk':((kr:Int) == 32768)=true:=by simp;omega
     subst hr hk
     go_wp2_with fail
     go_ret
     exact⟨rfl,hFF⟩
   · have hk':((kr:Int) == 32768)=false:=by simp;omega
     have hk2:¬(kr:Int)=32768:=by omega
     have hk3:((kr:Int) != 32768)=true:=by rw [bne,hk'];rfl
     by_cases hw1:wd=1
     · by_cases hc1:c1=1
       · have hr:okb=true:=by rw [HOk.out,hw1,hc1];simp
         subst hr hw1 hc1
         go_wp2_with fail
         go_ret
         exact⟨rfl,hFF⟩
       · have hr:okb=false:=by rw [HOk.out];simp [hw0,hk,hc1]
         have hc':((c1:Int) == 1)=false:=by simp;omega
         have hc2:¬(c1:Int)=1:=by omega
         have hc3:((c1:Int) != 1)=true:=by rw [bne,hc'];rfl
         subst hr hw1
         go_wp2_with fail
         go_ret
         exact⟨rfl,hFF⟩
     · have hr:okb=false:=by rw [HOk.out];simp [hw0,hk,hw1]
       have hw':((wd:Int) == 1)=false:=by simp;omega
       have hw2:¬(wd:Int)=1:=by omega
       have hw3:((wd:Int) != 1)=true:=by rw [bne,hw'];rfl
       subst hr
       go_wp2_with fail
       go_ret
       exact⟨rfl,hFF⟩
theorem bAt{w:World}{v:Value}{l:List UInt8}(h:See w eB v l)(k:Nat)(hk:k<l.length) :
  ∃ b off cap,v=.slice (some ⟨b,off,none⟩) l.length cap/\w.cell? ⟨b,off+k,none⟩=some (Fk.u8 l[k]):=h.cell1 (fun c=>Fk.u8 c) rfl k hk
theorem u8_zero(c:UInt8):c=0↔c.toNat=0:=⟨fun e=>by rw [e];rfl,fun e=>UInt8.toNat_inj.1 (by simpa using e)⟩
theorem alike_on(b:List UInt8)(f a n:Nat)(h:n<257)(h1:a+n<b.length)(h2:f<=a)(h3:b[f+n]'(by omega)=b[a+n]):alikeN b (f+n) (a+n) (257 - n)=alikeN b (f+(n+1)) (a+(n+1)) (257 - (n+1))+1:=by
 rw [show 257 - n=257 - (n+1)+1 by omega,alikeN,if_pos ⟨h1,by rw [List.getElem?_eq_getElem (by omega),List.getElem?_eq_getElem h1,h3]⟩]
 rfl
theorem alike_off(b:List UInt8)(f a n:Nat)(h1:a+n<b.length)(h2:f<=a)(h3:b[f+n]'(by omega)≠b[a+n]):alikeN b (f+n) (a+n) (257 - n)=0:=by
 cases hk:257 - n with
 | zero=>rfl
 | succ k=>rw [alikeN,if_neg (fun h=>h3 (by have:=h.2;rw [List.getElem?_eq_getElem (by omega),List.getElem?_eq_getElem h1]at this;exact Option.some.inj this))]
theorem alike_end(b:List UInt8)(f a n:Nat)(h:257<=n\/b.length<=a+n):alikeN b (f+n) (a+n) (257 - n)=0:=by
 cases hk:257 - n with
 | zero=>rfl
 | succ k=>rw [alikeN,if_neg (fun h=>by omega)]
theorem lalike_any(v:Value)(l:List UInt8)(f a:Nat)(w:World)(hs:See w eB v l)(hn:l.length<=1000000)(hfa:f<a)(ha:a<=l.length) :
  Calls Tryz.prog 162 #[v,N f,N a] w fun e w'=>e=.returned (N (alikeK l f a))/\∃ m,w'=w.drewN m:=by
 obtain⟨a0,cap,rfl,hcap1,hcap2,hnone⟩:=hs.shape
 unfold maxLen at hcap2
 have HB:=hid (fun k hk=>bAt hs k hk)
 clear hs
 go_enter Tryz.func162, Tryz.ntmps162
 go_wp2_with fail
 go_loopw [7] (fun nv wr=>∃ n:Nat,n<=257/\nv=N n/\a+n<=l.length/\Hid (alikeK l f a=n+alikeN l (f+n) (a+n) (257 - n))/\∃ q,wr=w.drewN q) (fun nv _=>257 - (intOf nv).toNat)
 case atStart=>exact⟨0,by omega,rfl,by omega,by show _=_;unfold alikeK;simp,0,rfl⟩
 case round=>
  obtain⟨n,hn1,rfl,hn2,HE,q,rfl⟩:=hrel
  have i0:(0:Int)<=n:=by omega
  have i1:(0:Int)<=(a:Int)+n:=by omega
  have i2:(0:Int)<=(f:Int)+n:=by omega
  by_cases h1:n<257
  · have h1':(n:Int)<257:=by omega
    by_cases h2:a+n<l.length
    · have h2':(a:Int)+n<l.length:=by omega
      have h3':(f:Int)+n<l.length:=by omega
      obtain⟨b,off,cap',hv,c0⟩:=HB.out (a+n) h2
      cases hv
      obtain⟨b',off',cap',hv,c1⟩:=HB.out (f+n) (by omega)
      cases hv
      have HOn:=hid (alike_on l f a n h1 h2 (by omega))
      have HOff:=hid (alike_off l f a n h2 (by omega))
      generalize l[a+n]=x at *
      generalize l[f+n]=y at *
      replace c0:=((Fr.refl w).drewN q).cell c0
      replace c1:=((Fr.refl w).drewN q).cell c1
      replace c0:(w.drewN q).cell? ⟨b,off+(a+n),none⟩=some (.int .u8 ((x.toNat:Nat):Int)):=c0
      replace c1:(w.drewN q).cell? ⟨b,off+(f+n),none⟩=some (.int .u8 ((y.toNat:Nat):Int)):=c1
      by_cases h3:y=x
      · have HE2:Hid (alikeK l f a=(n+1)+alikeN l (f+(n+1)) (a+(n+1)) (257 - (n+1))):=by show _=_;rw [HE.out,HOn.out h3];omega
        subst h3
        clear HOn HOff HE
        generalize y.toNat=yn at *
        generalize hW:w.drewN q=W at *
        go_upto_region 2 with fail
        go_quiet (fail)
        go_wp2_with fail
        go_roundw
        case rel=>exact⟨n+1,by omega,by go_num,by omega,HE2,q+nq,by rw [<- hW,World.drewN_drewN]⟩
        case measure=>simp [intOf];omega
      · have HE2:Hid (alikeK l f a=n):=by show _=_;rw [HE.out,HOff.out h3,Nat.add_zero]
        have h3n:¬y.toNat=x.toNat:=fun e=>h3 (UInt8.toNat_inj.1 e)
        clear HOn HOff HE h3
        generalize y.toNat=yn at *
        generalize x.toNat=xn at *
        have h3i:¬(yn:Int)=xn:=by omega
        have h3b:((yn:Int) == xn)=false:=by simp [h3i]
        generalize hW:w.drewN q=W at *
        go_upto_region 2 with fail
        go_quiet (fail)
        go_wp2_with fail
        go_ret
        exact⟨by rw [HE2.out];rfl,q+nq,by rw [<- hW,World.drewN_drewN]⟩
    · have h2':¬(a:Int)+n<l.length:=by omega
      have HE2:Hid (alikeK l f a=n):=by show _=_;rw [HE.out,alike_end l f a n (by omega),Nat.add_zero]
      clear HE
      generalize hW:w.drewN q=W at *
      go_upto_region 2 with fail
      go_quiet (fail)
      go_wp2_with fail
      go_ret
      exact⟨by rw [HE2.out];rfl,q+nq,by rw [<- hW,World.drewN_drewN]⟩
  · have h1':¬(n:Int)<257:=by omega
    have HE2:Hid (alikeK l f a=n):=by show _=_;rw [HE.out,alike_end l f a n (by omega),Nat.add_zero]
    clear HE
    generalize hW:w.drewN q=W at *
    go_upto_region 2 with fail
    go_quiet (fail)
    go_wp2_with fail
    go_ret
    exact⟨by rw [HE2.out];rfl,q+nq,by rw [<- hW,World.drewN_drewN]⟩
def eTk:Elt Tryz.prog Tok:=⟨188,3,24,⟨0,0,0⟩,.agg #[.int .u8 0,.int .i64 0,.int .i64 0],fun t=>[Fk.u8 t.lit,N t.len,N t.dist],by kernel_rfl,by decide,by decide,by simp [Value.cells],fun _=>rfl,by intro x u hu;simp only [List.mem_cons,List.not_mem_nil,or_false]at hu;rcases hu with rfl | rfl | rfl <;> rfl⟩
end Go.Proofs.YtdagmoonnbnceaaGreatDoor
