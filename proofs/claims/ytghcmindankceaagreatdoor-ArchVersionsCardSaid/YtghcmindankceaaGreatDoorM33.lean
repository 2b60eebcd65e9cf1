/- Parts of the proof of ArchVersions: S7 L1 L2. -/
import Derived.Test.YtghcmindankceaaGreatDoorM32
import Derived.Test.YtghcmindankceaaGreatDoorM08
set_option linter.unusedVariables false
set_option linter.unusedSectionVars false
set_option linter.unusedSimpArgs false
set_option maxHeartbeats 8000000
namespace Go.Proofs.YtghcmindankceaaGreatDoor
open Go.RowKit Go.Fk
set_option maxRecDepth 100000
theorem stable_any {k : Nat} {caps : Array Value} {g : Nat} {key : Nat → Nat} {ok : Nat → Prop} {I : World → Prop} (hk : CmpK k caps g key ok I) (n cap : Nat) (f0 : Nat → Nat) (w : World) (hd : DJ w g n cap f0) (hI : I w) (hn : n ≤ 1000000)
    (hok:∀ p,p<n->ok (f0 p)) (hup:∀ p q,p<q->q<n->f0 p<f0 q) :
    Calls Tryz.prog 363 #[.slice (some ⟨g,0,none⟩) n cap,N n,.func (.func k) #[] caps] w fun e w'=>e=.returned (.tuple #[])/\∃ f,DJ w' g n cap f/\RearF f0 f 0 n/\SrtF key f 0 n/\Chg (fun k=>k=g) w w':=by
  have HIns:=hid (fun a b f w h1 h2 h3 h4 h5 h6=>insort_any hk a b n cap f w h1 h2 h3 h4 (by omega) h5 h6)
  have HSym:=hid (fun a m b=>symMerge_any hk n cap (by omega) (b - a) a m b (Nat.le_refl _))
  have HK:=hid hk
  have HOK:=hid hok
  have HUP:=hid hup
  clear hk hok hup
  go_enter Tryz.func363, Tryz.ntmps363
  go_wp2_with fail
  go_loopw [7,8] (fun av bv wr=>∃ (t:Nat) (f:Nat->Nat),av=N (20*t)/\bv=N (20*t+20)/\20*t<=n/\DJ wr g n cap f/\Hid (BlkF key f0 f 20 n (20*t))/\Hid (∀ p,20*t<=p->f p=f0 p)/\Chg (fun k=>k=g) w wr) (fun _ bv _=>n+21 - (intOf bv).toNat)
  case atStart=>exact⟨0,f0,rfl,rfl,by omega,hd,BlkF.start key f0 20 n,fun _ _=>rfl,Chg.refl _ w⟩
  case round=>
    clear hd
    obtain⟨t,f,rfl,rfl,ht,hd,HB,HF,hc⟩:=hrel
    have HIw:=hid (HK.out.stay hI hc)
    have HGo:=hid (fun b (h1:20*t<=b) (h2:b<=n)=>HIns.out (20*t) b f wr hd HIw.out h1 h2 (fun p _ h=>HB.out.okay HOK.out p (by omega)) (fun p q h3 h4 h5=>by rw [HF.out p h3,HF.out q (by omega)];exact HUP.out p q h4 (by omega)))
    have HNx:=hid (fun f' b (hr:RearF f f' (20*t) b) (hs:SrtF key f' (20*t) b) h1 h2 h3 h4=>BlkF.step (by omega) HB.out HF.out hr hs h1 h2 h3 h4)
    by_cases hlt:20*t+20<=n
    · have hlt':((20*t+20:Nat):Int)<=n:=by omega
      have hgo:=hid (HGo.out (20*t+20) (by omega) hlt)
      have hN2:=hid (fun f' hr hs=>HNx.out f' (20*t+20) hr hs (by omega) hlt (Nat.le_refl _) (.inl rfl))
      obtain⟨b1,hb1⟩:∃ b1,b1=20*t+20:=⟨_,rfl⟩
      obtain⟨a,ha⟩:∃ a,a=20*t:=⟨_,rfl⟩
      rw [<- hb1]at hgo hN2 hlt hlt' ⊢
      rw [<- ha]at hgo hN2 ⊢
      have hwb:IntKind.i64.wrap ((b1:Int)+20)=((b1+20:Nat):Int):=by rw [IntWalk.i64_in _ (by omega)];omega
      have hbb:n+21 - (b1+20)<n+21 - b1:=by omega
      have HM1:=hid hb1
      have HA:=hid ha
      clear ha hb1 HGo HNx ht HB HF
      go_wp2_with fail
      refine hgo.out.mono ?_
      rintro e w1 ⟨rfl,f',hd1,hr1,hs1,hc1⟩
      have h9:=hN2.out f' hr1 hs1
      rw [show b1=20*(t+1) by have:=HM1.out;omega]at h9
      go_wp2_with fail
      go_roundw
      case rel=>exact⟨t+1,f',by have:=HM1.out;show Value.int _ _=Value.int _ _;congr 1;omega,by have:=HM1.out;show Value.int _ _=Value.int _ _;congr 1;omega,by have:=HM1.out;omega,hd1,h9.1,h9.2,hc.trans hc1 (fun _ _ h=>h)⟩
      case measure=>simp [intOf];omega
    · have hlt':¬((20*t+20:Nat):Int)<=n:=by omega
      have hgo:=hid (HGo.out n ht (Nat.le_refl _))
      have hN2:=hid (fun f' hr hs=>(HNx.out f' n hr hs ht (Nat.le_refl _) (by omega) (.inr rfl)).1)
      clear HGo HNx HB HF
      generalize 20*t+20=b1 at *
      generalize 20*t=a at *
      go_wp2_with fail
      refine hgo.out.mono ?_
      rintro e w1 ⟨rfl,f1,hd1,hr1,hs1,hc1⟩
      have HB1:=hid (hN2.out f1 hr1 hs1)
      have hc2:=hc.trans hc1 (fun _ _ h=>h)
      clear hgo hN2 hr1 hs1 hc1 hc hd HIw HIns
      go_wp2_with fail
      go_loopw [6] (fun cv wr=>∃ (c:Nat) (f:Nat->Nat),cv=N c/\20<=c/\(c<=2*n\/c=20)/\DJ wr g n cap f/\Hid (BlkF key f0 f c n n)/\Chg (fun k=>k=g) w wr) (fun cv _=>n - (intOf cv).toNat)
      case atStart=>exact⟨20,f1,rfl,Nat.le_refl _,.inr rfl,hd1,HB1,hc2⟩
      case round=>
        clear hd1 HB1 hc2
        obtain⟨c,f,rfl,hc20,hc2n,hd,HB,hc⟩:=hrel
        by_cases hlt2:c<n
        · have hlt2':(c:Int)<n:=by omega
          have hw2c:IntKind.i64.wrap (2*(c:Int))=((2*c:Nat):Int):=by rw [IntWalk.i64_in _ (by omega)];omega
          have hw2c':IntKind.i64.wrap ((c:Int)*2)=((2*c:Nat):Int):=by rw [IntWalk.i64_in _ (by omega)];omega
          obtain⟨cc,hcc⟩:∃ cc,cc=2*c:=⟨_,rfl⟩
          rw [<- hcc]at hw2c hw2c'
          have hcc1:c<cc/\cc<=2*n/\cc<=2000000:=by omega
          have HCC:=hid hcc
          have HD0:=hid (HB.out.double)
          rw [<- hcc]at HD0
          have HPa:=hid (fun t b (h1:cc*t+c<=b) (h2:b<=n) (h3:b<=cc*t+cc)=>BlkF.parts (t:=t) (b:=b) (by omega) HB.out HUP.out (by rw [<- hcc];exact h1) h2 (by rw [<- hcc];exact h3))
          rw [<- hcc]at HPa
          have HRe:=hid (fun t (h1:n<=cc*t+c)=>BlkF.rest (t:=t) (by omega) HB.out (by rw [<- hcc];exact h1))
          rw [<- hcc]at HRe
          clear hcc
          go_wp2_with fail
          generalize wr=wo at *
          go_loopw [7,8] (fun av bv wr=>∃ (t:Nat) (g2:Nat->Nat),av=N (cc*t)/\bv=N (cc*t+cc)/\cc*t<=n/\DJ wr g n cap g2/\Hid (BlkF key f0 g2 cc n (cc*t))/\Hid (∀ p,cc*t<=p->g2 p=f p)/\Chg (fun k=>k=g) w wr) (fun _ bv _=>n+cc+1 - (intOf bv).toNat)
          case atStart=>exact⟨0,f,by simp,by simp,by simp,hd,by rw [Nat.mul_zero];exact HD0.out,fun _ _=>rfl,hc⟩
          case round=>
            clear hd hc
            obtain⟨t,g2,rfl,rfl,ht,hd,HB2,HF2,hc⟩:=hrel
            have HIw:=hid (HK.out.stay hI hc)
            have HGo := hid (fun b (h1 : cc * t + c ≤ b) (h0 : cc * t + c < b) (h2 : b ≤ n) (h3 : b ≤ cc * t + cc) => HSym.out (cc * t) (cc * t + c) b (by omega) h0 h2 g2 wr hd HIw.out (fun p _ h => HB2.out.okay HOK.out p (by omega))
              (by
                have := (HPa.out t b h1 h2 h3).1
                intro p q x y z u
                rw [HF2.out p x, HF2.out q (by omega)]; exact this p q x y z u)
              ((HPa.out t b h1 h2 h3).2.1.congr fun p x _ => HF2.out p x) ((HPa.out t b h1 h2 h3).2.2.congr fun p x _ => HF2.out p (by omega)))
            have HNx:=hid (fun g3 b (hr:RearF g2 g3 (cc*t) b) (hs:SrtF key g3 (cc*t) b) h1 h2 h3 h4=>BlkF.step (by omega) HB2.out HF2.out hr hs h1 h2 h3 h4)
            have hmt:cc*(t+1)=cc*t+cc:=Nat.mul_succ _ _
            have HMT:=hid hmt
            clear hmt
            by_cases hlt3:cc*t+cc<=n
            · have hgo:=hid (HGo.out (cc*t+cc) (by omega) (by omega) hlt3 (Nat.le_refl _))
              have hN2:=hid (fun f' hr hs=>HNx.out f' (cc*t+cc) hr hs (by omega) hlt3 (Nat.le_refl _) (.inl rfl))
              clear HGo HNx HB2 HF2
              obtain⟨b2,hb2⟩:∃ b2,b2=cc*t+cc:=⟨_,rfl⟩
              obtain⟨m2,hm2⟩:∃ m2,m2=cc*t+c:=⟨_,rfl⟩
              rw [<- hb2]at hgo hN2 hlt3 HMT ⊢
              rw [<- hm2]at hgo
              have hwm:IntKind.i64.wrap (((cc*t:Nat):Int)+c)=(m2:Int):=by rw [IntWalk.i64_in _ (by omega)];omega
              have hwb:IntKind.i64.wrap ((b2:Int)+cc)=((b2+cc:Nat):Int):=by rw [IntWalk.i64_in _ (by omega)];omega
              have hlt3':(b2:Int)<=n:=by omega
              clear hm2 hb2 ht
              generalize cc*t=a2 at *
              go_wp2_with fail
              refine hgo.out.mono ?_
              rintro e w1 ⟨rfl,f',hd1,hr1,hs1,hc1⟩
              have h9:=hN2.out f' hr1 hs1
              go_wp2_with fail
              go_roundw
              case rel=>exact⟨t+1,f',by rw [HMT.out],by rw [HMT.out];first | rfl | go_num,by rw [HMT.out];exact hlt3,hd1,by rw [HMT.out];exact h9.1,by rw [HMT.out];exact h9.2,hc.trans hc1 (fun _ _ h=>h)⟩
              case measure=>simp [intOf];omega
            · have hlt3':¬((cc*t+cc:Nat):Int)<=n:=by omega
              by_cases hlt4:cc*t+c<n
              · have hgo:=hid (HGo.out n (by omega) hlt4 (Nat.le_refl _) (by omega))
                have hN2:=hid (fun f' hr hs=>(HNx.out f' n hr hs ht (Nat.le_refl _) (by omega) (.inr rfl)).1)
                clear HGo HNx HB2 HF2 HMT
                obtain⟨m2,hm2⟩:∃ m2,m2=cc*t+c:=⟨_,rfl⟩
                rw [<- hm2]at hgo hlt4
                have hwm:IntKind.i64.wrap (((cc*t:Nat):Int)+c)=(m2:Int):=by rw [IntWalk.i64_in _ (by omega)];omega
                have hlt4':(m2:Int)<n:=by omega
                clear hm2
                generalize cc*t+cc=b2 at *
                generalize cc*t=a2 at *
                go_wp2_with fail
                refine hgo.out.mono ?_
                rintro e w1 ⟨rfl,f',hd1,hr1,hs1,hc1⟩
                have h9:=hN2.out f' hr1 hs1
                go_wp2_with fail
                go_roundw
                case rel=>exact⟨cc,f',by first | rfl | go_num,by omega,.inl hcc1.2.1,hd1,h9,hc.trans hc1 (fun _ _ h=>h)⟩
                case measure=>simp [intOf];omega
              · have hN2:=hid ((HNx.out g2 n (RearF.refl _ _ _) ((HRe.out t (by omega)).congr fun p x _=>HF2.out p x) ht (Nat.le_refl _) (by omega) (.inr rfl)).1)
                clear HGo HNx HB2 HF2 HMT
                obtain⟨m2,hm2⟩:∃ m2,m2=cc*t+c:=⟨_,rfl⟩
                rw [<- hm2]at hlt4
                have hwm:IntKind.i64.wrap (((cc*t:Nat):Int)+c)=(m2:Int):=by rw [IntWalk.i64_in _ (by omega)];omega
                have hlt4':¬(m2:Int)<n:=by omega
                clear hm2
                generalize cc*t+cc=b2 at *
                generalize cc*t=a2 at *
                go_wp2_with fail
                go_roundw
                case rel=>exact⟨cc,g2,by first | rfl | go_num,by omega,.inl hcc1.2.1,hd,hN2,hc⟩
                case measure=>simp [intOf];omega
        · have hlt2':¬(c:Int)<n:=by omega
          go_wp2_with fail
          go_end0
          exact⟨rfl,f,hd,HB.out.rear,HB.out.whole (by omega),hc⟩
set_option maxRecDepth 512
theorem entersF{f:FuncId}{fn:Func}{c:Code}(hf:Tryz.prog.funcs[f]?=some fn)(hname:(fn.name == "runtime.NumGoroutine")=false)(hb:fn.body=some c)(args:Array Value)(w:World):(callFunc f args).run Tryz.prog w=.ok (.enter f args) w:=by
 have h1:fn.name≠ "runtime.NumGoroutine":=by simpa using hname
 simp [callFunc,hf,h1,hb,mark]
def eV:Elt Tryz.prog Nat:=⟨180,1,4,0,.int .u32 0,fun n=>[.int .u32 (n:Int)],by kernel_rfl,by decide,by decide,by simp [Value.cells],fun _=>rfl,by intro x u hu;simp at hu;subst hu;rfl⟩
theorem vAt{w:World}{v:Value}{l:List Nat}(h:See w eV v l)(k:Nat)(hk:k<l.length) :
  ∃ b off cap,v=.slice (some ⟨b,off,none⟩) l.length cap/\w.cell? ⟨b,off+k,none⟩=some (.int .u32 (l[k]:Int)):=
 h.cell1 (fun n:Nat=>Value.int .u32 (n:Int)) rfl k hk
theorem Ow.up{α:Type}{E:Elt Tryz.prog α}{w:World}{g n cap base:Nat}{l:List α}(h:Ow w 0 E (.slice (some ⟨g,0,none⟩) n cap) l)(hb:base<=g):Ow w base E (.slice (some ⟨g,0,none⟩) n cap) l:=by
 obtain⟨hn,_,cur,hg,r⟩:=h.parts
 exact⟨E.length_cells _,.inr ⟨g,cap,cur,by rw [hn],hb,hg,r⟩⟩
def symsU(often:List Nat):List Nat:=(List.range often.length).filter fun s=>decide (0<often.getD s 0)
theorem symsU_lt(often:List Nat):∀ s∈symsU often,s<often.length:=fun s h=>by
 unfold symsU at h
 exact List.mem_range.1 (List.mem_filter.1 h).1
theorem symsU_up(often:List Nat):(symsU often).Pairwise (·<·):=List.Pairwise.filter _ List.pairwise_lt_range
theorem symsU_len(often:List Nat):(symsU often).length<=often.length:=by
 unfold symsU;have:=List.length_filter_le (fun s=>decide (0<often.getD s 0)) (List.range often.length);simpa using this
def symsTo(often:List Nat)(k:Nat):List Nat:=(List.range k).filter fun s=>decide (0<often.getD s 0)
theorem symsTo_len(often:List Nat)(k:Nat):(symsTo often k).length<=k:=by
 unfold symsTo;have:=List.length_filter_le (fun s=>decide (0<often.getD s 0)) (List.range k);simpa using this
theorem symsTo_succ(often:List Nat)(k:Nat)(h:k<often.length):symsTo often (k+1)=if 0<often[k]then symsTo often k++[k]else symsTo often k:=by
 unfold symsTo
 rw [List.range_succ,List.filter_append]
 have e:often.getD k 0=often[k]:=by rw [List.getD_eq_getElem?_getD,List.getElem?_eq_getElem h];rfl
 by_cases c:0<often[k]
 · rw [if_pos c,List.filter_cons_of_pos (by rw [e];simpa using c)];rfl
 · rw [if_neg c,List.filter_cons_of_neg (by rw [e];simpa using c)];simp
def usedL(often:List Nat):List Nat:=usedK (fun s=>often.getD s 0) (symsU often)
set_option maxRecDepth 100000
theorem used1_any(B:Nat)(v:Value)(often:List Nat)(x y:Nat)(w:World)(hb:w.heap[B]?=some (.cells #[v] 327 (0,0)))(hs:See w eV v often)(hx:x<often.length)(hy:y<often.length) :
  Calls Tryz.prog 354 #[N x,N y,.pointer (some ⟨B,0,none⟩)] w fun e w'=>e=.returned (.int .i64 (cmp3 (often.getD x 0) (often.getD y 0)))/\∃ m,w'=w.drewN m:=by
 have hc:=hs.le
 unfold maxLen at hc
 have HCm:=hid (fun a b W=>compare32_any a b W)
 have c0:w.cell? ⟨B,0,none⟩=some v:=by rw [cell_of_heap hb];rfl
 obtain⟨b,off,cap,hv,c1⟩:=vAt hs x hx
 obtain⟨b',off',cap',hv',c2⟩:=vAt hs y hy
 rw [hv]at hv'
 cases hv'
 subst hv
 have e1:often.getD x 0=often[x]:=by rw [List.getD_eq_getElem?_getD,List.getElem?_eq_getElem hx];rfl
 have e2:often.getD y 0=often[y]:=by rw [List.getD_eq_getElem?_getD,List.getElem?_eq_getElem hy];rfl
 rw [e1,e2]
 have i1:(0:Int)<=x:=by omega
 have i2:(x:Int)<often.length:=by omega
 have i3:(0:Int)<=y:=by omega
 have i4:(y:Int)<often.length:=by omega
 clear e1 e2 hb hs
 generalize often[x]=p at *
 generalize often[y]=q at *
 generalize often.length=L at *
 go_enter Tryz.func354, Tryz.ntmps354
 go_upto_region 1 with fail
 go_quiet ((go_at_call 355;exact Calls.quiet_of_same ((HCm.out _ _ _).mono fun _ _ h=>⟨h.1,h.2.symm⟩)))
 go_wp2_with fail
 go_ret
 exact⟨rfl,nq,rfl⟩
set_option maxRecDepth 512
theorem used1_cmp(B g:Nat)(v:Value)(often:List Nat)(w0:World)(hb:w0.heap[B]?=some (.cells #[v] 327 (0,0)))(hs:See w0 eV v often)(hg:w0.heap.size<=g) :
  CmpK 354 #[.pointer (some ⟨B,0,none⟩)] g (fun s=>often.getD s 0) (fun s=>s<often.length) (fun w=>Fr w0 w) where
 ent:=entersF Tryz.func354 (by kernel_rfl) rfl
 stay h hc:=Chg.below h hc (by have:=h.size;omega) (fun i hi=>by omega)
 call x y h hx hy:=used1_any B v often x y _ (h.heap hb) (hs.fr h) hx hy
set_option maxRecDepth 100000
theorem insort_none(cv:Value)(w:World):Calls Tryz.prog 366 #[.slice none 0 0,N 0,N 0,cv] w fun e w'=>e=.returned (.tuple #[])/\w=w':=by
 go_enter Tryz.func366, Tryz.ntmps366
 go_wp2_with fail
 refine wp_loop_rounds 1 ?_
 rw [rounds_succ]
 go_wp2_with fail
 go_end0
 exact⟨rfl,rfl⟩
theorem stable_none(cv:Value)(w:World):Calls Tryz.prog 363 #[.slice none 0 0,N 0,cv] w fun e w'=>e=.returned (.tuple #[])/\w=w':=by
 have HI:=hid (insort_none cv)
 go_enter Tryz.func363, Tryz.ntmps363
 go_wp2_with fail
 refine wp_loop_rounds 1 ?_
 rw [rounds_succ]
 go_wp2_with fail
 refine(HI.out w).mono ?_
 rintro e w1 ⟨rfl,rfl⟩
 go_wp2_with fail
 refine wp_loop_rounds 1 ?_
 rw [rounds_succ]
 go_wp2_with fail
 go_end0
 exact⟨rfl,rfl⟩
theorem sortStable_any(dv cv:Value)(n:Nat)(a:Option Addr)(cap:Nat)(hv:dv=.slice a n cap)(w:World)(Q:Ending->World->Prop)
  (h:Calls Tryz.prog 363 #[.slice a n cap,N n,cv] w fun e w'=>e=.returned (.tuple #[])/\Q e w') :
  Calls Tryz.prog 353 #[dv,cv] w fun e w'=>e=.returned (.tuple #[])/\Q e w':=by
 subst hv
 have H:=hid h
 clear h
 go_enter Tryz.func353, Tryz.ntmps353
 go_wp2_with fail
 refine H.out.mono ?_
 rintro e w1 ⟨rfl,h1⟩
 go_wp2_with fail
 go_end0
 exact⟨rfl,h1⟩
set_option maxRecDepth 512
theorem getD_range(l:List Nat):(List.range l.length).map (fun p=>l.getD p 0)=l:=by
 apply List.ext_getElem?
 intro i
 by_cases h:i<l.length
 · simp [h]
 · rw [List.getElem?_eq_none (by simp;omega),List.getElem?_eq_none (by omega)]
theorem segF_zero(f:Nat->Nat)(n:Nat):segF f 0 n=(List.range n).map f:=by
 unfold segF
 exact List.map_congr_left fun i _=>by rw [Nat.zero_add]
set_option maxRecDepth 100000
theorem used_any(v:Value)(often:List Nat)(w:World)(hs:See w eV v often)(hn:often.length<=1000000) :
  Calls Tryz.prog 334 #[v] w fun e w'=>∃ v',e=.returned v'/\Ow w' w.heap.size eJ v' (usedL often)/\Fr w w':=by
 obtain⟨a,cap,hv,hcap1,hcap2,hnone⟩:=hs.shape
 subst hv
 unfold maxLen at hcap2
 have hA:Fr w (w.alloc (.cells #[Value.slice a often.length cap] 327)):=(Fr.refl w).alloc _
 have hB:(w.alloc (.cells #[Value.slice a often.length cap] 327)).heap[w.heap.size]?=some (.cells #[Value.slice a often.length cap] 327 (0,0)):=heap_new _ _ _ rfl
 have hsz:(w.alloc (.cells #[Value.slice a often.length cap] 327)).heap.size=w.heap.size+1:=by simp
 have c0:(w.alloc (.cells #[Value.slice a often.length cap] 327)).cell? ⟨w.heap.size,0,none⟩=some (Value.slice a often.length cap):=by rw [cell_of_heap hB];rfl
 have hs0:=hs.fr hA
 have HSZ:=hid hsz
 clear hsz
 go_enter Tryz.func334, Tryz.ntmps334
 go_wp2_with fail
 generalize w.alloc (.cells #[Value.slice a often.length cap] 327)=w0 at *
 go_loopw [3,8] (fun ov iv wr=>∃ k:Nat,k<=often.length/\iv=N k/\Ow wr w0.heap.size eJ ov (symsTo often k)/\Hid (symsTo often k=[]->ov=.slice none 0 0)/\Fr w0 wr) (fun _ iv _=>often.length - (intOf iv).toNat)
 case atStart=>exact⟨0,Nat.zero_le _,rfl,Ow.nil,fun _=>rfl,Fr.refl _⟩
 case round=>
  obtain⟨k,hk,rfl,hout,HNil,hf⟩:=hrel
  by_cases hlt:k<often.length
  · obtain⟨b,off,cap',hv,c1⟩:=vAt (hs0.fr hf) k hlt
    have HS:=hid (symsTo_succ often k hlt)
    have hlen:=symsTo_len often k
    generalize often[k]=x at *
    generalize symsTo often k=m at *
    cases hv
    have i1:(0:Int)<=k:=by omega
    have i2:(k:Int)<often.length:=by omega
    by_cases hx:0<x
    · have hx':(0:Int)<x:=by omega
      have HS2:Hid (symsTo often (k+1)=m++[k]):=by show _=_;rw [HS.out,if_pos hx]
      clear HS
      go_wp2_with (at_builtin;refine wpList_app1 eJ rfl (.tmp 15) (.tmp 17) 49 rfl Tryz.underlying49 w0.heap.size rfl hout [k] _ _ _ rfl rfl rfl (by simp;omega) hf.size ?_)
      intro v' w4 hap
      go_wp2_with fail
      go_roundw
      case rel=>exact⟨k+1,by omega,by go_num,by rw [HS2.out];exact hap.own,fun e=>by rw [HS2.out]at e;simp at e,hap.below hout hf (Nat.le_refl _) hf.size⟩
      case measure=>simp [intOf];omega
    · have hx':¬(0:Int)<x:=by omega
      have HS2:Hid (symsTo often (k+1)=m):=by show _=_;rw [HS.out,if_neg hx]
      clear HS
      go_wp2_with fail
      go_roundw
      case rel=>exact⟨k+1,by omega,by go_num,by rw [HS2.out];exact hout,fun e=>HNil.out (by rw [HS2.out]at e;exact e),hf⟩
      case measure=>simp [intOf];omega
  · obtain rfl:k=often.length:=by omega
    have hnl:¬((often.length:Int)<often.length):=by omega
    have hse:symsTo often often.length=symsU often:=rfl
    rw [hse]at hout HNil
    have hlen:=symsU_len often
    have hFw:Fr w wr:=hA.trans hf
    by_cases h0:symsU often=[]
    · have hu:Hid (usedL often=[]):=by show _=_;unfold usedL;rw [h0];rfl
      have hov:=HNil.out h0
      subst hov
      have hmf:∀ (fn:Fn) (first cap:Array Value) (w:World),(Instr.makeFunc fn first cap).run Tryz.prog w=.ok (.func fn first cap) w:=fun _ _ _ _=>rfl
      have HSo:=hid (fun cv W=>sortStable_any (.slice none 0 0) cv 0 none 0 rfl W (fun _ w'=>W=w') (stable_none cv W))
      clear HNil
      go_wp2_with fail
      refine(HSo.out _ _).mono ?_
      rintro e w1 ⟨rfl,rfl⟩
      go_wp2_with fail
      go_ret
      exact⟨_,rfl,by rw [hu.out];exact Ow.nil,hFw⟩
    · obtain⟨g,oc,hov,hg1,hg2,ho1,ho2⟩:=hout.atHead h0
      have HU:=hid (symsU_up often)
      have HLt:=hid (symsU_lt often)
      have hmf:∀ (fn:Fn) (first cap:Array Value) (w:World),(Instr.makeFunc fn first cap).run Tryz.prog w=.ok (.func fn first cap) w:=fun _ _ _ _=>rfl
      have HUs:Hid (usedL often=usedK (fun s=>often.getD s 0) (symsU often)):=rfl
      generalize symsU often=sy at *
      subst hov
      have hD:DJ wr g sy.length oc (fun p=>sy.getD p 0):=by
       unfold DJ;rw [getD_range];exact hout.rebase (Nat.zero_le _)
      have hCm:=used1_cmp w.heap.size g (.slice a often.length cap) often w0 (by first | exact hB | assumption) hs0 hg1
      have HSt := hid (stable_any hCm sy.length oc (fun p => sy.getD p 0) wr hD hf (by omega) (fun p h => by
       rw [List.getD_eq_getElem?_getD, List.getElem?_eq_getElem h]; exact HLt.out _ (List.getElem_mem h)) (fun p q h1 h2 => by
       rw [List.getD_eq_getElem?_getD, List.getElem?_eq_getElem (by omega), List.getD_eq_getElem?_getD, List.getElem?_eq_getElem h2]
       exact List.pairwise_iff_getElem.1 HU.out p q (by omega) h2 h1))
      have HSo:=hid (fun cv Q h=>sortStable_any (.slice (some ⟨g,0,none⟩) sy.length oc) cv sy.length _ oc rfl wr Q h)
      have HSC:=hid (HSo.out _ _ HSt.out)
      clear HNil HSo HSt hCm
      go_wp2_with fail
      refine HSC.out.mono ?_
      rintro e w1 ⟨rfl,f',hd1,hr1,hs1,hc1⟩
      go_wp2_with fail
      go_ret
      have hE:(List.range sy.length).map f'=usedL often:=by
       rw [HUs.out]
       refine usedK_eq _ sy _ HU.out ?_ ?_
       · have:=hr1.2
         rw [segF_zero,segF_zero,getD_range]at this
         exact this
       · have:=hs1.list
         rw [segF_zero]at this
         exact this
      refine⟨_,rfl,?_,Chg.below hFw hc1 hFw.size (fun i hi=>by have:=hA.size;omega)⟩
      rw [<- hE]
      exact(Ow.up hd1 hg1).rebase hA.size
set_option maxRecDepth 512
end Go.Proofs.YtghcmindankceaaGreatDoor
