/- Parts of the proof of ArchOne: L1 L2. -/
import Derived.Test.YtdagmoonnbnceaaGreatDoorM08
set_option linter.unusedVariables false
set_option linter.unusedSectionVars false
set_option linter.unusedSimpArgs false
set_option maxHeartbeats 8000000
set_option maxRecDepth 100000
namespace Go.Proofs.YtdagmoonnbnceaaGreatDoor
open Go.RowKit Go.Fk
theorem entersF{f:FuncId}{fn:Func}{c:Code}(hf:Tryz.prog.funcs[f]? = some fn)(hname:(fn.name == "runtime.NumGoroutine")=false)(hb:fn.body=some c)(args:Array Value)(w:World):(callFunc f args).run Tryz.prog w=.ok (.enter f args) w:=by
 have h1:fn.name≠ "runtime.NumGoroutine":=by simpa using hname
 simp [callFunc,hf,h1,hb,mark]
def eV:Elt Tryz.prog Nat:=⟨85,1,4,0,.int .u32 0,fun n=>[.int .u32 (n:Int)],by kernel_rfl,by decide,by decide,by simp [Value.cells],fun _=>rfl,by intro x u hu;simp at hu;subst hu;rfl⟩
theorem vAt{w:World}{v:Value}{l:List Nat}(h:See w eV v l)(k:Nat)(hk:k<l.length) :
  ∃ b off cap,v=.slice (some ⟨b,off,none⟩) l.length cap/\w.cell? ⟨b,off+k,none⟩=some (.int .u32 (l[k]:Int)):=
 h.cell1 (fun n:Nat=>Value.int .u32 (n:Int)) rfl k hk
theorem Ow.up{α:Type}{E:Elt Tryz.prog α}{w:World}{g n cap base:Nat}{l:List α}(h:Ow w 0 E (.slice (some ⟨g,0,none⟩) n cap) l)(hb:base<=g):Ow w base E (.slice (some ⟨g,0,none⟩) n cap) l:=by
 obtain⟨hn,_,cur,hg,r⟩:=h.parts
 exact⟨E.length_cells _,.inr ⟨g,cap,cur,by rw [hn],hb,hg,r⟩⟩
def symsU(often:List Nat):List Nat:=(List.range often.length).filter fun s=>decide (0<often.getD s 0)
theorem symsU_lt(often:List Nat):∀ s∈symsU often,s<often.length:=fun s h=>by
 unfold symsU at h
 exact List.mem_range.1 (List.mem_filter.1 h).1
theorem symsU_up(often:List Nat):(symsU often).Pairwise (·<·):=List.Pairwise.filter _ List.pairwise_lt_range
theorem symsU_len(often:List Nat):(symsU often).length<=often.length:=by
 unfold symsU;have:=List.length_filter_le (fun s=>decide (0<often.getD s 0)) (List.range often.length);simpa using this
def symsTo(often:List Nat)(k:Nat):List Nat:=(List.range k).filter fun s=>decide (0<often.getD s 0)
theorem symsTo_len(often:List Nat)(k:Nat):(symsTo often k).length<=k:=by
 unfold symsTo;have:=List.length_filter_le (fun s=>decide (0<often.getD s 0)) (List.range k);simpa using this
theorem symsTo_succ(often:List Nat)(k:Nat)(h:k<often.length):symsTo often (k+1)=if 0<often[k]then symsTo often k++[k]else symsTo often k:=by
 unfold symsTo
 rw [List.range_succ,List.filter_append]
 have e:often.getD k 0=often[k]:=by rw [List.getD_eq_getElem?_getD,List.getElem?_eq_getElem h];rfl
 by_cases c:0<often[k]
 · rw [if_pos c,List.filter_cons_of_pos (by rw [e];simpa using c)];rfl
 · rw [if_neg c,List.filter_cons_of_neg (by rw [e];simpa using c)];simp
def usedL(often:List Nat):List Nat:=usedK (fun s=>often.getD s 0) (symsU often)
theorem used1_any(B:Nat)(v:Value)(often:List Nat)(x y:Nat)(w:World)(hb:w.heap[B]? = some (.cells #[v] 175 (0,0)))(hs:See w eV v often)(hx:x<often.length)(hy:y<often.length) :
  Calls Tryz.prog 224 #[N x,N y,.pointer (some ⟨B,0,none⟩)] w fun e w'=>e=.returned (.int .i64 (cmp3 (often.getD x 0) (often.getD y 0)))/\∃ m,w'=w.drewN m:=by
 have hc:=hs.le
 unfold maxLen at hc
 have HCm:=hid (fun a b W=>compare32_any a b W)
 have c0:=cellx hb 0 rfl
 obtain⟨b,off,cap,hv,c1⟩:=vAt hs x hx
 obtain⟨b',off',cap',hv',c2⟩:=vAt hs y hy
 rw [hv]at hv'
 cases hv'
 subst hv
 have e1:often.getD x 0=often[x]:=by rw [List.getD_eq_getElem?_getD,List.getElem?_eq_getElem hx];rfl
 have e2:often.getD y 0=often[y]:=by rw [List.getD_eq_getElem?_getD,List.getElem?_eq_getElem hy];rfl
 rw [e1,e2]
 have i1:(0:Int)<=x:=by omega
 have i2:(x:Int)<often.length:=by omega
 have i3:(0:Int)<=y:=by omega
 have i4:(y:Int)<often.length:=by omega
 clear e1 e2 hb hs
 generalize often[x]=p at *
 generalize often[y]=q at *
 generalize often.length=L at *
 go_enter Tryz.func224, Tryz.ntmps224
 go_upto_region 1 with fail
 go_quiet ((go_at_call 225;exact Calls.quiet_of_same ((HCm.out _ _ _).mono fun _ _ h=>⟨h.1,h.2.symm⟩)))
 go_wp2_with fail
 go_ret
 exact⟨rfl,nq,rfl⟩
theorem used1_cmp(B g:Nat)(v:Value)(often:List Nat)(w0:World)(hb:w0.heap[B]? = some (.cells #[v] 175 (0,0)))(hs:See w0 eV v often)(hg:w0.heap.size<=g) :
  CmpK 224 #[.pointer (some ⟨B,0,none⟩)] g (fun s=>often.getD s 0) (fun s=>s<often.length) (fun w=>Fr w0 w) where
 ent:=entersF Tryz.func224 (by kernel_rfl) rfl
 stay h hc:=Chg.below h hc (by have:=h.size;omega) (fun i hi=>by omega)
 call x y h hx hy:=used1_any B v often x y _ (h.heap hb) (hs.fr h) hx hy
theorem insort_none(cv:Value)(w:World):Calls Tryz.prog 267 #[.slice none 0 0,N 0,N 0,cv] w fun e w'=>e=.returned (.tuple #[])/\w=w':=by
 go_enter Tryz.func267, Tryz.ntmps267
 go_wp2_with fail
 refine wp_loop_rounds 1 ?_
 rw [rounds_succ]
 go_wp2_with fail
 go_end0
 exact⟨rfl,rfl⟩
theorem stable_none(cv:Value)(w:World):Calls Tryz.prog 248 #[.slice none 0 0,N 0,cv] w fun e w'=>e=.returned (.tuple #[])/\w=w':=by
 have HI:=hid (insort_none cv)
 go_enter Tryz.func248, Tryz.ntmps248
 go_wp2_with fail
 refine wp_loop_rounds 1 ?_
 rw [rounds_succ]
 go_wp2_with fail
 refine(HI.out w).mono ?_
 rintro e w1 ⟨rfl,rfl⟩
 go_wp2_with fail
 refine wp_loop_rounds 1 ?_
 rw [rounds_succ]
 go_wp2_with fail
 go_end0
 exact⟨rfl,rfl⟩
theorem sortStable_any(dv cv:Value)(n:Nat)(a:Option Addr)(cap:Nat)(hv:dv=.slice a n cap)(w:World)(Q:Ending->World->Prop)
  (h:Calls Tryz.prog 248 #[.slice a n cap,N n,cv] w fun e w'=>e=.returned (.tuple #[])/\Q e w') :
  Calls Tryz.prog 223 #[dv,cv] w fun e w'=>e=.returned (.tuple #[])/\Q e w':=by
 subst hv
 have H:=hid h
 clear h
 go_enter Tryz.func223, Tryz.ntmps223
 go_wp2_with fail
 refine H.out.mono ?_
 rintro e w1 ⟨rfl,h1⟩
 go_wp2_with fail
 go_end0
 exact⟨rfl,h1⟩
theorem getD_range(l:List Nat):(List.range l.length).map (fun p=>l.getD p 0)=l:=by
 apply List.ext_getElem?
 intro i
 by_cases h:i<l.length
 · simp [h]
 · rw [List.getElem?_eq_none (by simp;omega),List.getElem?_eq_none (by omega)]
theorem segF_zero(f:Nat->Nat)(n:Nat):segF f 0 n=(List.range n).map f:=by
 unfold segF
 exact List.map_congr_left fun i _=>by rw [Nat.zero_add]
theorem used_any(v:Value)(often:List Nat)(w:World)(hs:See w eV v often)(hn:often.length<=1000000) :
  Calls Tryz.prog 189 #[v] w fun e w'=>∃ v',e=.returned v'/\Ow w' w.heap.size eJ v' (usedL often)/\Fr w w':=by
 obtain⟨a,cap,rfl,hcap1,hcap2,hnone⟩:=hs.shape
 unfold maxLen at hcap2
 have hA:Fr w (w.alloc (.cells #[Value.slice a often.length cap] 175)):=(Fr.refl w).alloc _
 have hB:(w.alloc (.cells #[Value.slice a often.length cap] 175)).heap[w.heap.size]? = some (.cells #[Value.slice a often.length cap] 175 (0,0)):=heap_new _ _ _ rfl
 have hsz:(w.alloc (.cells #[Value.slice a often.length cap] 175)).heap.size=w.heap.size+1:=by simp
 have c0:(w.alloc (.cells #[Value.slice a often.length cap] 175)).cell? ⟨w.heap.size,0,none⟩=some (Value.slice a often.length cap):=by rw [cell_of_heap hB];rfl
 have hs0:=hs.fr hA
 have HSZ:=hid hsz
 clear hsz
 go_enter Tryz.func189, Tryz.ntmps189
 go_wp2_with fail
 generalize w.alloc (.cells #[Value.slice a often.length cap] 175)=w0 at *
 go_loopw [3,8] (fun ov iv wr=>∃ k:Nat,k<=often.length/\iv=N k/\Ow wr w0.heap.size eJ ov (symsTo often k)/\Hid (symsTo often k=[]->ov=.slice none 0 0)/\Fr w0 wr) (fun _ iv _=>often.length - (intOf iv).toNat)
 case atStart=>exact⟨0,Nat.zero_le _,rfl,Ow.nil,fun _=>rfl,Fr.refl _⟩
 case round=>
  obtain⟨k,hk,rfl,hout,HNil,hf⟩:=hrel
  by_cases hlt:k<often.length
  · obtain⟨b,off,cap',hv,c1⟩:=vAt (hs0.fr hf) k hlt
    have HS:=hid (symsTo_succ often k hlt)
    have hlen:=symsTo_len often k
    generalize often[k]=x at *
    generalize symsTo often k=m at *
    cases hv
    have i1:(0:Int)<=k:=by omega
    have i2:(k:Int)<often.length:=by omega
    by_cases hx:0<x
    · have hx':(0:Int)<x:=by omega
      have HS2:Hid (symsTo often (k+1)=m++[k]):=by show _=_;rw [HS.out,if_pos hx]
      clear HS
      go_wp2_with (at_builtin;refine wpList_app1 eJ rfl (.tmp 15) (.tmp 17) 55 rfl Tryz.underlying55 w0.heap.size rfl hout [k] _ _ _ rfl rfl rfl (by simp;omega) hf.size ?_)
      intro v' w4 hap
      go_wp2_with fail
      go_roundw
      case rel=>exact⟨k+1,by omega,by go_num,by rw [HS2.out];exact hap.own,fun e=>by rw [HS2.out]at e;simp at e,hap.below hout hf (Nat.le_refl _) hf.size⟩
      case measure=>simp [intOf];omega
    · have hx':¬(0:Int)<x:=by omega
      have HS2:Hid (symsTo often (k+1)=m):=by show _=_;rw [HS.out,if_neg hx]
      clear HS
      go_wp2_with fail
      go_roundw
      case rel=>exact⟨k+1,by omega,by go_num,by rw [HS2.out];exact hout,fun e=>HNil.out (by rw [HS2.out]at e;exact e),hf⟩
      case measure=>simp [intOf];omega
  · obtain rfl:k=often.length:=by omega
    have hnl:¬((often.length:Int)<often.length):=by omega
    have hse:symsTo often often.length=symsU often:=rfl
    rw [hse]at hout HNil
    have hlen:=symsU_len often
    have hFw:Fr w wr:=hA.trans hf
    by_cases h0:symsU often=[]
    · have hu:Hid (usedL often=[]):=by show _=_;unfold usedL;rw [h0];rfl
      have hov:=HNil.out h0
      subst hov
      have hmf:∀ (fn:Fn) (first cap:Array Value) (w:World),(Instr.makeFunc fn first cap).run Tryz.prog w=.ok (.func fn first cap) w:=fun _ _ _ _=>rfl
      have HSo:=hid (fun cv W=>sortStable_any (.slice none 0 0) cv 0 none 0 rfl W (fun _ w'=>W=w') (stable_none cv W))
      clear HNil
      go_wp2_with fail
      refine(HSo.out _ _).mono ?_
      rintro e w1 ⟨rfl,rfl⟩
      go_wp2_with fail
      go_ret
      exact⟨_,rfl,by rw [hu.out];exact Ow.nil,hFw⟩
    · obtain⟨g,oc,hov,hg1,hg2,ho1,ho2⟩:=hout.atHead h0
      have HU:=hid (symsU_up often)
      have HLt:=hid (symsU_lt often)
      have hmf:∀ (fn:Fn) (first cap:Array Value) (w:World),(Instr.makeFunc fn first cap).run Tryz.prog w=.ok (.func fn first cap) w:=fun _ _ _ _=>rfl
      have HUs:Hid (usedL often=usedK (fun s=>often.getD s 0) (symsU often)):=rfl
      generalize symsU often=sy at *
      subst hov
      have hD:DJ wr g sy.length oc (fun p=>sy.getD p 0):=by
       unfold DJ;rw [getD_range];exact hout.rebase (Nat.zero_le _)
      have hCm:=used1_cmp w.heap.size g (.slice a often.length cap) often w0 (by first | exact hB | assumption) hs0 hg1
      have HSt := hid (stable_any hCm sy.length oc (fun p => sy.getD p 0) wr hD hf (by omega) (fun p h => by
       rw [List.getD_eq_getElem?_getD, List.getElem?_eq_getElem h]; exact HLt.out _ (List.getElem_mem h)) (fun p q h1 h2 => by
       rw [List.getD_eq_getElem?_getD, List.getElem?_eq_getElem (by omega), List.getD_eq_getElem?_getD, List.getElem?_eq_getElem h2]
       exact List.pairwise_iff_getElem.1 HU.out p q (by omega) h2 h1))
      have HSo:=hid (fun cv Q h=>sortStable_any (.slice (some ⟨g,0,none⟩) sy.length oc) cv sy.length _ oc rfl wr Q h)
      have HSC:=hid (HSo.out _ _ HSt.out)
      clear HNil HSo HSt hCm
      go_wp2_with fail
      refine HSC.out.mono ?_
      rintro e w1 ⟨rfl,f',hd1,hr1,hs1,hc1⟩
      go_wp2_with fail
      go_ret
      have hE:(List.range sy.length).map f'=usedL often:=by
       rw [HUs.out]
       refine usedK_eq _ sy _ HU.out ?_ ?_
       · have:=hr1.2
         rw [segF_zero,segF_zero,getD_range]at this
         exact this
       · have:=hs1.list
         rw [segF_zero]at this
         exact this
      refine⟨_,rfl,?_,Chg.below hFw hc1 hFw.size (fun i hi=>by have:=hA.size;omega)⟩
      rw [<- hE]
      exact(Ow.up hd1 hg1).rebase hA.size
end Go.Proofs.YtdagmoonnbnceaaGreatDoor
