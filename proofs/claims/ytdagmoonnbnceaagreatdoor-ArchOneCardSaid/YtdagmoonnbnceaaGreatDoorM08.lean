/- Parts of the proof of ArchOne: S1 S2 S3 S4 S5 S6 S7. -/
import Derived.Test.YtdagmoonnbnceaaGreatDoorM01
import Derived.Test.YtdagmoonnbnceaaGreatDoorM05
import Derived.Test.YtdagmoonnbnceaaGreatDoorM06
set_option linter.unusedVariables false
set_option linter.unusedSectionVars false
set_option linter.unusedSimpArgs false
set_option maxHeartbeats 8000000
set_option maxRecDepth 100000
namespace Go.Proofs.YtdagmoonnbnceaaGreatDoor
open Go.RowKit Go.Fk
def DJ(w:World)(g n cap:Nat)(f:Nat->Nat):Prop:=Ow w 0 eJ (.slice (some ⟨g,0,none⟩) n cap) ((List.range n).map f)
section
variable {w w':World} {g n cap:Nat} {f f':Nat->Nat}
theorem DJ.cell(h:DJ w g n cap f)(p:Nat)(hp:p<n):w.cell? ⟨g,p,none⟩=some (N (f p)):=by
 have:=(Ow.cellAt h (fun n:Nat=>N n) rfl p (by simpa using hp)).1
 simpa using this
theorem DJ.frozen(h:DJ w g n cap f)(p:Nat)(hp:p<n):w.frozen? ⟨g,p,none⟩=false:=(Ow.cellAt h (fun n:Nat=>N n) rfl p (by simpa using hp)).2
theorem DJ.caps(h:DJ w g n cap f):n<=cap/\cap<=maxLen:=by
 obtain⟨_,_,cur,hg,h3,h4,h5,h6⟩:=Ow.parts h
 rw [List.length_map,List.length_range]at h3
 exact⟨h3,h4⟩
theorem DJ.lt(h:DJ w g n cap f):g<w.heap.size:=(Ow.lt h g rfl).2
theorem set_range(n:Nat)(f:Nat->Nat)(i x:Nat):((List.range n).map f).set i x=(List.range n).map (fun p=>if p=i then x else f p):=by
 apply List.ext_getElem?
 intro j
 by_cases hj:j<n
 · by_cases e:i=j
   · subst e;rw [List.getElem?_set_self (by simpa using hj)];simp [hj]
   · rw [List.getElem?_set_ne e];simp [hj,Ne.symm e]
 · rw [List.getElem?_eq_none (by simp;omega),List.getElem?_eq_none (by simp;omega)]
theorem DJ.set(h:DJ w g n cap f)(i:Nat)(hi:i<n)(x:Nat):DJ (w.setCell ⟨g,i,none⟩ (N x)) g n cap (fun p=>if p=i then x else f p):=by
 have:=Ow.set h (fun n:Nat=>N n) rfl i (by simpa using hi) x (N x) rfl
 unfold DJ
 rw [<- set_range];exact this
theorem DJ.congr(h:DJ w g n cap f)(he:∀ p,p<n->f' p=f p):DJ w g n cap f':=by
 unfold DJ at *
 rw [List.map_congr_left (fun p hp=>he p (List.mem_range.1 hp))];exact h
theorem DJ.swap(h:DJ w g n cap f)(i j:Nat)(hi:i<n)(hj:j<n):DJ ((w.setCell ⟨g,i,none⟩ (N (f j))).setCell ⟨g,j,none⟩ (N (f i))) g n cap (sw2 f i j):=
 ((h.set i hi (f j)).set j hj (f i)).congr fun p _=>rfl
theorem DJ.chg{G:Nat->Prop}(h:DJ w g n cap f)(hc:Chg G w w')(hg:¬G g):DJ w' g n cap f:=Ow.chg h hc fun k hk=>by
 simp only [Value.ownBlock,Option.some.injEq]at hk;subst hk;exact hg
theorem DJ.fr(h:DJ w g n cap f)(hf:Fr w w'):DJ w' g n cap f:=Ow.fr h hf
end
theorem swap_chg(w:World)(g i j:Nat)(u v:Value):Chg (fun k=>k=g) w ((w.setCell ⟨g,i,none⟩ u).setCell ⟨g,j,none⟩ v):=(setCell_chg w ⟨g,i,none⟩ u).trans (setCell_chg _ ⟨g,j,none⟩ v) (fun _ _ h=>h)
def cmp3(a b:Nat):Int:=if a<b then -1 else if b<a then 1 else 0
theorem cmp3_neg(a b:Nat):(cmp3 a b<0)=(a<b):=by unfold cmp3;split <;> (try split) <;> simp <;> omega
structure CmpK (k:Nat) (caps:Array Value) (g:Nat) (key:Nat->Nat) (ok:Nat->Prop) (I:World->Prop):Prop where
 ent:∀ args w,(callFunc k args).run Tryz.prog w=.ok (.enter k args) w
 stay:∀ {w w'},I w->Chg (fun b=>b=g) w w'->I w'
 call:∀ {w} (x y:Nat),I w->ok x->ok y->Calls Tryz.prog k (#[N x,N y]++caps) w fun e w'=>e=.returned (.int .i64 (cmp3 (key x) (key y)))/\∃ m,w'=w.drewN m
theorem CmpK.fr{k:Nat}{caps:Array Value}{g:Nat}{key:Nat->Nat}{ok:Nat->Prop}{I:World->Prop}(h:CmpK k caps g key ok I){w w':World}(hI:I w)(hf:Fr w w'):I w':=h.stay hI (hf.chg _)
theorem isNaN32_any(x:Nat)(w:World):Calls Tryz.prog 249 #[.int .u32 (x:Int)] w fun e w'=>e=.returned (.bool false)/\w=w':=by
 go_enter Tryz.func249, Tryz.ntmps249
 go_wp2_with fail
 go_ret
 exact⟨by simp,rfl⟩
theorem compare32_any(x y:Nat)(w:World):Calls Tryz.prog 225 #[.int .u32 (x:Int),.int .u32 (y:Int)] w fun e w'=>e=.returned (.int .i64 (cmp3 x y))/\w=w':=by
 have HN:=hid (fun x W=>isNaN32_any x W)
 rcases Nat.lt_trichotomy x y with h | h | h
 · have hc:cmp3 x y=-1:=by unfold cmp3;rw [if_pos h]
   rw [hc]
   go_enter Tryz.func225, Tryz.ntmps225
   go_wp2_with (first | (go_at_call 249;refine(HN.out _ _).mono ?_;rintro e w' ⟨rfl,rfl⟩))
   go_ret
   exact⟨rfl,rfl⟩
 · have hc:cmp3 x y=0:=by unfold cmp3;rw [if_neg (by omega),if_neg (by omega)]
   have h1:¬x<y:=by omega
   have h2:¬y<x:=by omega
   rw [hc]
   go_enter Tryz.func225, Tryz.ntmps225
   go_wp2_with (first | (go_at_call 249;refine(HN.out _ _).mono ?_;rintro e w' ⟨rfl,rfl⟩))
   go_ret
   exact⟨rfl,rfl⟩
 · have hc:cmp3 x y=1:=by unfold cmp3;rw [if_neg (by omega),if_pos h]
   have h1:¬x<y:=by omega
   rw [hc]
   go_enter Tryz.func225, Tryz.ntmps225
   go_wp2_with (first | (go_at_call 249;refine(HN.out _ _).mono ?_;rintro e w' ⟨rfl,rfl⟩))
   go_ret
   exact⟨rfl,rfl⟩
theorem swapRange_any(a b m:Nat)(cv:Value)(g n cap:Nat)(f:Nat->Nat)(w:World)(hd:DJ w g n cap f)(hab:a+m<=b)(hb:b+m<=n)(hn:n<=1000000000) :
  Calls Tryz.prog 287 #[.slice (some ⟨g,0,none⟩) n cap,N a,N b,N m,cv] w fun e w'=>e=.returned (.tuple #[])/\DJ w' g n cap (swpF f a b m)/\Chg (fun k=>k=g) w w':=by
 obtain⟨hc1,hc2⟩:=hd.caps
 unfold maxLen at hc2
 go_enter Tryz.func287, Tryz.ntmps287
 go_wp2_with fail
 go_loopw [10] (fun iv wr=>∃ i:Nat,i<=m/\iv=N i/\DJ wr g n cap (swpF f a b i)/\Chg (fun k=>k=g) w wr) (fun iv _=>m - (intOf iv).toNat)
 case atStart=>exact⟨0,Nat.zero_le _,rfl,hd.congr fun p _=>swpF_zero f a b p,Chg.refl _ w⟩
 case round=>
  clear hd
  obtain⟨i,hi,rfl,hdw,hc⟩:=hrel
  by_cases hlt:i<m
  · have hlt':(i:Int)<m:=by omega
    have c1:=hdw.cell (a+i) (by omega)
    have c2:=hdw.cell (b+i) (by omega)
    have z1:=hdw.frozen (a+i) (by omega)
    have z2:=hdw.frozen (b+i) (by omega)
    have HD:=hid (hdw.swap (a+i) (b+i) (by omega) (by omega))
    have hw1:IntKind.i64.wrap ((a:Int)+i)=((a+i:Nat):Int):=by rw [IntWalk.i64_in _ (by omega)];omega
    have hw2:IntKind.i64.wrap ((b:Int)+i)=((b+i:Nat):Int):=by rw [IntWalk.i64_in _ (by omega)];omega
    have i1:(0:Int)<=((a+i:Nat):Int):=by omega
    have i2:((a+i:Nat):Int)<n:=by omega
    have i3:(0:Int)<=((b+i:Nat):Int):=by omega
    have i4:((b+i:Nat):Int)<n:=by omega
    have i5:a+i<n:=by omega
    have i6:b+i<n:=by omega
    have HS:=hid (fun p=>swpF_succ f a b i p (by omega))
    generalize swpF f a b i=f1 at *
    generalize hpa:a+i=pa at *
    generalize hpb:b+i=pb at *
    have hne:pa≠pb:=by omega
    have z2':(wr.drew.setCell ⟨g,pa,none⟩ (N (f1 pb))).frozen? ⟨g,pb,none⟩=false:=by
     rw [World.frozen?_setCell];exact z2
    go_upto_region 3 with fail
    go_region
    all_goals go_wp2_with fail
    all_goals go_roundw
    case rel=>exact⟨i+1,by omega,by go_num,(HD.out.congr fun p _=>(HS.out p).symm).fr (Fr.drew (Fr.refl _)),hc.trans ((swap_chg wr g pa pb _ _).trans ((Fr.drew (Fr.refl _)).chg (fun k=>k=g)) (fun _ _ h=>h)) (fun _ _ h=>h)⟩
    case measure=>simp [intOf];omega
  · obtain rfl:i=m:=by omega
    have hnl:¬((i:Int)<i):=by omega
    go_wp2_with fail
    go_end0
    exact⟨rfl,hdw,hc⟩
theorem ins_done(key f1 f2:Nat->Nat)(a j i:Nat)(h1:a<=j)(h2:j<=i)(hs:SrtF key f1 a i)(hf:∀ p,f2 p=insF f1 j i p)(hhi:∀ p,j<=p->p<i->ltK key (f1 i) (f1 p))(hlt:∀ p,a<=p->p<i->f1 p<f1 i)(hst:j=a\/¬key (f1 i)<key (f1 (j - 1))):SrtF key f2 a (i+1):=by
 refine(insF_srt key f1 a j i hs h1 h2 (fun p h3 h4=>?_) hhi).congr fun p _ _=>hf p
 have hj:ltK key (f1 (j - 1)) (f1 i):=by
  have:=hlt (j - 1) (by omega) (by omega)
  unfold ltK;omega
 by_cases e:p=j - 1
 · rw [e];exact hj
 · exact ltK_trans (hs p (j - 1) h3 (by omega) (by omega)) hj
theorem ins_lt(f f1:Nat->Nat)(a i b:Nat)(hr:RearF f f1 a i)(hup:∀ p q,a<=p->p<q->q<b->f p<f q)(hi:i<b)(hai:a<=i):∀ p,a<=p->p<i->f1 p<f1 i:=by
 intro p h1 h2
 obtain⟨q,h3,h4,h5⟩:=hr.mem p h1 h2
 rw [h5,hr.1 i (by omega)]
 exact hup q i h3 h4 hi
theorem insort_any {k : Nat} {caps : Array Value} {g : Nat} {key : Nat → Nat} {ok : Nat → Prop} {I : World → Prop} (hk : CmpK k caps g key ok I) (a b n cap : Nat) (f : Nat → Nat) (w : World) (hd : DJ w g n cap f) (hI : I w) (hab : a ≤ b) (hb : b ≤ n) (hn : n ≤ 1000000000)
    (hok:∀ p,a<=p->p<b->ok (f p)) (hup:∀ p q,a<=p->p<q->q<b->f p<f q) :
    Calls Tryz.prog 267 #[.slice (some ⟨g,0,none⟩) n cap,N a,N b,.func (.func k) #[] caps] w fun e w'=>e=.returned (.tuple #[])/\∃ f',DJ w' g n cap f'/\RearF f f' a b/\SrtF key f' a b/\Chg (fun k=>k=g) w w':=by
  obtain⟨hc1,hc2⟩:=hd.caps
  unfold maxLen at hc2
  have hent:=hk.ent
  have HK:=hid hk
  clear hk
  have hwa:IntKind.i64.wrap ((a:Int)+1)=((a+1:Nat):Int):=by rw [IntWalk.i64_in _ (by omega)];omega
  go_enter Tryz.func267, Tryz.ntmps267
  go_wp2_with fail
  go_loopw [8] (fun iv wr=>∃ (i:Nat) (f1:Nat->Nat),iv=N i/\a+1<=i/\(i<=b\/i=a+1)/\DJ wr g n cap f1/\Hid (RearF f f1 a (min i b))/\Hid (SrtF key f1 a (min i b))/\Chg (fun k=>k=g) w wr) (fun iv _=>b - (intOf iv).toNat)
  case atStart=>exact⟨a+1,f,rfl,Nat.le_refl _,.inr rfl,hd,RearF.refl _ _ _,fun i j h1 h2 h3=>by omega,Chg.refl _ w⟩
  case round=>
    obtain⟨i,f1,rfl,hi1,hi2,hd1,HR,HS,hc⟩:=hrel
    by_cases hlt:i<b
    · have hlt':(i:Int)<b:=by omega
      rw [Nat.min_eq_left (by omega)]at HR HS
      go_wp2_with fail
      generalize wr=wo at *
      go_loopw [9] (fun jv wr=>∃ (j:Nat) (f2:Nat->Nat),jv=N j/\a<=j/\j<=i/\DJ wr g n cap f2/\Hid (∀ p,f2 p=insF f1 j i p)/\Hid (∀ p,j<=p->p<i->ltK key (f1 i) (f1 p))/\Hid (RearF f1 f2 a (i+1))/\Chg (fun k=>k=g) w wr) (fun jv _=>(intOf jv).toNat)
      case atStart=>exact⟨i,f1,rfl,by omega,Nat.le_refl _,hd1,fun p=>by unfold insF;rw [rotF_id1 f1 i (i+1) p (by omega)],fun p h1 h2=>by omega,RearF.refl _ _ _,hc⟩
      case round=>
        clear hd1 hc
        obtain⟨j,f2,rfl,hj1,hj2,hd2,HF,HG,HR2,hc⟩:=hrel
        have HLT:=hid (ins_lt f f1 a i b HR.out hup hlt (by omega))
        have HDn:=hid (fun hst=>ins_done key f1 f2 a j i hj1 hj2 HS.out HF.out HG.out HLT.out hst)
        have HRn:Hid (RearF f f2 a (i+1)):=(HR.out.widen (Nat.le_refl _) (by omega) (by omega)).trans HR2.out
        have hwi:IntKind.i64.wrap ((i:Int)+1)=((i+1:Nat):Int):=by rw [IntWalk.i64_in _ (by omega)];omega
        by_cases hja:a<j
        · have hja':(a:Int)<j:=by omega
          have hja2:decide ((a:Int)<j)=true:=decide_eq_true hja'
          have hwj:IntKind.i64.wrap ((j:Int) - 1)=((j - 1:Nat):Int):=by rw [IntWalk.i64_in _ (by omega)];omega
          have e1:f2 j=f1 i:=by rw [HF.out];unfold insF rotF;rw [if_pos (by omega)];congr 1;omega
          have e2:f2 (j - 1)=f1 (j - 1):=by rw [HF.out];unfold insF rotF;rw [if_neg (by omega),if_neg (by omega)]
          have c1:=hd2.cell j (by omega)
          have c2:=hd2.cell (j - 1) (by omega)
          have z1:=hd2.frozen j (by omega)
          have z2:=hd2.frozen (j - 1) (by omega)
          have HSw:=hid (hd2.swap j (j - 1) (by omega) (by omega))
          rw [e1]at c1 HSw
          rw [e2]at c2 HSw
          have okx:ok (f1 i):=by rw [HR.out.1 i (by omega)];exact hok i (by omega) hlt
          have oky:ok (f1 (j - 1)):=by
            obtain⟨q,h3,h4,h5⟩:=HR.out.mem (j - 1) (by omega) (by omega)
            rw [h5];exact hok q h3 (by omega)
          have HC:=hid (fun m=>HK.out.call (f1 i) (f1 (j - 1)) (HK.out.fr (HK.out.stay hI hc) ((Fr.refl wr).drewN m)) okx oky)
          have HSW:Hid (∀ p,sw2 f2 j (j - 1) p=insF f1 (j - 1) i p):=fun p=>by
            have:=rot_down f1 i j p hj2 (by omega)
            have e:f2=rotF f1 j i (i+1):=funext fun p=>HF.out p
            rw [e];exact this
          have HG2:Hid (key (f1 i)<key (f1 (j - 1))->∀ p,j - 1<=p->p<i->ltK key (f1 i) (f1 p)):=fun h p h1 h2=>by
            by_cases e:p=j - 1
            · rw [e];exact .inl h
            · exact HG.out p (by omega) h2
          have HR3:Hid (RearF f1 (sw2 f2 j (j - 1)) a (i+1)):=by
            have h1:RearF f1 (rotF f1 (j - 1) i (i+1)) a (i+1):=(rotF_rear f1 (j - 1) i (i+1) (by omega) (by omega)).widen (by omega) (by omega) (Nat.le_refl _)
            exact h1.congr HSW.out
          have hcn:=cmp3_neg (key (f1 i)) (key (f1 (j - 1)))
          have HDn2:Hid (¬key (f1 i)<key (f1 (j - 1))->SrtF key f2 a (i+1)):=fun h=>HDn.out (.inr h)
          clear e1 e2 okx oky HF HG HR2 HDn
          generalize hx:f1 i=x at *
          generalize hy:f1 (j - 1)=y at *
          generalize hj':j - 1=j1 at *
          have HX:=hid hx
          have HY:=hid hy
          clear hx hy
          have i1:(0:Int)<=j:=by omega
          have i2:(j:Int)<n:=by omega
          have i3:(0:Int)<=j1:=by omega
          have i4:(j1:Int)<n:=by omega
          have i5:j<n:=by omega
          have i6:j1<n:=by omega
          have hne:j≠j1:=by omega
          have hjj:j1<j:=by omega
          have haj1:a<=j1:=by omega
          have hne2:j1≠j:=by omega
          have HJ:=hid hj'
          clear hj'
          generalize hcv:cmp3 (key x) (key y)=cv at *
          have hcd:decide (cv<0)=decide (key x<key y):=by simp [hcn]
          generalize hkx:key x=kx at *
          generalize hky:key y=ky at *
          clear hcn hcv hkx hky
          go_upto_region 4 with fail
          go_quiet ((exact Calls.quiet_of (HC.out _)))
          have hfq:=(Fr.refl wr).drewN nq
          have hc1:=hc.trans (hfq.chg (fun k=>k=g)) (fun _ _ h=>h)
          have hd3:=hd2.fr hfq
          replace c1:=hfq.cell c1
          replace c2:=hfq.cell c2
          have z1':(wr.drewN nq).frozen? ⟨g,j,none⟩=false:=z1
          have z2':(wr.drewN nq).frozen? ⟨g,j1,none⟩=false:=z2
          have HSw2:Hid (DJ (((wr.drewN nq).setCell ⟨g,j,none⟩ (N y)).setCell ⟨g,j1,none⟩ (N x)) g n cap (sw2 f2 j j1)):=HSw.out.fr ((Fr.refl _).drewN nq)
          clear HSw z1 z2 hd2 hc hfq HC
          generalize wr.drewN nq=w1 at *
          by_cases hxy:kx<ky
          · have hxd:decide (kx<ky)=true:=decide_eq_true hxy
            go_upto_region 6 with fail
            go_region
            all_goals go_wp2_with fail
            all_goals go_roundw
            case rel=>exact⟨j1,sw2 f2 j j1,rfl,by omega,by omega,HSw2.out.fr (Fr.drew (Fr.refl _)),HSW,HG2.out hxy,HR3,hc1.trans ((swap_chg w1 g j j1 _ _).trans ((Fr.drew (Fr.refl _)).chg (fun k=>k=g)) (fun _ _ h=>h)) (fun _ _ h=>h)⟩
            case measure=>simp [intOf];omega
          · have hxd:decide (kx<ky)=false:=decide_eq_false hxy
            have HDone:=hid (HDn2.out hxy)
            go_wp2_with fail
            go_roundw
            case rel=>exact⟨i+1,f2,by go_num,by omega,.inl (by omega),hd3,by rw [Nat.min_eq_left (by omega)];exact HRn,by rw [Nat.min_eq_left (by omega)];exact HDone,hc1⟩
            case measure=>simp [intOf];omega
        · obtain rfl:j=a:=by omega
          have hja':¬(j:Int)<j:=by omega
          have HDone:=hid (HDn.out (.inl rfl))
          clear HDn HF HG HR2
          go_upto_region 4 with fail
          go_quiet (fail)
          go_wp2_with fail
          go_roundw
          case rel=>exact⟨i+1,f2,by go_num,by omega,.inl (by omega),hd2.fr ((Fr.refl _).drewN _),by rw [Nat.min_eq_left (by omega)];exact HRn,by rw [Nat.min_eq_left (by omega)];exact HDone,hc.trans (((Fr.refl _).drewN _).chg (fun k=>k=g)) (fun _ _ h=>h)⟩
          case measure=>simp [intOf];omega
    · have hlt':¬(i:Int)<b:=by omega
      rw [Nat.min_eq_right (by omega)]at HR HS
      go_wp2_with fail
      go_end0
      exact⟨rfl,f1,hd1,HR.out,HS.out,hc⟩
theorem rotate_any (a m b : Nat) (cv : Value) (g n cap : Nat) (f : Nat → Nat) (w : World) (hd : DJ w g n cap f) (ham : a < m) (hmb : m < b) (hb : b ≤ n) (hn : n ≤ 1000000000) :
    Calls Tryz.prog 281 #[.slice (some ⟨g,0,none⟩) n cap,N a,N m,N b,cv] w fun e w'=>e=.returned (.tuple #[])/\DJ w' g n cap (rotF f a m b)/\Chg (fun k=>k=g) w w':=by
  have HSR:=hid (fun a b k f w (h:DJ w g n cap f) (h1:a+k<=b) (h2:b+k<=n)=>swapRange_any a b k cv g n cap f w h h1 h2 hn)
  have hw1:IntKind.i64.wrap ((m:Int) - a)=((m - a:Nat):Int):=by rw [IntWalk.i64_in _ (by omega)];omega
  have hw2:IntKind.i64.wrap ((b:Int) - m)=((b - m:Nat):Int):=by rw [IntWalk.i64_in _ (by omega)];omega
  go_enter Tryz.func281, Tryz.ntmps281
  go_wp2_with fail
  go_loopw [10,11] (fun iv jv wr=>∃ (i j:Nat) (f1:Nat->Nat),iv=N i/\jv=N j/\1<=i/\1<=j/\i<=m - a/\j<=b - m/\DJ wr g n cap f1/\Hid (∀ p,rotF f1 (m - i) m (m+j) p=rotF f a m b p)/\Chg (fun k=>k=g) w wr) (fun iv jv _=>(intOf iv).toNat+(intOf jv).toNat)
  case atStart=>exact⟨m - a,b - m,f,by first | rfl | go_num,by first | rfl | go_num,by omega,by omega,Nat.le_refl _,Nat.le_refl _,hd,fun p=>by rw [show m - (m - a)=a by omega,show m+(b - m)=b by omega],Chg.refl _ w⟩
  case round=>
    clear hd
    obtain⟨i,j,f1,rfl,rfl,hi1,hj1,hi2,hj2,hd,HR,hc⟩:=hrel
    have hwm:IntKind.i64.wrap ((m:Int) - i)=((m - i:Nat):Int):=by rw [IntWalk.i64_in _ (by omega)];omega
    rcases Nat.lt_trichotomy i j with h | h | h
    · have hne:((i:Int) == j)=false:=by simp;omega
      have hne2:i≠j:=by omega
      have hgt:¬(j:Int)<i:=by omega
      have hwj:IntKind.i64.wrap ((m:Int)+j)=((m+j:Nat):Int):=by rw [IntWalk.i64_in _ (by omega)];omega
      have hwj2:IntKind.i64.wrap (((m+j:Nat):Int) - i)=((m+j - i:Nat):Int):=by rw [IntWalk.i64_in _ (by omega)];omega
      have hwj3:IntKind.i64.wrap ((j:Int) - i)=((j - i:Nat):Int):=by rw [IntWalk.i64_in _ (by omega)];omega
      have HC:=hid (HSR.out (m - i) (m+j - i) i f1 wr hd (by omega) (by omega))
      have HN:Hid (∀ p,rotF (swpF f1 (m - i) (m+j - i) i) (m - i) m (m+(j - i)) p=rotF f a m b p):=fun p=>by rw [rot_right f1 m i j p (by omega) h];exact HR.out p
      have hji:1<=j - i/\j - i<j/\j - i<=b - m:=by omega
      generalize hmi:m - i=mi at *
      have HMI:=hid hmi
      clear hmi
      generalize m+j - i=mj at *
      generalize m+j=mj2 at *
      generalize j - i=ji at *
      go_wp2_with fail
      refine HC.out.mono ?_
      rintro e w1 ⟨rfl,hd1,hc1⟩
      go_wp2_with fail
      go_roundw
      case rel=>exact⟨i,ji,_,rfl,rfl,hi1,hji.1,hi2,hji.2.2,hd1,(by rw [HMI.out];exact HN),hc.trans hc1 (fun _ _ h=>h)⟩
      case measure=>simp [intOf];omega
    · subst h
      have HC:=hid (HSR.out (m - i) m i f1 wr hd (by omega) (by omega))
      have HN:Hid (∀ p,swpF f1 (m - i) m i p=rotF f a m b p):=fun p=>by rw [rot_even f1 m i p (by omega)];exact HR.out p
      generalize m - i=mi at *
      go_wp2_with fail
      refine HC.out.mono ?_
      rintro e w1 ⟨rfl,hd1,hc1⟩
      go_wp2_with fail
      go_end0
      exact⟨rfl,hd1.congr fun p _=>(HN.out p).symm,hc.trans hc1 (fun _ _ h=>h)⟩
    · have hne:((i:Int) == j)=false:=by simp;omega
      have hne2:i≠j:=by omega
      have hgt:(j:Int)<i:=by omega
      have hwj3:IntKind.i64.wrap ((i:Int) - j)=((i - j:Nat):Int):=by rw [IntWalk.i64_in _ (by omega)];omega
      have HC:=hid (HSR.out (m - i) m j f1 wr hd (by omega) (by omega))
      have HN:Hid (∀ p,rotF (swpF f1 (m - i) m j) (m - (i - j)) m (m+j) p=rotF f a m b p):=fun p=>by rw [rot_left f1 m i j p (by omega) h];exact HR.out p
      have hji:1<=i - j/\i - j<i/\i - j<=m - a:=by omega
      generalize m - i=mi at *
      generalize i - j=ij at *
      go_wp2_with fail
      refine HC.out.mono ?_
      rintro e w1 ⟨rfl,hd1,hc1⟩
      go_wp2_with fail
      go_roundw
      case rel=>exact⟨ij,j,_,rfl,rfl,hji.1,hj1,hji.2.2,hj2,hd1,HN,hc.trans hc1 (fun _ _ h=>h)⟩
      case measure=>simp [intOf];omega
theorem half_facts(i j:Nat)(h:i+j<=4000000000):IntKind.i64.wrap ((i:Int)+j)=((i+j:Nat):Int)/\IntKind.u64.wrap ((i+j:Nat):Int)=((i+j:Nat):Int)/\((i+j:Nat):Int) / 2=(((i+j) / 2:Nat):Int)/\IntKind.i64.wrap (((i+j) / 2:Nat):Int)=(((i+j) / 2:Nat):Int):=by
  refine⟨?_,IntWalk.u64_in _ (by omega),by omega,IntWalk.i64_in _ (by omega)⟩
  rw [IntWalk.i64_in _ (by omega)];omega
theorem symA_any {k : Nat} {caps : Array Value} {g : Nat} {key : Nat → Nat} {ok : Nat → Prop} {I : World → Prop} (hk : CmpK k caps g key ok I) (a b n cap : Nat) (f : Nat → Nat) (w : World) (hd : DJ w g n cap f) (hI : I w) (hab : a + 1 < b) (hb : b ≤ n) (hn : n ≤ 1000000000)
    (hok:∀ p,a<=p->p<b->ok (f p)) (hah:AheadF f a (a+1) b) (hs2:SrtF key f (a+1) b) :
    Calls Tryz.prog 268 #[.slice (some ⟨g,0,none⟩) n cap,N a,N (a+1),N b,.func (.func k) #[] caps] w fun e w'=>e=.returned (.tuple #[])/\∃ f',DJ w' g n cap f'/\RearF f f' a b/\SrtF key f' a b/\Chg (fun k=>k=g) w w':=by
  obtain⟨hc1,hc2⟩:=hd.caps
  unfold maxLen at hc2
  have hent:=hk.ent
  have HK:=hid hk
  have HOK:=hid hok
  have HAH:=hid hah
  have HS:=hid hs2
  clear hk hok hah hs2
  have hm1:(((a+1:Nat):Int) - a == 1)=true:=by simp;omega
  have hm2:((a+1:Nat):Int) - a=1:=by omega
  have hw0:IntKind.i64.wrap (((a+1:Nat):Int) - a)=1:=by rw [hm2];exact IntWalk.i64_in _ (by omega)
  obtain⟨m,hm⟩:∃ m,m=a+1:=⟨_,rfl⟩
  rw [<- hm]at hm1 hm2 hw0 ⊢
  have HM:=hid hm
  have hma:a<m:=by omega
  have hmb:m<b:=by omega
  clear hm
  go_enter Tryz.func268, Tryz.ntmps268
  go_wp2_with fail
  go_loopw [10,11] (fun iv jv wr=>∃ (i j:Nat),iv=N i/\jv=N j/\m<=i/\i<=j/\j<=b/\Hid (∀ p,m<=p->p<i->ltK key (f p) (f a))/\Hid (∀ p,j<=p->p<b->ltK key (f a) (f p))/\∃ q,wr=w.drewN q) (fun iv jv _=>(intOf jv).toNat - (intOf iv).toNat)
  case atStart=>exact⟨m,b,rfl,rfl,Nat.le_refl _,by omega,Nat.le_refl _,fun p h1 h2=>by omega,fun p h1 h2=>by omega,0,rfl⟩
  case round=>
    obtain⟨i,j,rfl,rfl,hi,hij,hj,HL,HH,q,rfl⟩:=hrel
    by_cases hlt:i<j
    · have hlt':(i:Int)<j:=by omega
      obtain⟨h1,h2,h3,h4⟩:=half_facts i j (by omega)
      have hh1:i<=(i+j) / 2:=by omega
      have hh2:(i+j) / 2<j:=by omega
      generalize (i+j) / 2=h at *
      generalize i+j=ij at *
      have c1:=(hd.fr ((Fr.refl w).drewN q)).cell h (by omega)
      have c2:=(hd.fr ((Fr.refl w).drewN q)).cell a (by omega)
      have HC:=hid (fun r=>HK.out.call (f h) (f a) (HK.out.fr hI (((Fr.refl w).drewN q).drewN r)) (HOK.out h (by omega) (by omega)) (HOK.out a (by omega) (by omega)))
      have hcn:=cmp3_neg (key (f h)) (key (f a))
      generalize hW:w.drewN q=W at *
      have HW:=hid hW
      clear hW
      have HA:=hid (ahead_lt (key:=key) HAH.out (Nat.le_refl a) (by omega) (show a+1<=h by have:=HM.out;omega) (by omega))
      have HL2:Hid (key (f h)<key (f a)->∀ p,m<=p->p<h+1->ltK key (f p) (f a)):=fun e p h1 h2=>by
        have e1:=HA.out.1.1 e
        by_cases c:p=h
        · rw [c];exact e1
        · exact ltK_trans (HS.out p h (by have:=HM.out;omega) (by omega) (by omega)) e1
      have HH2:Hid (¬key (f h)<key (f a)->∀ p,h<=p->p<b->ltK key (f a) (f p)):=fun e p h1 h2=>by
        have e1:=HA.out.2.1 e
        by_cases c:p=h
        · rw [c];exact e1
        · exact ltK_trans e1 (HS.out h p (by have:=HM.out;omega) (by omega) (by omega))
      have i1:(0:Int)<=h:=by omega
      have i2:(h:Int)<n:=by omega
      have i3:(0:Int)<=a:=by omega
      have i4:(a:Int)<n:=by omega
      have hwh:IntKind.i64.wrap ((h:Int)+1)=((h+1:Nat):Int):=by rw [IntWalk.i64_in _ (by omega)];omega
      clear HA
      generalize hx:f h=x at *
      generalize hy:f a=y at *
      have HX:=hid hx
      have HY:=hid hy
      clear hx hy
      generalize hcv:cmp3 (key x) (key y)=cv at *
      have hcd:decide (cv<0)=decide (key x<key y):=by simp [hcn]
      generalize hkx:key x=kx at *
      generalize hky:key y=ky at *
      clear hcn hcv hkx hky
      go_upto_region 5 with fail
      go_quiet ((exact Calls.quiet_of (HC.out _)))
      by_cases hxy:kx<ky
      · have hxd:decide (kx<ky)=true:=decide_eq_true hxy
        go_wp2_with fail
        go_roundw
        case rel=>exact⟨h+1,j,by go_num,rfl,by omega,by omega,hj,HL2.out hxy,HH,q+nq,by rw [<- HW.out,World.drewN_drewN]⟩
        case measure=>simp [intOf];omega
      · have hxd:decide (kx<ky)=false:=decide_eq_false hxy
        go_wp2_with fail
        go_roundw
        case rel=>exact⟨i,h,rfl,rfl,hi,hh1,by omega,HL,HH2.out hxy,q+nq,by rw [<- HW.out,World.drewN_drewN]⟩
        case measure=>simp [intOf];omega
    · obtain rfl:i=j:=by omega
      have hnl:¬((i:Int)<i):=by omega
      have hdq:=hd.fr ((Fr.refl w).drewN q)
      have hcq:Chg (fun k=>k=g) w (w.drewN q):=((Fr.refl w).drewN q).chg _
      have HDn:=hid (merge_one key f a b i HS.out (by have:=HM.out;omega) hj (fun p h1 h2=>HL.out p (by have:=HM.out;omega) h2) HH.out)
      have HRr:=hid ((rotF_rear f a (a+1) i (by omega) (by have:=HM.out;omega)).widen (Nat.le_refl a) (by have:=HM.out;omega) hj)
      have hwi:IntKind.i64.wrap ((i:Int) - 1)=((i - 1:Nat):Int):=by rw [IntWalk.i64_in _ (by omega)];omega
      clear HL HH hI
      generalize w.drewN q=wq at *
      go_wp2_with fail
      go_loopw [13] (fun kv wr=>∃ (c:Nat) (f2:Nat->Nat),kv=N c/\a<=c/\c+1<=i/\DJ wr g n cap f2/\Hid (∀ p,f2 p=rotF f a (a+1) (c+1) p)/\Chg (fun k=>k=g) w wr) (fun kv _=>i - (intOf kv).toNat)
      case atStart=>exact⟨a,f,rfl,Nat.le_refl _,by omega,hdq,fun p=>(rotF_id2 f a (a+1) p).symm,hcq⟩
      case round=>
        clear hdq hcq
        obtain⟨c,f2,rfl,hc1',hc2',hd2,HF,hc⟩:=hrel
        by_cases hlt2:c<i - 1
        · have hlt':(c:Int)<((i - 1:Nat):Int):=by omega
          have hwc:IntKind.i64.wrap ((c:Int)+1)=((c+1:Nat):Int):=by rw [IntWalk.i64_in _ (by omega)];omega
          have c1:=hd2.cell c (by omega)
          have c2:=hd2.cell (c+1) (by omega)
          have z1:=hd2.frozen c (by omega)
          have z2:=hd2.frozen (c+1) (by omega)
          have HSw:=hid (hd2.swap c (c+1) (by omega) (by omega))
          have HF2:Hid (∀ p,sw2 f2 c (c+1) p=rotF f a (a+1) (c+1+1) p):=fun p=>by
            have e:f2=rotF f a (a+1) (c+1):=funext fun p=>HF.out p
            rw [e];exact rot_up f a c p hc1'
          have i1:(0:Int)<=c:=by omega
          have i2:(c:Int)<n:=by omega
          have i5:c<n:=by omega
          have i6:c+1<n:=by omega
          have hcc:c≠c+1:=by omega
          have hcc2:c+1≠c:=by omega
          have hle:c+1+1<=i:=by omega
          generalize hx:f2 c=x at *
          generalize hy:f2 (c+1)=y at *
          generalize hd':c+1=d at *
          have hdc:a<=d/\c<d:=by omega
          have i3:(0:Int)<=d:=by omega
          have i4:(d:Int)<n:=by omega
          have HD:=hid hd'
          clear hx hy hd' HF
          go_upto_region 11 with fail
          go_region
          all_goals go_wp2_with fail
          all_goals go_roundw
          case rel=>exact⟨d,sw2 f2 c d,rfl,hdc.1,hle,HSw.out.fr (Fr.drew (Fr.refl _)),HF2,hc.trans ((swap_chg wr g c d _ _).trans ((Fr.drew (Fr.refl _)).chg (fun k=>k=g)) (fun _ _ h=>h)) (fun _ _ h=>h)⟩
          case measure=>simp [intOf];omega
        · obtain rfl:i=c+1:=by omega
          have hnl':¬((c:Int)<((c+1 - 1:Nat):Int)):=by omega
          go_wp2_with fail
          refine bodyPost_ret (results_none rfl _ _ _) rfl ?_
          have e:f2=rotF f a (a+1) (c+1):=funext fun p=>HF.out p
          exact⟨rfl,f2,hd2,by rw [e];exact HRr.out,by rw [e];exact HDn.out,hc⟩
theorem symB_any {k : Nat} {caps : Array Value} {g : Nat} {key : Nat → Nat} {ok : Nat → Prop} {I : World → Prop} (hk : CmpK k caps g key ok I) (a m n cap : Nat) (f : Nat → Nat) (w : World) (hd : DJ w g n cap f) (hI : I w) (ham : a + 1 < m) (hb : m + 1 ≤ n) (hn : n ≤ 1000000000)
    (hok:∀ p,a<=p->p<m+1->ok (f p)) (hah:AheadF f a m (m+1)) (hs1:SrtF key f a m) :
    Calls Tryz.prog 268 #[.slice (some ⟨g,0,none⟩) n cap,N a,N m,N (m+1),.func (.func k) #[] caps] w fun e w'=>e=.returned (.tuple #[])/\∃ f',DJ w' g n cap f'/\RearF f f' a (m+1)/\SrtF key f' a (m+1)/\Chg (fun k=>k=g) w w':=by
  obtain⟨hc1,hc2⟩:=hd.caps
  unfold maxLen at hc2
  have hent:=hk.ent
  have HK:=hid hk
  have HOK:=hid hok
  have HAH:=hid hah
  have HS:=hid hs1
  clear hk hok hah hs1
  have hm1:(((m - a:Nat):Int) == 1)=false:=by simp;omega
  have hm1':¬((m - a:Nat)=1):=by omega
  have hw0:IntKind.i64.wrap ((m:Int) - a)=((m - a:Nat):Int):=by rw [IntWalk.i64_in _ (by omega)];omega
  have hw1:IntKind.i64.wrap (((m+1:Nat):Int) - m)=1:=by rw [IntWalk.i64_in _ (by omega)];omega
  generalize m - a=ma at *
  obtain⟨b,hbm⟩:∃ b,b=m+1:=⟨_,rfl⟩
  rw [<- hbm]at hw1 ⊢
  have HB:=hid hbm
  have hmb:m<b:=by omega
  have hbn:b<=n:=by omega
  clear hbm
  go_enter Tryz.func268, Tryz.ntmps268
  go_wp2_with fail
  go_loopw [14,15] (fun iv jv wr=>∃ (i j:Nat),iv=N i/\jv=N j/\a<=i/\i<=j/\j<=m/\Hid (∀ p,a<=p->p<i->ltK key (f p) (f m))/\Hid (∀ p,j<=p->p<m->ltK key (f m) (f p))/\∃ q,wr=w.drewN q) (fun iv jv _=>(intOf jv).toNat - (intOf iv).toNat)
  case atStart=>exact⟨a,m,rfl,rfl,Nat.le_refl _,by omega,Nat.le_refl _,fun p h1 h2=>by omega,fun p h1 h2=>by omega,0,rfl⟩
  case round=>
    obtain⟨i,j,rfl,rfl,hi,hij,hj,HL,HH,q,rfl⟩:=hrel
    by_cases hlt:i<j
    · have hlt':(i:Int)<j:=by omega
      obtain⟨h1,h2,h3,h4⟩:=half_facts i j (by omega)
      have hh1:i<=(i+j) / 2:=by omega
      have hh2:(i+j) / 2<j:=by omega
      generalize (i+j) / 2=h at *
      generalize i+j=ij at *
      have c1:=(hd.fr ((Fr.refl w).drewN q)).cell h (by omega)
      have c2:=(hd.fr ((Fr.refl w).drewN q)).cell m (by omega)
      have HC:=hid (fun r=>HK.out.call (f m) (f h) (HK.out.fr hI (((Fr.refl w).drewN q).drewN r)) (HOK.out m (by omega) (by omega)) (HOK.out h (by omega) (by omega)))
      have hcn:=cmp3_neg (key (f m)) (key (f h))
      generalize hW:w.drewN q=W at *
      have HW:=hid hW
      clear hW
      have HA:=hid (ahead_lt (key:=key) HAH.out (show a<=h by omega) (show h<m by omega) (Nat.le_refl m) (by omega))
      have HL2:Hid (¬key (f m)<key (f h)->∀ p,a<=p->p<h+1->ltK key (f p) (f m)):=fun e p h1 h2=>by
        have e1:=HA.out.2.1 e
        by_cases c:p=h
        · rw [c];exact e1
        · exact ltK_trans (HS.out p h h1 (by omega) (by omega)) e1
      have HH2:Hid (key (f m)<key (f h)->∀ p,h<=p->p<m->ltK key (f m) (f p)):=fun e p h1 h2=>by
        have e1:=HA.out.1.1 e
        by_cases c:p=h
        · rw [c];exact e1
        · exact ltK_trans e1 (HS.out h p (by omega) (by omega) (by omega))
      have i1:(0:Int)<=h:=by omega
      have i2:(h:Int)<n:=by omega
      have i3:(0:Int)<=m:=by omega
      have i4:(m:Int)<n:=by omega
      have hwh:IntKind.i64.wrap ((h:Int)+1)=((h+1:Nat):Int):=by rw [IntWalk.i64_in _ (by omega)];omega
      clear HA
      generalize hx:f m=x at *
      generalize hy:f h=y at *
      have HX:=hid hx
      have HY:=hid hy
      clear hx hy
      generalize hcv:cmp3 (key x) (key y)=cv at *
      have hcd:decide (cv<0)=decide (key x<key y):=by simp [hcn]
      have hcd2:decide ((0:Int)<=cv) = !decide (key x<key y):=by rw [<- hcd];by_cases h:cv<0 <;> simp [h] <;> omega
      generalize hkx:key x=kx at *
      generalize hky:key y=ky at *
      clear hcn hcv hkx hky
      go_upto_region 17 with fail
      go_quiet ((exact Calls.quiet_of (HC.out _)))
      by_cases hxy:kx<ky
      · have hxd:decide (kx<ky)=true:=decide_eq_true hxy
        have hxd2:decide (ky<=kx)=false:=decide_eq_false (by omega)
        simp only [hxd,Bool.not_true]
        go_wp2_with fail
        go_roundw
        case rel=>exact⟨i,h,rfl,rfl,hi,hh1,by omega,HL,HH2.out hxy,q+nq,by rw [<- HW.out,World.drewN_drewN]⟩
        case measure=>simp [intOf];omega
      · have hxd:decide (kx<ky)=false:=decide_eq_false hxy
        have hxd2:decide (ky<=kx)=true:=decide_eq_true (by omega)
        simp only [hxd,Bool.not_false]
        go_wp2_with fail
        go_roundw
        case rel=>exact⟨h+1,j,by go_num,rfl,by omega,by omega,hj,HL2.out hxy,HH,q+nq,by rw [<- HW.out,World.drewN_drewN]⟩
        case measure=>simp [intOf];omega
    · obtain rfl:i=j:=by omega
      have hnl:¬((i:Int)<i):=by omega
      have hdq:=hd.fr ((Fr.refl w).drewN q)
      have hcq:Chg (fun k=>k=g) w (w.drewN q):=((Fr.refl w).drewN q).chg _
      have HDn:=hid (insF_srt key f a i m HS.out hi hj HL.out HH.out)
      have HRr:=hid ((rotF_rear f i m (m+1) hj (by omega)).widen hi (by omega) (Nat.le_refl _))
      clear HL HH hI
      generalize w.drewN q=wq at *
      go_wp2_with fail
      go_loopw [17] (fun kv wr=>∃ (c:Nat) (f2:Nat->Nat),kv=N c/\i<=c/\c<=m/\DJ wr g n cap f2/\Hid (∀ p,f2 p=rotF f c m (m+1) p)/\Chg (fun k=>k=g) w wr) (fun kv _=>(intOf kv).toNat)
      case atStart=>exact⟨m,f,rfl,hj,Nat.le_refl _,hdq,fun p=>(rotF_id1 f m (m+1) p (by omega)).symm,hcq⟩
      case round=>
        clear hdq hcq
        obtain⟨c,f2,rfl,hc1',hc2',hd2,HF,hc⟩:=hrel
        by_cases hlt2:i<c
        · have hlt':(i:Int)<(c:Int):=by omega
          have hwc:IntKind.i64.wrap ((c:Int) - 1)=((c - 1:Nat):Int):=by rw [IntWalk.i64_in _ (by omega)];omega
          have c1:=hd2.cell c (by omega)
          have c2:=hd2.cell (c - 1) (by omega)
          have z1:=hd2.frozen c (by omega)
          have z2:=hd2.frozen (c - 1) (by omega)
          have HSw:=hid (hd2.swap c (c - 1) (by omega) (by omega))
          have HF2:Hid (∀ p,sw2 f2 c (c - 1) p=rotF f (c - 1) m (m+1) p):=fun p=>by
            have e:f2=rotF f c m (m+1):=funext fun p=>HF.out p
            rw [e];exact rot_down f m c p hc2' (by omega)
          have i1:(0:Int)<=c:=by omega
          have i2:(c:Int)<n:=by omega
          have i5:c<n:=by omega
          have hdc:i<=c - 1/\c - 1<c/\c - 1<n/\c - 1<=m:=by omega
          generalize hx:f2 c=x at *
          generalize hy:f2 (c - 1)=y at *
          generalize hd':c - 1=d at *
          obtain⟨d1,d2,d3,d4⟩:=hdc
          have hcc:c≠d:=by omega
          have hcc2:d≠c:=by omega
          have i3:(0:Int)<=d:=by omega
          have i4:(d:Int)<n:=by omega
          have HD:=hid hd'
          clear hx hy hd' HF
          go_upto_region 23 with fail
          go_region
          all_goals go_wp2_with fail
          all_goals go_roundw
          case rel=>exact⟨d,sw2 f2 c d,rfl,d1,d4,HSw.out.fr (Fr.drew (Fr.refl _)),HF2,hc.trans ((swap_chg wr g c d _ _).trans ((Fr.drew (Fr.refl _)).chg (fun k=>k=g)) (fun _ _ h=>h)) (fun _ _ h=>h)⟩
          case measure=>simp [intOf];omega
        · obtain rfl:i=c:=by omega
          have hnl':¬((i:Int)<(i:Int)):=by omega
          go_wp2_with fail
          refine bodyPost_ret (results_none rfl _ _ _) rfl ?_
          have e:f2=rotF f i m (m+1):=funext fun p=>HF.out p
          rw [HB.out]
          exact⟨rfl,f2,hd2,by rw [e];exact HRr.out,by rw [e];exact HDn.out,hc⟩
def SymOK(k:Nat)(caps:Array Value)(g n cap:Nat)(key:Nat->Nat)(ok:Nat->Prop)(I:World->Prop)(a m b:Nat):Prop:=
 ∀ (f : Nat → Nat) (w : World), DJ w g n cap f → I w → (∀ p, a ≤ p → p < b → ok (f p)) → AheadF f a m b → SrtF key f a m → SrtF key f m b →
  Calls Tryz.prog 268 #[.slice (some ⟨g,0,none⟩) n cap,N a,N m,N b,.func (.func k) #[] caps] w fun e w'=>e=.returned (.tuple #[])/\∃ f',DJ w' g n cap f'/\RearF f f' a b/\SrtF key f' a b/\Chg (fun k=>k=g) w w'
theorem symC_any {k : Nat} {caps : Array Value} {g : Nat} {key : Nat → Nat} {ok : Nat → Prop} {I : World → Prop} (hk : CmpK k caps g key ok I) (a m b n cap : Nat) (ham : a + 1 < m) (hmb : m + 1 < b) (hb : b ≤ n) (hn : n ≤ 1000000000)
    (ih:∀ a' m' b',b' - a'<b - a->a'<m'->m'<b'->b'<=n->SymOK k caps g n cap key ok I a' m' b'):SymOK k caps g n cap key ok I a m b:=by
  intro f w hd hI hok hah hs1 hs2
  obtain⟨hc1,hc2⟩:=hd.caps
  unfold maxLen at hc2
  have hent:=hk.ent
  have HK:=hid hk
  have HOK:=hid hok
  have HAH:=hid hah
  have HS1:=hid hs1
  have HS2:=hid hs2
  have HIH:=hid ih
  have HII:=hid hI
  clear hk hok hah hs1 hs2 ih hI
  have hm1:(((m - a:Nat):Int) == 1)=false:=by simp;omega
  have hm1':¬((m - a:Nat)=1):=by omega
  have hw0:IntKind.i64.wrap ((m:Int) - a)=((m - a:Nat):Int):=by rw [IntWalk.i64_in _ (by omega)];omega
  have hm2:(((b - m:Nat):Int) == 1)=false:=by simp;omega
  have hm2':¬((b - m:Nat)=1):=by omega
  have hw1:IntKind.i64.wrap ((b:Int) - m)=((b - m:Nat):Int):=by rw [IntWalk.i64_in _ (by omega)];omega
  generalize m - a=ma at *
  generalize b - m=bm at *
  obtain⟨e1,e2,e3,e4⟩:=half_facts a b (by omega)
  have hmid1:a<(a+b) / 2/\(a+b) / 2<b:=by omega
  obtain⟨mid,hmid⟩:∃ mid,mid=(a+b) / 2:=⟨_,rfl⟩
  have hmm:2*mid<=a+b/\a+b<=2*mid+1:=by omega
  rw [<- hmid]at e3 e4 hmid1
  clear hmid
  generalize a+b=ab at e1 e2 e3
  have hwn:IntKind.i64.wrap ((mid:Int)+m)=((mid+m:Nat):Int):=by rw [IntWalk.i64_in _ (by omega)];omega
  have hwp:IntKind.i64.wrap (((mid+m:Nat):Int) - 1)=((mid+m - 1:Nat):Int):=by rw [IntWalk.i64_in _ (by omega)];omega
  obtain⟨nn,hnn⟩:∃ nn,nn=mid+m:=⟨_,rfl⟩
  rw [<- hnn]at hwn hwp
  go_enter Tryz.func268, Tryz.ntmps268
  go_upto_if 140 with fail
  go_cut [20,21]from 138 to 146 (fun sv rv wx=>∃ lo hi:Nat,sv=N lo/\rv=N hi/\a<=lo/\lo<=hi/\hi<=m/\nn - lo<=b/\m<=nn - hi/\Hid (lo=a\/nn - lo=b)/\Hid (hi=m\/nn - hi=m)/\w=wx)
  case first=>
    by_cases hgt:mid<m
    · have hgt':(mid:Int)<m:=by omega
      have hws:IntKind.i64.wrap ((nn:Int) - b)=((nn - b:Nat):Int):=by rw [IntWalk.i64_in _ (by omega)];omega
      have hfin:a<=nn - b/\nn - b<=mid/\mid<=m/\nn - (nn - b)<=b/\m<=nn - mid:=by omega
      have hl1:Hid (nn - b=a\/nn - (nn - b)=b):=.inr (by omega)
      have hl2:Hid (mid=m\/nn - mid=m):=.inr (by omega)
      have HNN:=hid hnn
      clear hnn
      go_wp2_with fail
      go_meet
      exact⟨nn - b,mid,by have:=HNN.out;first | rfl | (congr 1;omega),rfl,hfin.1,hfin.2.1,hfin.2.2.1,hfin.2.2.2.1,hfin.2.2.2.2,hl1,hl2,by first | rfl | trivial⟩
    · have hgt':¬(mid:Int)<m:=by omega
      have hfin:nn - a<=b/\m<=nn - m:=by omega
      clear hnn
      go_wp2_with fail
      go_meet
      exact⟨a,m,rfl,rfl,Nat.le_refl _,by omega,Nat.le_refl _,hfin.1,hfin.2,.inl rfl,.inl rfl,by first | rfl | trivial⟩
  case rest=>
    obtain⟨lo,hi,rfl,rfl,hlo,hlh,hhi,hb1,hb2,HL,HH,rfl⟩:=hcut
    have HNN:=hid hnn
    have hlim:∀ x,lo<=x->x<hi->m<=mid+m - 1 - x/\mid+m - 1 - x<b/\x<=mid+m - 1:=fun x h1 h2=>by omega
    have HLim:=hid hlim
    have hnn2:2*mid<=a+b/\m<=n/\mid<=n:=by omega
    clear hnn hwn hwp hlim
    go_wp2_with fail
    go_loopw [20,21] (fun sv rv wr=>∃ (s r:Nat),sv=N s/\rv=N r/\lo<=s/\s<=r/\r<=hi/\Hid (∀ x,lo<=x->x<s->ltK key (f x) (f (mid+m - 1 - x)))/\Hid (∀ x,r<=x->x<hi->ltK key (f (mid+m - 1 - x)) (f x))/\∃ q,wr=w.drewN q) (fun sv rv _=>(intOf rv).toNat - (intOf sv).toNat)
    case atStart=>exact⟨lo,hi,rfl,rfl,Nat.le_refl _,hlh,Nat.le_refl _,fun p h1 h2=>by omega,fun p h1 h2=>by omega,0,rfl⟩
    case round=>
      obtain⟨s,r,rfl,rfl,hs,hsr,hr,HX,HY,q,rfl⟩:=hrel
      by_cases hlt:s<r
      · have hlt':(s:Int)<r:=by omega
        obtain⟨j1,j2,j3,j4⟩:=half_facts s r (by omega)
        have hh1:s<=(s+r) / 2:=by omega
        have hh2:(s+r) / 2<r:=by omega
        generalize (s+r) / 2=c at *
        generalize s+r=sr at *
        obtain⟨p1,p2,p3⟩:=HLim.out c (by omega) (by omega)
        have c1:=(hd.fr ((Fr.refl w).drewN q)).cell (mid+m - 1 - c) (by omega)
        have c2:=(hd.fr ((Fr.refl w).drewN q)).cell c (by omega)
        have HC:=hid (fun r=>HK.out.call (f (mid+m - 1 - c)) (f c) (HK.out.fr HII.out (((Fr.refl w).drewN q).drewN r)) (HOK.out _ (by omega) (by omega)) (HOK.out c (by omega) (by omega)))
        have hcn:=cmp3_neg (key (f (mid+m - 1 - c))) (key (f c))
        have HSe:=hid (search_in key f a m b lo hi (mid+m - 1) c HS1.out HS2.out hlo hhi HLim.out (by omega) (by omega))
        have HA:=hid (ahead_lt (key:=key) HAH.out (show a<=c by omega) (show c<m by omega) p1 p2)
        have hpc:(mid:Int)+m - 1 - c=((mid+m - 1 - c:Nat):Int):=by omega
        have hwc:IntKind.i64.wrap ((mid:Int)+m - 1 - c)=((mid+m - 1 - c:Nat):Int):=by rw [hpc];exact IntWalk.i64_in _ (by omega)
        have hpn:mid+m - 1 - c<n:=by omega
        generalize hW:w.drewN q=W at *
        have HW:=hid hW
        clear hW
        have HX2:Hid (¬key (f (mid+m - 1 - c))<key (f c)->∀ x,lo<=x->x<c+1->ltK key (f x) (f (mid+m - 1 - x))):=fun e=>HSe.out.1 (HA.out.2.1 e)
        have HY2:Hid (key (f (mid+m - 1 - c))<key (f c)->∀ x,c<=x->x<hi->ltK key (f (mid+m - 1 - x)) (f x)):=fun e=>HSe.out.2 (HA.out.1.1 e)
        have i1:(0:Int)<=c:=by omega
        have i2:(c:Int)<n:=by omega
        have i5:c<n:=by omega
        have hwh:IntKind.i64.wrap ((c:Int)+1)=((c+1:Nat):Int):=by rw [IntWalk.i64_in _ (by omega)];omega
        clear HA HSe
        have hp0:(0:Int)<=((mid+m - 1 - c:Nat):Int):=by omega
        have hp1:((mid+m - 1 - c:Nat):Int)<n:=by omega
        generalize mid+m - 1 - c=pc at *
        generalize hx:f pc=x at *
        generalize hy:f c=y at *
        have HXq:=hid hx
        have HYq:=hid hy
        clear hx hy
        generalize hcv:cmp3 (key x) (key y)=cv at *
        have hcd:decide (cv<0)=decide (key x<key y):=by simp [hcn]
        generalize hkx:key x=kx at *
        generalize hky:key y=ky at *
        clear hcn hcv hkx hky
        go_upto_region 35 with fail
        go_quiet ((exact Calls.quiet_of (HC.out _)))
        by_cases hxy:kx<ky
        · have hxd:decide (kx<ky)=true:=decide_eq_true hxy
          simp only [hxd,Bool.not_true]
          go_wp2_with fail
          go_roundw
          case rel=>exact⟨s,c,rfl,rfl,hs,hh1,by omega,HX,HY2.out hxy,q+nq,by rw [<- HW.out,World.drewN_drewN]⟩
          case measure=>simp [intOf];omega
        · have hxd:decide (kx<ky)=false:=decide_eq_false hxy
          simp only [hxd,Bool.not_false]
          go_wp2_with fail
          go_roundw
          case rel=>exact⟨c+1,r,by go_num,rfl,by omega,by omega,hr,HX2.out hxy,HY,q+nq,by rw [<- HW.out,World.drewN_drewN]⟩
          case measure=>simp [intOf];omega
      · obtain rfl:s=r:=by omega
        have hnl:¬((s:Int)<s):=by omega
        have hdq:=hd.fr ((Fr.refl w).drewN q)
        have hcq:Chg (fun k=>k=g) w (w.drewN q):=((Fr.refl w).drewN q).chg _
        have HIq:=hid (HK.out.fr HII.out ((Fr.refl w).drewN q))
        obtain⟨e,he⟩:∃ e,e=mid+m - s:=⟨_,rfl⟩
        have hse:a<=s/\s<=m/\m<=e/\e<=b:=by have:=HNN.out;omega
        have hes:Hid (e+s=mid+m):=by show _=_;omega
        have hx1:Hid (a<s->e<b->ltK key (f (s - 1)) (f e)):=fun h1 h2=>by
          have hl:lo<=s - 1:=by
            rcases HL.out with h | h
            · omega
            · have:=HNN.out;omega
          have:=HX.out (s - 1) hl (by omega)
          rw [show mid+m - 1 - (s - 1)=e by omega]at this
          exact this
        have hx2:Hid (s<m->m<e->ltK key (f (e - 1)) (f s)):=fun h1 h2=>by
          have hl:s<hi:=by
            rcases HH.out with h | h
            · omega
            · have:=HNN.out;omega
          have:=HY.out s (Nat.le_refl _) hl
          rw [show mid+m - 1 - s=e - 1 by omega]at this
          exact this
        obtain⟨s1,s2,s3,s4⟩:=hse
        have HCross:=hid (sym_cross s1 s2 s3 s4 hes.out HS1.out HS2.out hx1.out hx2.out)
        have HQ1:=hid (sym_srt1 s1 s2 s3 s4 hes.out HS1.out)
        have HQ2:=hid (sym_srt2 s1 s2 s3 s4 hes.out HS2.out)
        have HQ3:=hid (sym_srt3 s1 s2 s3 s4 hes.out HS1.out)
        have HQ4:=hid (sym_srt4 s1 s2 s3 s4 hes.out HS2.out)
        have HA1:=hid (sym_ah1 s1 s2 s3 s4 hes.out HAH.out)
        have HA2:=hid (sym_ah2 s1 s2 s3 s4 hes.out HAH.out)
        have HRot:=hid (rotF_rear f s m e s2 s3)
        have HOK1:Hid (∀ p,a<=p->p<b->ok (rotF f s m e p)):=fun p h1 h2=>by
          obtain⟨q,h3,h4,h5⟩:=(HRot.out.widen s1 (by omega) s4).mem p h1 h2
          rw [h5];exact HOK.out q h3 h4
        have hwe:IntKind.i64.wrap ((mid:Int)+m - s)=(e:Int):=by rw [IntWalk.i64_in _ (by omega)];omega
        have hse2:s<=mid/\mid<=e:=by have:=hes.out;omega
        have HE:=hid he
        clear he hb1 hb2 hlh hs hr hsr hhi hlt HX HY HL HH HLim hnn2 hmm
        generalize w.drewN q=wq at *
        clear hd
        go_upto_region 39 with fail
        go_cut [185]from 178 to 185 (fun cv wx=>cv=.bool (decide (s<m) && decide (m<e))/\wq=wx)
        case first=>
          by_cases q1:s<m
          · by_cases q2:m<e
            · have q1':(s:Int)<m:=by omega
              have q2':(m:Int)<e:=by omega
              go_wp2_with fail
              go_meet
              exact⟨by simp [q1,q2],rfl⟩
            · have q1':(s:Int)<m:=by omega
              have q2':¬(m:Int)<e:=by omega
              go_wp2_with fail
              go_meet
              exact⟨by simp [q1,q2],rfl⟩
          · have q1':¬(s:Int)<m:=by omega
            go_wp2_with fail
            go_meet
            exact⟨by simp [q1],rfl⟩
        case rest=>
          obtain⟨rfl,rfl⟩:=hcut
          have HCR:=hid (fun(h1:s<m) (h2:m<e)=>rotate_any s m e (.func (.func k) #[] caps) g n cap f wq hdq h1 h2 (by omega) hn)
          have HNR:Hid ((decide (s<m) && decide (m<e))=false->∀ p,rotF f s m e p=f p):=fun h p=>by
            simp only [Bool.and_eq_false_iff,decide_eq_false_iff_not]at h
            rcases h with h | h
            · obtain rfl:s=m:=by omega
              exact rotF_id1 f s e p s3
            · obtain rfl:m=e:=by omega
              exact rotF_id2 f s m p
          have HBR:Hid ((decide (s<m) && decide (m<e))=true->s<m/\m<e):=fun h=>by simpa using h
          generalize (decide (s<m) && decide (m<e))=bR at *
          go_upto_if 185 with fail
          go_cut []from 186 to 191 (fun wx=>DJ wx g n cap (rotF f s m e)/\Chg (fun k=>k=g) w wx)
          case first=>
            cases bR
            · go_wp2_with fail
              go_meet
              exact⟨hdq.congr fun p _=>HNR.out (by first | rfl | trivial) p,hcq⟩
            · go_wp2_with fail
              refine(HCR.out (HBR.out (by first | rfl | trivial)).1 (HBR.out (by first | rfl | trivial)).2).mono ?_
              rintro e' w1 ⟨rfl,hd1,hc1⟩
              go_wp2_with fail
              go_meet
              exact⟨hd1,hcq.trans hc1 (fun _ _ h=>h)⟩
          case rest=>
            generalize hwc1:wc=wd at *
            clear hwc1
            obtain⟨hd1,hch1⟩:=hcut
            clear HCR HNR HBR hcq hdq
            have HI1:=hid (HK.out.stay HII.out hch1)
            go_upto_region 41 with fail
            go_cut [199]from 192 to 199 (fun cv wx=>cv=.bool (decide (a<s) && decide (s<mid))/\wd=wx)
            case first=>
              by_cases q1:a<s
              · by_cases q2:s<mid
                · have q1':(a:Int)<s:=by omega
                  have q2':(s:Int)<mid:=by omega
                  go_wp2_with fail
                  go_meet
                  exact⟨by simp [q1,q2],rfl⟩
                · have q1':(a:Int)<s:=by omega
                  have q2':¬(s:Int)<mid:=by omega
                  go_wp2_with fail
                  go_meet
                  exact⟨by simp [q1,q2],rfl⟩
              · have q1':¬(a:Int)<s:=by omega
                go_wp2_with fail
                go_meet
                exact⟨by simp [q1],rfl⟩
            case rest=>
              obtain⟨rfl,rfl⟩:=hcut
              have HC1:=hid (fun(h1:a<s) (h2:s<mid)=>HIH.out a s mid (by omega) h1 h2 (by omega) (rotF f s m e) wd hd1 HI1.out (fun p x y=>HOK1.out p x (by omega)) HA1.out HQ1.out HQ2.out)
              have HN1:Hid ((decide (a<s) && decide (s<mid))=false->SrtF key (rotF f s m e) a mid):=fun h=>by
                simp only [Bool.and_eq_false_iff,decide_eq_false_iff_not]at h
                rcases h with h | h
                · obtain rfl:a=s:=by omega
                  exact HQ2.out
                · obtain rfl:s=mid:=by omega
                  exact HQ1.out
              have HB1:Hid ((decide (a<s) && decide (s<mid))=true->a<s/\s<mid):=fun h=>by simpa using h
              generalize (decide (a<s) && decide (s<mid))=bR1 at *
              go_upto_if 199 with fail
              go_cut []from 200 to 205 (fun wx=>∃ f2,DJ wx g n cap f2/\RearF (rotF f s m e) f2 a mid/\SrtF key f2 a mid/\Chg (fun k=>k=g) w wx)
              case first=>
                cases bR1
                · go_wp2_with fail
                  go_meet
                  exact⟨_,hd1,RearF.refl _ _ _,HN1.out (by first | rfl | trivial),hch1⟩
                · go_wp2_with fail
                  refine(HC1.out (HB1.out (by first | rfl | trivial)).1 (HB1.out (by first | rfl | trivial)).2).mono ?_
                  rintro e' w1 ⟨rfl,f2,hd2,hr2,hs2,hc2⟩
                  go_wp2_with fail
                  go_meet
                  exact⟨f2,hd2,hr2,hs2,hch1.trans hc2 (fun _ _ h=>h)⟩
              case rest=>
                generalize hwc1:wc=we at *
                clear hwc1
                obtain⟨f2,hd2,hr2,hs2,hch2⟩:=hcut
                clear HC1 HN1 HB1 hd1
                have HI2:=hid (HK.out.stay HII.out hch2)
                have HR2:=hid hr2
                have HSa:=hid hs2
                have HHi:Hid (∀ p,mid<=p->f2 p=rotF f s m e p):=fun p h=>HR2.out.1 p (.inr h)
                have HOK2:Hid (∀ p,mid<=p->p<b->ok (f2 p)):=fun p h1 h2=>by rw [HHi.out p h1];exact HOK1.out p (by omega) h2
                have HQ3':=hid (HQ3.out.congr (g:=f2) fun p h _=>HHi.out p h)
                have HQ4':=hid (HQ4.out.congr (g:=f2) fun p h _=>HHi.out p (by omega))
                have HA2':Hid (AheadF f2 mid e b):=fun p q x y z t=>by rw [HHi.out p x,HHi.out q (by omega)];exact HA2.out p q x y z t
                clear hr2 hs2 hch1 HI1
                go_upto_region 43 with fail
                go_cut [213]from 206 to 213 (fun cv wx=>cv=.bool (decide (mid<e) && decide (e<b))/\we=wx)
                case first=>
                  by_cases q1:mid<e
                  · by_cases q2:e<b
                    · have q1':(mid:Int)<e:=by omega
                      have q2':(e:Int)<b:=by omega
                      go_wp2_with fail
                      go_meet
                      exact⟨by simp [q1,q2],rfl⟩
                    · have q1':(mid:Int)<e:=by omega
                      have q2':¬(e:Int)<b:=by omega
                      go_wp2_with fail
                      go_meet
                      exact⟨by simp [q1,q2],rfl⟩
                  · have q1':¬(mid:Int)<e:=by omega
                    go_wp2_with fail
                    go_meet
                    exact⟨by simp [q1],rfl⟩
                case rest=>
                  obtain⟨rfl,rfl⟩:=hcut
                  have HC1:=hid (fun(h1:mid<e) (h2:e<b)=>HIH.out mid e b (by omega) h1 h2 hb f2 we hd2 HI2.out HOK2.out HA2'.out HQ3'.out HQ4'.out)
                  have HN1:Hid ((decide (mid<e) && decide (e<b))=false->SrtF key f2 mid b):=fun h=>by
                    simp only [Bool.and_eq_false_iff,decide_eq_false_iff_not]at h
                    rcases h with h | h
                    · obtain rfl:mid=e:=by omega
                      exact HQ4'.out
                    · obtain rfl:e=b:=by omega
                      exact HQ3'.out
                  have HB1:Hid ((decide (mid<e) && decide (e<b))=true->mid<e/\e<b):=fun h=>by simpa using h
                  generalize (decide (mid<e) && decide (e<b))=bR2 at *
                  have HFin:Hid (∀ f3,RearF f2 f3 mid b->SrtF key f3 mid b->RearF f f3 a b/\SrtF key f3 a b):=fun f3 r3 q3=>by
                    refine⟨((HRot.out.widen s1 (by omega) s4).trans (HR2.out.widen (Nat.le_refl a) (by omega) (by omega))).trans (r3.widen (by omega) (by omega) (Nat.le_refl b)),?_⟩
                    refine sym_join key (rotF f s m e) f3 a mid b (HSa.out.congr fun p _ h=>r3.1 p (.inl h)) q3 (fun p x y=>?_) (fun p x y=>?_) HCross.out
                    · rw [r3.1 p (.inl y)];exact HR2.out.mem p x y
                    · obtain⟨q,x1,x2,x3⟩:=r3.mem p x y
                      exact⟨q,x1,x2,by rw [x3,HHi.out q x1]⟩
                  cases bR2
                  · go_wp2_with fail
                    go_end0
                    have:=HFin.out f2 (RearF.refl _ _ _) (HN1.out (by first | rfl | trivial))
                    exact⟨rfl,f2,hd2,this.1,this.2,hch2⟩
                  · go_wp2_with fail
                    refine(HC1.out (HB1.out (by first | rfl | trivial)).1 (HB1.out (by first | rfl | trivial)).2).mono ?_
                    rintro e' w1 ⟨rfl,f3,hd3,hr3,hs3,hc3⟩
                    go_wp2_with fail
                    go_end0
                    have:=HFin.out f3 hr3 hs3
                    exact⟨rfl,f3,hd3,this.1,this.2,hch2.trans hc3 (fun _ _ h=>h)⟩
theorem symMerge_any{k:Nat}{caps:Array Value}{g:Nat}{key:Nat->Nat}{ok:Nat->Prop}{I:World->Prop}(hk:CmpK k caps g key ok I)(n cap:Nat)(hn:n<=1000000000):∀ (c a m b:Nat),b - a<=c->a<m->m<b->b<=n->SymOK k caps g n cap key ok I a m b:=by
 intro c
 induction c with
 | zero=>intro a m b h1 h2 h3 h4;omega
 | succ c ih=>
  intro a m b h1 h2 h3 h4
  by_cases c1:m=a+1
  · subst c1
    intro f w hd hI hok hah hs1 hs2
    exact symA_any hk a b n cap f w hd hI h3 h4 hn hok hah hs2
  · by_cases c2:b=m+1
    · subst c2
      intro f w hd hI hok hah hs1 hs2
      exact symB_any hk a m n cap f w hd hI (by omega) h4 hn hok hah hs1
    · exact symC_any hk a m b n cap (by omega) (by omega) h4 hn fun a' m' b' x y z t=>ih a' m' b' (by omega) y z t
theorem stable_any {k : Nat} {caps : Array Value} {g : Nat} {key : Nat → Nat} {ok : Nat → Prop} {I : World → Prop} (hk : CmpK k caps g key ok I) (n cap : Nat) (f0 : Nat → Nat) (w : World) (hd : DJ w g n cap f0) (hI : I w) (hn : n ≤ 1000000)
    (hok:∀ p,p<n->ok (f0 p)) (hup:∀ p q,p<q->q<n->f0 p<f0 q) :
    Calls Tryz.prog 248 #[.slice (some ⟨g,0,none⟩) n cap,N n,.func (.func k) #[] caps] w fun e w'=>e=.returned (.tuple #[])/\∃ f,DJ w' g n cap f/\RearF f0 f 0 n/\SrtF key f 0 n/\Chg (fun k=>k=g) w w':=by
  have HIns:=hid (fun a b f w h1 h2 h3 h4 h5 h6=>insort_any hk a b n cap f w h1 h2 h3 h4 (by omega) h5 h6)
  have HSym:=hid (fun a m b=>symMerge_any hk n cap (by omega) (b - a) a m b (Nat.le_refl _))
  have HK:=hid hk
  have HOK:=hid hok
  have HUP:=hid hup
  clear hk hok hup
  go_enter Tryz.func248, Tryz.ntmps248
  go_wp2_with fail
  go_loopw [7,8] (fun av bv wr=>∃ (t:Nat) (f:Nat->Nat),av=N (20*t)/\bv=N (20*t+20)/\20*t<=n/\DJ wr g n cap f/\Hid (BlkF key f0 f 20 n (20*t))/\Hid (∀ p,20*t<=p->f p=f0 p)/\Chg (fun k=>k=g) w wr) (fun _ bv _=>n+21 - (intOf bv).toNat)
  case atStart=>exact⟨0,f0,rfl,rfl,by omega,hd,BlkF.start key f0 20 n,fun _ _=>rfl,Chg.refl _ w⟩
  case round=>
    clear hd
    obtain⟨t,f,rfl,rfl,ht,hd,HB,HF,hc⟩:=hrel
    have HIw:=hid (HK.out.stay hI hc)
    have HGo:=hid (fun b (h1:20*t<=b) (h2:b<=n)=>HIns.out (20*t) b f wr hd HIw.out h1 h2 (fun p _ h=>HB.out.okay HOK.out p (by omega)) (fun p q h3 h4 h5=>by rw [HF.out p h3,HF.out q (by omega)];exact HUP.out p q h4 (by omega)))
    have HNx:=hid (fun f' b (hr:RearF f f' (20*t) b) (hs:SrtF key f' (20*t) b) h1 h2 h3 h4=>BlkF.step (by omega) HB.out HF.out hr hs h1 h2 h3 h4)
    by_cases hlt:20*t+20<=n
    · have hlt':((20*t+20:Nat):Int)<=n:=by omega
      have hgo:=hid (HGo.out (20*t+20) (by omega) hlt)
      have hN2:=hid (fun f' hr hs=>HNx.out f' (20*t+20) hr hs (by omega) hlt (Nat.le_refl _) (.inl rfl))
      obtain⟨b1,hb1⟩:∃ b1,b1=20*t+20:=⟨_,rfl⟩
      obtain⟨a,ha⟩:∃ a,a=20*t:=⟨_,rfl⟩
      rw [<- hb1]at hgo hN2 hlt hlt' ⊢
      rw [<- ha]at hgo hN2 ⊢
      have hwb:IntKind.i64.wrap ((b1:Int)+20)=((b1+20:Nat):Int):=by rw [IntWalk.i64_in _ (by omega)];omega
      have hbb:n+21 - (b1+20)<n+21 - b1:=by omega
      have HM1:=hid hb1
      have HA:=hid ha
      clear ha hb1 HGo HNx ht HB HF
      go_wp2_with fail
      refine hgo.out.mono ?_
      rintro e w1 ⟨rfl,f',hd1,hr1,hs1,hc1⟩
      have h9:=hN2.out f' hr1 hs1
      rw [show b1=20*(t+1) by have:=HM1.out;omega]at h9
      go_wp2_with fail
      go_roundw
      case rel=>exact⟨t+1,f',by have:=HM1.out;show Value.int _ _=Value.int _ _;congr 1;omega,by have:=HM1.out;show Value.int _ _=Value.int _ _;congr 1;omega,by have:=HM1.out;omega,hd1,h9.1,h9.2,hc.trans hc1 (fun _ _ h=>h)⟩
      case measure=>simp [intOf];omega
    · have hlt':¬((20*t+20:Nat):Int)<=n:=by omega
      have hgo:=hid (HGo.out n ht (Nat.le_refl _))
      have hN2:=hid (fun f' hr hs=>(HNx.out f' n hr hs ht (Nat.le_refl _) (by omega) (.inr rfl)).1)
      clear HGo HNx HB HF
      generalize 20*t+20=b1 at *
      generalize 20*t=a at *
      go_wp2_with fail
      refine hgo.out.mono ?_
      rintro e w1 ⟨rfl,f1,hd1,hr1,hs1,hc1⟩
      have HB1:=hid (hN2.out f1 hr1 hs1)
      have hc2:=hc.trans hc1 (fun _ _ h=>h)
      clear hgo hN2 hr1 hs1 hc1 hc hd HIw HIns
      go_wp2_with fail
      go_loopw [6] (fun cv wr=>∃ (c:Nat) (f:Nat->Nat),cv=N c/\20<=c/\(c<=2*n\/c=20)/\DJ wr g n cap f/\Hid (BlkF key f0 f c n n)/\Chg (fun k=>k=g) w wr) (fun cv _=>n - (intOf cv).toNat)
      case atStart=>exact⟨20,f1,rfl,Nat.le_refl _,.inr rfl,hd1,HB1,hc2⟩
      case round=>
        clear hd1 HB1 hc2
        obtain⟨c,f,rfl,hc20,hc2n,hd,HB,hc⟩:=hrel
        by_cases hlt2:c<n
        · have hlt2':(c:Int)<n:=by omega
          have hw2c:IntKind.i64.wrap (2*(c:Int))=((2*c:Nat):Int):=by rw [IntWalk.i64_in _ (by omega)];omega
          have hw2c':IntKind.i64.wrap ((c:Int)*2)=((2*c:Nat):Int):=by rw [IntWalk.i64_in _ (by omega)];omega
          obtain⟨cc,hcc⟩:∃ cc,cc=2*c:=⟨_,rfl⟩
          rw [<- hcc]at hw2c hw2c'
          have hcc1:c<cc/\cc<=2*n/\cc<=2000000:=by omega
          have HCC:=hid hcc
          have HD0:=hid (HB.out.double)
          rw [<- hcc]at HD0
          have HPa:=hid (fun t b (h1:cc*t+c<=b) (h2:b<=n) (h3:b<=cc*t+cc)=>BlkF.parts (t:=t) (b:=b) (by omega) HB.out HUP.out (by rw [<- hcc];exact h1) h2 (by rw [<- hcc];exact h3))
          rw [<- hcc]at HPa
          have HRe:=hid (fun t (h1:n<=cc*t+c)=>BlkF.rest (t:=t) (by omega) HB.out (by rw [<- hcc];exact h1))
          rw [<- hcc]at HRe
          clear hcc
          go_wp2_with fail
          generalize wr=wo at *
          go_loopw [7,8] (fun av bv wr=>∃ (t:Nat) (g2:Nat->Nat),av=N (cc*t)/\bv=N (cc*t+cc)/\cc*t<=n/\DJ wr g n cap g2/\Hid (BlkF key f0 g2 cc n (cc*t))/\Hid (∀ p,cc*t<=p->g2 p=f p)/\Chg (fun k=>k=g) w wr) (fun _ bv _=>n+cc+1 - (intOf bv).toNat)
          case atStart=>exact⟨0,f,by simp,by simp,by simp,hd,by rw [Nat.mul_zero];exact HD0.out,fun _ _=>rfl,hc⟩
          case round=>
            clear hd hc
            obtain⟨t,g2,rfl,rfl,ht,hd,HB2,HF2,hc⟩:=hrel
            have HIw:=hid (HK.out.stay hI hc)
            have HGo := hid (fun b (h1 : cc * t + c ≤ b) (h0 : cc * t + c < b) (h2 : b ≤ n) (h3 : b ≤ cc * t + cc) => HSym.out (cc * t) (cc * t + c) b (by omega) h0 h2 g2 wr hd HIw.out (fun p _ h => HB2.out.okay HOK.out p (by omega))
              (by
                have := (HPa.out t b h1 h2 h3).1
                intro p q x y z u
                rw [HF2.out p x, HF2.out q (by omega)]; exact this p q x y z u)
              ((HPa.out t b h1 h2 h3).2.1.congr fun p x _ => HF2.out p x) ((HPa.out t b h1 h2 h3).2.2.congr fun p x _ => HF2.out p (by omega)))
            have HNx:=hid (fun g3 b (hr:RearF g2 g3 (cc*t) b) (hs:SrtF key g3 (cc*t) b) h1 h2 h3 h4=>BlkF.step (by omega) HB2.out HF2.out hr hs h1 h2 h3 h4)
            have hmt:cc*(t+1)=cc*t+cc:=Nat.mul_succ _ _
            have HMT:=hid hmt
            clear hmt
            by_cases hlt3:cc*t+cc<=n
            · have hgo:=hid (HGo.out (cc*t+cc) (by omega) (by omega) hlt3 (Nat.le_refl _))
              have hN2:=hid (fun f' hr hs=>HNx.out f' (cc*t+cc) hr hs (by omega) hlt3 (Nat.le_refl _) (.inl rfl))
              clear HGo HNx HB2 HF2
              obtain⟨b2,hb2⟩:∃ b2,b2=cc*t+cc:=⟨_,rfl⟩
              obtain⟨m2,hm2⟩:∃ m2,m2=cc*t+c:=⟨_,rfl⟩
              rw [<- hb2]at hgo hN2 hlt3 HMT ⊢
              rw [<- hm2]at hgo
              have hwm:IntKind.i64.wrap (((cc*t:Nat):Int)+c)=(m2:Int):=by rw [IntWalk.i64_in _ (by omega)];omega
              have hwb:IntKind.i64.wrap ((b2:Int)+cc)=((b2+cc:Nat):Int):=by rw [IntWalk.i64_in _ (by omega)];omega
              have hlt3':(b2:Int)<=n:=by omega
              clear hm2 hb2 ht
              generalize cc*t=a2 at *
              go_wp2_with fail
              refine hgo.out.mono ?_
              rintro e w1 ⟨rfl,f',hd1,hr1,hs1,hc1⟩
              have h9:=hN2.out f' hr1 hs1
              go_wp2_with fail
              go_roundw
              case rel=>exact⟨t+1,f',by rw [HMT.out],by rw [HMT.out];first | rfl | go_num,by rw [HMT.out];exact hlt3,hd1,by rw [HMT.out];exact h9.1,by rw [HMT.out];exact h9.2,hc.trans hc1 (fun _ _ h=>h)⟩
              case measure=>simp [intOf];omega
            · have hlt3':¬((cc*t+cc:Nat):Int)<=n:=by omega
              by_cases hlt4:cc*t+c<n
              · have hgo:=hid (HGo.out n (by omega) hlt4 (Nat.le_refl _) (by omega))
                have hN2:=hid (fun f' hr hs=>(HNx.out f' n hr hs ht (Nat.le_refl _) (by omega) (.inr rfl)).1)
                clear HGo HNx HB2 HF2 HMT
                obtain⟨m2,hm2⟩:∃ m2,m2=cc*t+c:=⟨_,rfl⟩
                rw [<- hm2]at hgo hlt4
                have hwm:IntKind.i64.wrap (((cc*t:Nat):Int)+c)=(m2:Int):=by rw [IntWalk.i64_in _ (by omega)];omega
                have hlt4':(m2:Int)<n:=by omega
                clear hm2
                generalize cc*t+cc=b2 at *
                generalize cc*t=a2 at *
                go_wp2_with fail
                refine hgo.out.mono ?_
                rintro e w1 ⟨rfl,f',hd1,hr1,hs1,hc1⟩
                have h9:=hN2.out f' hr1 hs1
                go_wp2_with fail
                go_roundw
                case rel=>exact⟨cc,f',by first | rfl | go_num,by omega,.inl hcc1.2.1,hd1,h9,hc.trans hc1 (fun _ _ h=>h)⟩
                case measure=>simp [intOf];omega
              · have hN2:=hid ((HNx.out g2 n (RearF.refl _ _ _) ((HRe.out t (by omega)).congr fun p x _=>HF2.out p x) ht (Nat.le_refl _) (by omega) (.inr rfl)).1)
                clear HGo HNx HB2 HF2 HMT
                obtain⟨m2,hm2⟩:∃ m2,m2=cc*t+c:=⟨_,rfl⟩
                rw [<- hm2]at hlt4
                have hwm:IntKind.i64.wrap (((cc*t:Nat):Int)+c)=(m2:Int):=by rw [IntWalk.i64_in _ (by omega)];omega
                have hlt4':¬(m2:Int)<n:=by omega
                clear hm2
                generalize cc*t+cc=b2 at *
                generalize cc*t=a2 at *
                go_wp2_with fail
                go_roundw
                case rel=>exact⟨cc,g2,by first | rfl | go_num,by omega,.inl hcc1.2.1,hd,hN2,hc⟩
                case measure=>simp [intOf];omega
        · have hlt2':¬(c:Int)<n:=by omega
          go_wp2_with fail
          go_end0
          exact⟨rfl,f,hd,HB.out.rear,HB.out.whole (by omega),hc⟩
end Go.Proofs.YtdagmoonnbnceaaGreatDoor
