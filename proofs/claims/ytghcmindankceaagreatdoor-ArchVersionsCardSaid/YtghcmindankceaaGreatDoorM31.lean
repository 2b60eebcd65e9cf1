/- Parts of the proof of ArchVersions: S1 S2 S3 S4. -/
import Derived.Test.YtghcmindankceaaGreatDoorM01
import Derived.Test.YtghcmindankceaaGreatDoorM16
import Derived.Test.YtghcmindankceaaGreatDoorM07
set_option linter.unusedVariables false
set_option linter.unusedSectionVars false
set_option linter.unusedSimpArgs false
set_option maxHeartbeats 8000000
namespace Go.Proofs.YtghcmindankceaaGreatDoor
open Go.RowKit Go.Fk
def DJ(w:World)(g n cap:Nat)(f:Nat->Nat):Prop:=Ow w 0 eJ (.slice (some ⟨g,0,none⟩) n cap) ((List.range n).map f)
section
variable {w w':World} {g n cap:Nat} {f f':Nat->Nat}
theorem DJ.cell(h:DJ w g n cap f)(p:Nat)(hp:p<n):w.cell? ⟨g,p,none⟩=some (N (f p)):=by
 have:=(Ow.cellAt h (fun n:Nat=>N n) rfl p (by simpa using hp)).1
 simpa using this
theorem DJ.frozen(h:DJ w g n cap f)(p:Nat)(hp:p<n):w.frozen? ⟨g,p,none⟩=false:=(Ow.cellAt h (fun n:Nat=>N n) rfl p (by simpa using hp)).2
theorem DJ.caps(h:DJ w g n cap f):n<=cap/\cap<=maxLen:=by
 obtain⟨_,_,cur,hg,h3,h4,h5,h6⟩:=Ow.parts h
 rw [List.length_map,List.length_range]at h3
 exact⟨h3,h4⟩
theorem DJ.lt(h:DJ w g n cap f):g<w.heap.size:=(Ow.lt h g rfl).2
theorem set_range(n:Nat)(f:Nat->Nat)(i x:Nat):((List.range n).map f).set i x=(List.range n).map (fun p=>if p=i then x else f p):=by
 apply List.ext_getElem?
 intro j
 by_cases hj:j<n
 · by_cases e:i=j
   · subst e;rw [List.getElem?_set_self (by simpa using hj)];simp [hj]
   · rw [List.getElem?_set_ne e];simp [hj,Ne.symm e]
 · rw [List.getElem?_eq_none (by simp;omega),List.getElem?_eq_none (by simp;omega)]
theorem DJ.set(h:DJ w g n cap f)(i:Nat)(hi:i<n)(x:Nat):DJ (w.setCell ⟨g,i,none⟩ (N x)) g n cap (fun p=>if p=i then x else f p):=by
 have:=Ow.set h (fun n:Nat=>N n) rfl i (by simpa using hi) x (N x) rfl
 unfold DJ
 rw [<- set_range];exact this
theorem DJ.congr(h:DJ w g n cap f)(he:∀ p,p<n->f' p=f p):DJ w g n cap f':=by
 unfold DJ at *
 rw [List.map_congr_left (fun p hp=>he p (List.mem_range.1 hp))];exact h
theorem DJ.swap(h:DJ w g n cap f)(i j:Nat)(hi:i<n)(hj:j<n):DJ ((w.setCell ⟨g,i,none⟩ (N (f j))).setCell ⟨g,j,none⟩ (N (f i))) g n cap (sw2 f i j):=
 ((h.set i hi (f j)).set j hj (f i)).congr fun p _=>rfl
theorem DJ.chg{G:Nat->Prop}(h:DJ w g n cap f)(hc:Chg G w w')(hg:¬G g):DJ w' g n cap f:=Ow.chg h hc fun k hk=>by
 simp only [Value.ownBlock,Option.some.injEq]at hk;subst hk;exact hg
theorem DJ.fr(h:DJ w g n cap f)(hf:Fr w w'):DJ w' g n cap f:=Ow.fr h hf
end
theorem swap_chg(w:World)(g i j:Nat)(u v:Value):Chg (fun k=>k=g) w ((w.setCell ⟨g,i,none⟩ u).setCell ⟨g,j,none⟩ v):=(setCell_chg w ⟨g,i,none⟩ u).trans (setCell_chg _ ⟨g,j,none⟩ v) (fun _ _ h=>h)
def cmp3(a b:Nat):Int:=if a<b then -1 else if b<a then 1 else 0
theorem cmp3_neg(a b:Nat):(cmp3 a b<0)=(a<b):=by unfold cmp3;split <;> (try split) <;> simp <;> omega
structure CmpK (k:Nat) (caps:Array Value) (g:Nat) (key:Nat->Nat) (ok:Nat->Prop) (I:World->Prop):Prop where
 ent:∀ args w,(callFunc k args).run Tryz.prog w=.ok (.enter k args) w
 stay:∀ {w w'},I w->Chg (fun b=>b=g) w w'->I w'
 call:∀ {w} (x y:Nat),I w->ok x->ok y->Calls Tryz.prog k (#[N x,N y]++caps) w fun e w'=>e=.returned (.int .i64 (cmp3 (key x) (key y)))/\∃ m,w'=w.drewN m
theorem CmpK.fr{k:Nat}{caps:Array Value}{g:Nat}{key:Nat->Nat}{ok:Nat->Prop}{I:World->Prop}(h:CmpK k caps g key ok I){w w':World}(hI:I w)(hf:Fr w w'):I w':=h.stay hI (hf.chg _)
set_option maxRecDepth 100000
theorem isNaN32_any(x:Nat)(w:World):Calls Tryz.prog 364 #[.int .u32 (x:Int)] w fun e w'=>e=.returned (.bool false)/\w=w':=by
 go_enter Tryz.func364, Tryz.ntmps364
 go_wp2_with fail
 go_ret
 exact⟨by simp,rfl⟩
theorem compare32_any(x y:Nat)(w:World):Calls Tryz.prog 355 #[.int .u32 (x:Int),.int .u32 (y:Int)] w fun e w'=>e=.returned (.int .i64 (cmp3 x y))/\w=w':=by
 have HN:=hid (fun x W=>isNaN32_any x W)
 rcases Nat.lt_trichotomy x y with h | h | h
 · have hc:cmp3 x y=-1:=by unfold cmp3;rw [if_pos h]
   rw [hc]
   go_enter Tryz.func355, Tryz.ntmps355
   go_wp2_with (first | (go_at_call 364;refine(HN.out _ _).mono ?_;rintro e w' ⟨rfl,rfl⟩))
   go_ret
   exact⟨rfl,rfl⟩
 · have hc:cmp3 x y=0:=by unfold cmp3;rw [if_neg (by omega),if_neg (by omega)]
   have h1:¬x<y:=by omega
   have h2:¬y<x:=by omega
   rw [hc]
   go_enter Tryz.func355, Tryz.ntmps355
   go_wp2_with (first | (go_at_call 364;refine(HN.out _ _).mono ?_;rintro e w' ⟨rfl,rfl⟩))
   go_ret
   exact⟨rfl,rfl⟩
 · have hc:cmp3 x y=1:=by unfold cmp3;rw [if_neg (by omega),if_pos h]
   have h1:¬x<y:=by omega
   rw [hc]
   go_enter Tryz.func355, Tryz.ntmps355
   go_wp2_with (first | (go_at_call 364;refine(HN.out _ _).mono ?_;rintro e w' ⟨rfl,rfl⟩))
   go_ret
   exact⟨rfl,rfl⟩
theorem swapRange_any(a b m:Nat)(cv:Value)(g n cap:Nat)(f:Nat->Nat)(w:World)(hd:DJ w g n cap f)(hab:a+m<=b)(hb:b+m<=n)(hn:n<=1000000000) :
  Calls Tryz.prog 369 #[.slice (some ⟨g,0,none⟩) n cap,N a,N b,N m,cv] w fun e w'=>e=.returned (.tuple #[])/\DJ w' g n cap (swpF f a b m)/\Chg (fun k=>k=g) w w':=by
 obtain⟨hc1,hc2⟩:=hd.caps
 unfold maxLen at hc2
 go_enter Tryz.func369, Tryz.ntmps369
 go_wp2_with fail
 go_loopw [10] (fun iv wr=>∃ i:Nat,i<=m/\iv=N i/\DJ wr g n cap (swpF f a b i)/\Chg (fun k=>k=g) w wr) (fun iv _=>m - (intOf iv).toNat)
 case atStart=>exact⟨0,Nat.zero_le _,rfl,hd.congr fun p _=>swpF_zero f a b p,Chg.refl _ w⟩
 case round=>
  clear hd
  obtain⟨i,hi,rfl,hdw,hc⟩:=hrel
  by_cases hlt:i<m
  · have hlt':(i:Int)<m:=by omega
    have c1:=hdw.cell (a+i) (by omega)
    have c2:=hdw.cell (b+i) (by omega)
    have z1:=hdw.frozen (a+i) (by omega)
    have z2:=hdw.frozen (b+i) (by omega)
    have HD:=hid (hdw.swap (a+i) (b+i) (by omega) (by omega))
    have hw1:IntKind.i64.wrap ((a:Int)+i)=((a+i:Nat):Int):=by rw [IntWalk.i64_in _ (by omega)];omega
    have hw2:IntKind.i64.wrap ((b:Int)+i)=((b+i:Nat):Int):=by rw [IntWalk.i64_in _ (by omega)];omega
    have i1:(0:Int)<=((a+i:Nat):Int):=by omega
    have i2:((a+i:Nat):Int)<n:=by omega
    have i3:(0:Int)<=((b+i:Nat):Int):=by omega
    have i4:((b+i:Nat):Int)<n:=by omega
    have i5:a+i<n:=by omega
    have i6:b+i<n:=by omega
    have HS:=hid (fun p=>swpF_succ f a b i p (by omega))
    generalize swpF f a b i=f1 at *
    generalize hpa:a+i=pa at *
    generalize hpb:b+i=pb at *
    have hne:pa≠pb:=by omega
    have z2':(wr.drew.setCell ⟨g,pa,none⟩ (N (f1 pb))).frozen? ⟨g,pb,none⟩=false:=by
     rw [World.frozen?_setCell];exact z2
    go_upto_region 3 with fail
    go_region
    all_goals go_wp2_with fail
    all_goals go_roundw
    case rel=>exact⟨i+1,by omega,by go_num,(HD.out.congr fun p _=>(HS.out p).symm).fr (Fr.drew (Fr.refl _)),hc.trans ((swap_chg wr g pa pb _ _).trans ((Fr.drew (Fr.refl _)).chg (fun k=>k=g)) (fun _ _ h=>h)) (fun _ _ h=>h)⟩
    case measure=>simp [intOf];omega
  · obtain rfl:i=m:=by omega
    have hnl:¬((i:Int)<i):=by omega
    go_wp2_with fail
    go_end0
    exact⟨rfl,hdw,hc⟩
set_option maxRecDepth 512
theorem ins_done(key f1 f2:Nat->Nat)(a j i:Nat)(h1:a<=j)(h2:j<=i)(hs:SrtF key f1 a i)(hf:∀ p,f2 p=insF f1 j i p)(hhi:∀ p,j<=p->p<i->ltK key (f1 i) (f1 p))(hlt:∀ p,a<=p->p<i->f1 p<f1 i)(hst:j=a\/¬key (f1 i)<key (f1 (j - 1))):SrtF key f2 a (i+1):=by
 refine(insF_srt key f1 a j i hs h1 h2 (fun p h3 h4=>?_) hhi).congr fun p _ _=>hf p
 have hj:ltK key (f1 (j - 1)) (f1 i):=by
  have:=hlt (j - 1) (by omega) (by omega)
  unfold ltK;omega
 by_cases e:p=j - 1
 · rw [e];exact hj
 · exact ltK_trans (hs p (j - 1) h3 (by omega) (by omega)) hj
theorem ins_lt(f f1:Nat->Nat)(a i b:Nat)(hr:RearF f f1 a i)(hup:∀ p q,a<=p->p<q->q<b->f p<f q)(hi:i<b)(hai:a<=i):∀ p,a<=p->p<i->f1 p<f1 i:=by
 intro p h1 h2
 obtain⟨q,h3,h4,h5⟩:=hr.mem p h1 h2
 rw [h5,hr.1 i (by omega)]
 exact hup q i h3 h4 hi
set_option maxRecDepth 100000
theorem insort_any {k : Nat} {caps : Array Value} {g : Nat} {key : Nat → Nat} {ok : Nat → Prop} {I : World → Prop} (hk : CmpK k caps g key ok I) (a b n cap : Nat) (f : Nat → Nat) (w : World) (hd : DJ w g n cap f) (hI : I w) (hab : a ≤ b) (hb : b ≤ n) (hn : n ≤ 1000000000)
    (hok:∀ p,a<=p->p<b->ok (f p)) (hup:∀ p q,a<=p->p<q->q<b->f p<f q) :
    Calls Tryz.prog 366 #[.slice (some ⟨g,0,none⟩) n cap,N a,N b,.func (.func k) #[] caps] w fun e w'=>e=.returned (.tuple #[])/\∃ f',DJ w' g n cap f'/\RearF f f' a b/\SrtF key f' a b/\Chg (fun k=>k=g) w w':=by
  obtain⟨hc1,hc2⟩:=hd.caps
  unfold maxLen at hc2
  have hent:=hk.ent
  have HK:=hid hk
  clear hk
  have hwa:IntKind.i64.wrap ((a:Int)+1)=((a+1:Nat):Int):=by rw [IntWalk.i64_in _ (by omega)];omega
  go_enter Tryz.func366, Tryz.ntmps366
  go_wp2_with fail
  go_loopw [8] (fun iv wr=>∃ (i:Nat) (f1:Nat->Nat),iv=N i/\a+1<=i/\(i<=b\/i=a+1)/\DJ wr g n cap f1/\Hid (RearF f f1 a (min i b))/\Hid (SrtF key f1 a (min i b))/\Chg (fun k=>k=g) w wr) (fun iv _=>b - (intOf iv).toNat)
  case atStart=>exact⟨a+1,f,rfl,Nat.le_refl _,.inr rfl,hd,RearF.refl _ _ _,fun i j h1 h2 h3=>by omega,Chg.refl _ w⟩
  case round=>
    obtain⟨i,f1,rfl,hi1,hi2,hd1,HR,HS,hc⟩:=hrel
    by_cases hlt:i<b
    · have hlt':(i:Int)<b:=by omega
      rw [Nat.min_eq_left (by omega)]at HR HS
      go_wp2_with fail
      generalize wr=wo at *
      go_loopw [9] (fun jv wr=>∃ (j:Nat) (f2:Nat->Nat),jv=N j/\a<=j/\j<=i/\DJ wr g n cap f2/\Hid (∀ p,f2 p=insF f1 j i p)/\Hid (∀ p,j<=p->p<i->ltK key (f1 i) (f1 p))/\Hid (RearF f1 f2 a (i+1))/\Chg (fun k=>k=g) w wr) (fun jv _=>(intOf jv).toNat)
      case atStart=>exact⟨i,f1,rfl,by omega,Nat.le_refl _,hd1,fun p=>by unfold insF;rw [rotF_id1 f1 i (i+1) p (by omega)],fun p h1 h2=>by omega,RearF.refl _ _ _,hc⟩
      case round=>
        clear hd1 hc
        obtain⟨j,f2,rfl,hj1,hj2,hd2,HF,HG,HR2,hc⟩:=hrel
        have HLT:=hid (ins_lt f f1 a i b HR.out hup hlt (by omega))
        have HDn:=hid (fun hst=>ins_done key f1 f2 a j i hj1 hj2 HS.out HF.out HG.out HLT.out hst)
        have HRn:Hid (RearF f f2 a (i+1)):=(HR.out.widen (Nat.le_refl _) (by omega) (by omega)).trans HR2.out
        have hwi:IntKind.i64.wrap ((i:Int)+1)=((i+1:Nat):Int):=by rw [IntWalk.i64_in _ (by omega)];omega
        by_cases hja:a<j
        · have hja':(a:Int)<j:=by omega
          have hja2:decide ((a:Int)<j)=true:=decide_eq_true hja'
          have hwj:IntKind.i64.wrap ((j:Int) - 1)=((j - 1:Nat):Int):=by rw [IntWalk.i64_in _ (by omega)];omega
          have e1:f2 j=f1 i:=by rw [HF.out];unfold insF rotF;rw [if_pos (by omega)];congr 1;omega
          have e2:f2 (j - 1)=f1 (j - 1):=by rw [HF.out];unfold insF rotF;rw [if_neg (by omega),if_neg (by omega)]
          have c1:=hd2.cell j (by omega)
          have c2:=hd2.cell (j - 1) (by omega)
          have z1:=hd2.frozen j (by omega)
          have z2:=hd2.frozen (j - 1) (by omega)
          have HSw:=hid (hd2.swap j (j - 1) (by omega) (by omega))
          rw [e1]at c1 HSw
          rw [e2]at c2 HSw
          have okx:ok (f1 i):=by rw [HR.out.1 i (by omega)];exact hok i (by omega) hlt
          have oky:ok (f1 (j - 1)):=by
            obtain⟨q,h3,h4,h5⟩:=HR.out.mem (j - 1) (by omega) (by omega)
            rw [h5];exact hok q h3 (by omega)
          have HC:=hid (fun m=>HK.out.call (f1 i) (f1 (j - 1)) (HK.out.fr (HK.out.stay hI hc) ((Fr.refl wr).drewN m)) okx oky)
          have HSW:Hid (∀ p,sw2 f2 j (j - 1) p=insF f1 (j - 1) i p):=fun p=>by
            have:=rot_down f1 i j p hj2 (by omega)
            have e:f2=rotF f1 j i (i+1):=funext fun p=>HF.out p
            rw [e];exact this
          have HG2:Hid (key (f1 i)<key (f1 (j - 1))->∀ p,j - 1<=p->p<i->ltK key (f1 i) (f1 p)):=fun h p h1 h2=>by
            by_cases e:p=j - 1
            · rw [e];exact .inl h
            · exact HG.out p (by omega) h2
          have HR3:Hid (RearF f1 (sw2 f2 j (j - 1)) a (i+1)):=by
            have h1:RearF f1 (rotF f1 (j - 1) i (i+1)) a (i+1):=(rotF_rear f1 (j - 1) i (i+1) (by omega) (by omega)).widen (by omega) (by omega) (Nat.le_refl _)
            exact h1.congr HSW.out
          have hcn:=cmp3_neg (key (f1 i)) (key (f1 (j - 1)))
          have HDn2:Hid (¬key (f1 i)<key (f1 (j - 1))->SrtF key f2 a (i+1)):=fun h=>HDn.out (.inr h)
          clear e1 e2 okx oky HF HG HR2 HDn
          generalize hx:f1 i=x at *
          generalize hy:f1 (j - 1)=y at *
          generalize hj':j - 1=j1 at *
          have HX:=hid hx
          have HY:=hid hy
          clear hx hy
          have i1:(0:Int)<=j:=by omega
          have i2:(j:Int)<n:=by omega
          have i3:(0:Int)<=j1:=by omega
          have i4:(j1:Int)<n:=by omega
          have i5:j<n:=by omega
          have i6:j1<n:=by omega
          have hne:j≠j1:=by omega
          have hjj:j1<j:=by omega
          have haj1:a<=j1:=by omega
          have hne2:j1≠j:=by omega
          have HJ:=hid hj'
          clear hj'
          generalize hcv:cmp3 (key x) (key y)=cv at *
          have hcd:decide (cv<0)=decide (key x<key y):=by simp [hcn]
          generalize hkx:key x=kx at *
          generalize hky:key y=ky at *
          clear hcn hcv hkx hky
          go_upto_region 4 with fail
          go_quiet ((exact Calls.quiet_of (HC.out _)))
          have hfq:=(Fr.refl wr).drewN nq
          have hc1:=hc.trans (hfq.chg (fun k=>k=g)) (fun _ _ h=>h)
          have hd3:=hd2.fr hfq
          replace c1:=hfq.cell c1
          replace c2:=hfq.cell c2
          have z1':(wr.drewN nq).frozen? ⟨g,j,none⟩=false:=z1
          have z2':(wr.drewN nq).frozen? ⟨g,j1,none⟩=false:=z2
          have HSw2:Hid (DJ (((wr.drewN nq).setCell ⟨g,j,none⟩ (N y)).setCell ⟨g,j1,none⟩ (N x)) g n cap (sw2 f2 j j1)):=HSw.out.fr ((Fr.refl _).drewN nq)
          clear HSw z1 z2 hd2 hc hfq HC
          generalize wr.drewN nq=w1 at *
          by_cases hxy:kx<ky
          · have hxd:decide (kx<ky)=true:=decide_eq_true hxy
            go_upto_region 6 with fail
            go_region
            all_goals go_wp2_with fail
            all_goals go_roundw
            case rel=>exact⟨j1,sw2 f2 j j1,rfl,by omega,by omega,HSw2.out.fr (Fr.drew (Fr.refl _)),HSW,HG2.out hxy,HR3,hc1.trans ((swap_chg w1 g j j1 _ _).trans ((Fr.drew (Fr.refl _)).chg (fun k=>k=g)) (fun _ _ h=>h)) (fun _ _ h=>h)⟩
            case measure=>simp [intOf];omega
          · have hxd:decide (kx<ky)=false:=decide_eq_false hxy
            have HDone:=hid (HDn2.out hxy)
            go_wp2_with fail
            go_roundw
            case rel=>exact⟨i+1,f2,by go_num,by omega,.inl (by omega),hd3,by rw [Nat.min_eq_left (by omega)];exact HRn,by rw [Nat.min_eq_left (by omega)];exact HDone,hc1⟩
            case measure=>simp [intOf];omega
        · obtain rfl:j=a:=by omega
          have hja':¬(j:Int)<j:=by omega
          have HDone:=hid (HDn.out (.inl rfl))
          clear HDn HF HG HR2
          go_upto_region 4 with fail
          go_quiet (fail)
          go_wp2_with fail
          go_roundw
          case rel=>exact⟨i+1,f2,by go_num,by omega,.inl (by omega),hd2.fr ((Fr.refl _).drewN _),by rw [Nat.min_eq_left (by omega)];exact HRn,by rw [Nat.min_eq_left (by omega)];exact HDone,hc.trans (((Fr.refl _).drewN _).chg (fun k=>k=g)) (fun _ _ h=>h)⟩
          case measure=>simp [intOf];omega
    · have hlt':¬(i:Int)<b:=by omega
      rw [Nat.min_eq_right (by omega)]at HR HS
      go_wp2_with fail
      go_end0
      exact⟨rfl,f1,hd1,HR.out,HS.out,hc⟩
set_option maxRecDepth 512
set_option maxRecDepth 100000
theorem rotate_any (a m b : Nat) (cv : Value) (g n cap : Nat) (f : Nat → Nat) (w : World) (hd : DJ w g n cap f) (ham : a < m) (hmb : m < b) (hb : b ≤ n) (hn : n ≤ 1000000000) :
    Calls Tryz.prog 368 #[.slice (some ⟨g,0,none⟩) n cap,N a,N m,N b,cv] w fun e w'=>e=.returned (.tuple #[])/\DJ w' g n cap (rotF f a m b)/\Chg (fun k=>k=g) w w':=by
  have HSR:=hid (fun a b k f w (h:DJ w g n cap f) (h1:a+k<=b) (h2:b+k<=n)=>swapRange_any a b k cv g n cap f w h h1 h2 hn)
  have hw1:IntKind.i64.wrap ((m:Int) - a)=((m - a:Nat):Int):=by rw [IntWalk.i64_in _ (by omega)];omega
  have hw2:IntKind.i64.wrap ((b:Int) - m)=((b - m:Nat):Int):=by rw [IntWalk.i64_in _ (by omega)];omega
  go_enter Tryz.func368, Tryz.ntmps368
  go_wp2_with fail
  go_loopw [10,11] (fun iv jv wr=>∃ (i j:Nat) (f1:Nat->Nat),iv=N i/\jv=N j/\1<=i/\1<=j/\i<=m - a/\j<=b - m/\DJ wr g n cap f1/\Hid (∀ p,rotF f1 (m - i) m (m+j) p=rotF f a m b p)/\Chg (fun k=>k=g) w wr) (fun iv jv _=>(intOf iv).toNat+(intOf jv).toNat)
  case atStart=>exact⟨m - a,b - m,f,by first | rfl | go_num,by first | rfl | go_num,by omega,by omega,Nat.le_refl _,Nat.le_refl _,hd,fun p=>by rw [show m - (m - a)=a by omega,show m+(b - m)=b by omega],Chg.refl _ w⟩
  case round=>
    clear hd
    obtain⟨i,j,f1,rfl,rfl,hi1,hj1,hi2,hj2,hd,HR,hc⟩:=hrel
    have hwm:IntKind.i64.wrap ((m:Int) - i)=((m - i:Nat):Int):=by rw [IntWalk.i64_in _ (by omega)];omega
    rcases Nat.lt_trichotomy i j with h | h | h
    · have hne:((i:Int) == j)=false:=by simp;omega
      have hne2:i≠j:=by omega
      have hgt:¬(j:Int)<i:=by omega
      have hwj:IntKind.i64.wrap ((m:Int)+j)=((m+j:Nat):Int):=by rw [IntWalk.i64_in _ (by omega)];omega
      have hwj2:IntKind.i64.wrap (((m+j:Nat):Int) - i)=((m+j - i:Nat):Int):=by rw [IntWalk.i64_in _ (by omega)];omega
      have hwj3:IntKind.i64.wrap ((j:Int) - i)=((j - i:Nat):Int):=by rw [IntWalk.i64_in _ (by omega)];omega
      have HC:=hid (HSR.out (m - i) (m+j - i) i f1 wr hd (by omega) (by omega))
      have HN:Hid (∀ p,rotF (swpF f1 (m - i) (m+j - i) i) (m - i) m (m+(j - i)) p=rotF f a m b p):=fun p=>by rw [rot_right f1 m i j p (by omega) h];exact HR.out p
      have hji:1<=j - i/\j - i<j/\j - i<=b - m:=by omega
      generalize hmi:m - i=mi at *
      have HMI:=hid hmi
      clear hmi
      generalize m+j - i=mj at *
      generalize m+j=mj2 at *
      generalize j - i=ji at *
      go_wp2_with fail
      refine HC.out.mono ?_
      rintro e w1 ⟨rfl,hd1,hc1⟩
      go_wp2_with fail
      go_roundw
      case rel=>exact⟨i,ji,_,rfl,rfl,hi1,hji.1,hi2,hji.2.2,hd1,(by rw [HMI.out];exact HN),hc.trans hc1 (fun _ _ h=>h)⟩
      case measure=>simp [intOf];omega
    · subst h
      have HC:=hid (HSR.out (m - i) m i f1 wr hd (by omega) (by omega))
      have HN:Hid (∀ p,swpF f1 (m - i) m i p=rotF f a m b p):=fun p=>by rw [rot_even f1 m i p (by omega)];exact HR.out p
      generalize m - i=mi at *
      go_wp2_with fail
      refine HC.out.mono ?_
      rintro e w1 ⟨rfl,hd1,hc1⟩
      go_wp2_with fail
      go_end0
      exact⟨rfl,hd1.congr fun p _=>(HN.out p).symm,hc.trans hc1 (fun _ _ h=>h)⟩
    · have hne:((i:Int) == j)=false:=by simp;omega
      have hne2:i≠j:=by omega
      have hgt:(j:Int)<i:=by omega
      have hwj3:IntKind.i64.wrap ((i:Int) - j)=((i - j:Nat):Int):=by rw [IntWalk.i64_in _ (by omega)];omega
      have HC:=hid (HSR.out (m - i) m j f1 wr hd (by omega) (by omega))
      have HN:Hid (∀ p,rotF (swpF f1 (m - i) m j) (m - (i - j)) m (m+j) p=rotF f a m b p):=fun p=>by rw [rot_left f1 m i j p (by omega) h];exact HR.out p
      have hji:1<=i - j/\i - j<i/\i - j<=m - a:=by omega
      generalize m - i=mi at *
      generalize i - j=ij at *
      go_wp2_with fail
      refine HC.out.mono ?_
      rintro e w1 ⟨rfl,hd1,hc1⟩
      go_wp2_with fail
      go_roundw
      case rel=>exact⟨ij,j,_,rfl,rfl,hji.1,hj1,hji.2.2,hj2,hd1,HN,hc.trans hc1 (fun _ _ h=>h)⟩
      case measure=>simp [intOf];omega
set_option maxRecDepth 512
theorem half_facts(i j:Nat)(h:i+j<=4000000000):IntKind.i64.wrap ((i:Int)+j)=((i+j:Nat):Int)/\IntKind.u64.wrap ((i+j:Nat):Int)=((i+j:Nat):Int)/\((i+j:Nat):Int) / 2=(((i+j) / 2:Nat):Int)/\IntKind.i64.wrap (((i+j) / 2:Nat):Int)=(((i+j) / 2:Nat):Int):=by
  refine⟨?_,IntWalk.u64_in _ (by omega),by omega,IntWalk.i64_in _ (by omega)⟩
  rw [IntWalk.i64_in _ (by omega)];omega
set_option maxRecDepth 100000
theorem symA_any {k : Nat} {caps : Array Value} {g : Nat} {key : Nat → Nat} {ok : Nat → Prop} {I : World → Prop} (hk : CmpK k caps g key ok I) (a b n cap : Nat) (f : Nat → Nat) (w : World) (hd : DJ w g n cap f) (hI : I w) (hab : a + 1 < b) (hb : b ≤ n) (hn : n ≤ 1000000000)
    (hok:∀ p,a<=p->p<b->ok (f p)) (hah:AheadF f a (a+1) b) (hs2:SrtF key f (a+1) b) :
    Calls Tryz.prog 367 #[.slice (some ⟨g,0,none⟩) n cap,N a,N (a+1),N b,.func (.func k) #[] caps] w fun e w'=>e=.returned (.tuple #[])/\∃ f',DJ w' g n cap f'/\RearF f f' a b/\SrtF key f' a b/\Chg (fun k=>k=g) w w':=by
  obtain⟨hc1,hc2⟩:=hd.caps
  unfold maxLen at hc2
  have hent:=hk.ent
  have HK:=hid hk
  have HOK:=hid hok
  have HAH:=hid hah
  have HS:=hid hs2
  clear hk hok hah hs2
  have hm1:(((a+1:Nat):Int) - a == 1)=true:=by simp;omega
  have hm2:((a+1:Nat):Int) - a=1:=by omega
  have hw0:IntKind.i64.wrap (((a+1:Nat):Int) - a)=1:=by rw [hm2];exact IntWalk.i64_in _ (by omega)
  obtain⟨m,hm⟩:∃ m,m=a+1:=⟨_,rfl⟩
  rw [<- hm]at hm1 hm2 hw0 ⊢
  have HM:=hid hm
  have hma:a<m:=by omega
  have hmb:m<b:=by omega
  clear hm
  go_enter Tryz.func367, Tryz.ntmps367
  go_wp2_with fail
  go_loopw [10,11] (fun iv jv wr=>∃ (i j:Nat),iv=N i/\jv=N j/\m<=i/\i<=j/\j<=b/\Hid (∀ p,m<=p->p<i->ltK key (f p) (f a))/\Hid (∀ p,j<=p->p<b->ltK key (f a) (f p))/\∃ q,wr=w.drewN q) (fun iv jv _=>(intOf jv).toNat - (intOf iv).toNat)
  case atStart=>exact⟨m,b,rfl,rfl,Nat.le_refl _,by omega,Nat.le_refl _,fun p h1 h2=>by omega,fun p h1 h2=>by omega,0,rfl⟩
  case round=>
    obtain⟨i,j,rfl,rfl,hi,hij,hj,HL,HH,q,rfl⟩:=hrel
    by_cases hlt:i<j
    · have hlt':(i:Int)<j:=by omega
      obtain⟨h1,h2,h3,h4⟩:=half_facts i j (by omega)
      have hh1:i<=(i+j) / 2:=by omega
      have hh2:(i+j) / 2<j:=by omega
      generalize (i+j) / 2=h at *
      generalize i+j=ij at *
      have c1:=(hd.fr ((Fr.refl w).drewN q)).cell h (by omega)
      have c2:=(hd.fr ((Fr.refl w).drewN q)).cell a (by omega)
      have HC:=hid (fun r=>HK.out.call (f h) (f a) (HK.out.fr hI (((Fr.refl w).drewN q).drewN r)) (HOK.out h (by omega) (by omega)) (HOK.out a (by omega) (by omega)))
      have hcn:=cmp3_neg (key (f h)) (key (f a))
      generalize hW:w.drewN q=W at *
      have HW:=hid hW
      clear hW
      have HA:=hid (ahead_lt (key:=key) HAH.out (Nat.le_refl a) (by omega) (show a+1<=h by have:=HM.out;omega) (by omega))
      have HL2:Hid (key (f h)<key (f a)->∀ p,m<=p->p<h+1->ltK key (f p) (f a)):=fun e p h1 h2=>by
        have e1:=HA.out.1.1 e
        by_cases c:p=h
        · rw [c];exact e1
        · exact ltK_trans (HS.out p h (by have:=HM.out;omega) (by omega) (by omega)) e1
      have HH2:Hid (¬key (f h)<key (f a)->∀ p,h<=p->p<b->ltK key (f a) (f p)):=fun e p h1 h2=>by
        have e1:=HA.out.2.1 e
        by_cases c:p=h
        · rw [c];exact e1
        · exact ltK_trans e1 (HS.out h p (by have:=HM.out;omega) (by omega) (by omega))
      have i1:(0:Int)<=h:=by omega
      have i2:(h:Int)<n:=by omega
      have i3:(0:Int)<=a:=by omega
      have i4:(a:Int)<n:=by omega
      have hwh:IntKind.i64.wrap ((h:Int)+1)=((h+1:Nat):Int):=by rw [IntWalk.i64_in _ (by omega)];omega
      clear HA
      generalize hx:f h=x at *
      generalize hy:f a=y at *
      have HX:=hid hx
      have HY:=hid hy
      clear hx hy
      generalize hcv:cmp3 (key x) (key y)=cv at *
      have hcd:decide (cv<0)=decide (key x<key y):=by simp [hcn]
      generalize hkx:key x=kx at *
      generalize hky:key y=ky at *
      clear hcn hcv hkx hky
      go_upto_region 5 with fail
      go_quiet ((exact Calls.quiet_of (HC.out _)))
      by_cases hxy:kx<ky
      · have hxd:decide (kx<ky)=true:=decide_eq_true hxy
        go_wp2_with fail
        go_roundw
        case rel=>exact⟨h+1,j,by go_num,rfl,by omega,by omega,hj,HL2.out hxy,HH,q+nq,by rw [<- HW.out,World.drewN_drewN]⟩
        case measure=>simp [intOf];omega
      · have hxd:decide (kx<ky)=false:=decide_eq_false hxy
        go_wp2_with fail
        go_roundw
        case rel=>exact⟨i,h,rfl,rfl,hi,hh1,by omega,HL,HH2.out hxy,q+nq,by rw [<- HW.out,World.drewN_drewN]⟩
        case measure=>simp [intOf];omega
    · obtain rfl:i=j:=by omega
      have hnl:¬((i:Int)<i):=by omega
      have hdq:=hd.fr ((Fr.refl w).drewN q)
      have hcq:Chg (fun k=>k=g) w (w.drewN q):=((Fr.refl w).drewN q).chg _
      have HDn:=hid (merge_one key f a b i HS.out (by have:=HM.out;omega) hj (fun p h1 h2=>HL.out p (by have:=HM.out;omega) h2) HH.out)
      have HRr:=hid ((rotF_rear f a (a+1) i (by omega) (by have:=HM.out;omega)).widen (Nat.le_refl a) (by have:=HM.out;omega) hj)
      have hwi:IntKind.i64.wrap ((i:Int) - 1)=((i - 1:Nat):Int):=by rw [IntWalk.i64_in _ (by omega)];omega
      clear HL HH hI
      generalize w.drewN q=wq at *
      go_wp2_with fail
      go_loopw [13] (fun kv wr=>∃ (c:Nat) (f2:Nat->Nat),kv=N c/\a<=c/\c+1<=i/\DJ wr g n cap f2/\Hid (∀ p,f2 p=rotF f a (a+1) (c+1) p)/\Chg (fun k=>k=g) w wr) (fun kv _=>i - (intOf kv).toNat)
      case atStart=>exact⟨a,f,rfl,Nat.le_refl _,by omega,hdq,fun p=>(rotF_id2 f a (a+1) p).symm,hcq⟩
      case round=>
        clear hdq hcq
        obtain⟨c,f2,rfl,hc1',hc2',hd2,HF,hc⟩:=hrel
        by_cases hlt2:c<i - 1
        · have hlt':(c:Int)<((i - 1:Nat):Int):=by omega
          have hwc:IntKind.i64.wrap ((c:Int)+1)=((c+1:Nat):Int):=by rw [IntWalk.i64_in _ (by omega)];omega
          have c1:=hd2.cell c (by omega)
          have c2:=hd2.cell (c+1) (by omega)
          have z1:=hd2.frozen c (by omega)
          have z2:=hd2.frozen (c+1) (by omega)
          have HSw:=hid (hd2.swap c (c+1) (by omega) (by omega))
          have HF2:Hid (∀ p,sw2 f2 c (c+1) p=rotF f a (a+1) (c+1+1) p):=fun p=>by
            have e:f2=rotF f a (a+1) (c+1):=funext fun p=>HF.out p
            rw [e];exact rot_up f a c p hc1'
          have i1:(0:Int)<=c:=by omega
          have i2:(c:Int)<n:=by omega
          have i5:c<n:=by omega
          have i6:c+1<n:=by omega
          have hcc:c≠c+1:=by omega
          have hcc2:c+1≠c:=by omega
          have hle:c+1+1<=i:=by omega
          generalize hx:f2 c=x at *
          generalize hy:f2 (c+1)=y at *
          generalize hd':c+1=d at *
          have hdc:a<=d/\c<d:=by omega
          have i3:(0:Int)<=d:=by omega
          have i4:(d:Int)<n:=by omega
          have HD:=hid hd'
          clear hx hy hd' HF
          go_upto_region 11 with fail
          go_region
          all_goals go_wp2_with fail
          all_goals go_roundw
          case rel=>exact⟨d,sw2 f2 c d,rfl,hdc.1,hle,HSw.out.fr (Fr.drew (Fr.refl _)),HF2,hc.trans ((swap_chg wr g c d _ _).trans ((Fr.drew (Fr.refl _)).chg (fun k=>k=g)) (fun _ _ h=>h)) (fun _ _ h=>h)⟩
          case measure=>simp [intOf];omega
        · obtain rfl:i=c+1:=by omega
          have hnl':¬((c:Int)<((c+1 - 1:Nat):Int)):=by omega
          go_wp2_with fail
          refine bodyPost_ret (results_none rfl _ _ _) rfl ?_
          have e:f2=rotF f a (a+1) (c+1):=funext fun p=>HF.out p
          exact⟨rfl,f2,hd2,by rw [e];exact HRr.out,by rw [e];exact HDn.out,hc⟩
set_option maxRecDepth 512
end Go.Proofs.YtghcmindankceaaGreatDoor
