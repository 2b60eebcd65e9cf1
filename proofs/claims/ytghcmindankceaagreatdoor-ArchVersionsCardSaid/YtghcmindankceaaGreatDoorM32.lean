/- Parts of the proof of ArchVersions: S5 S6. -/
import Derived.Test.YtghcmindankceaaGreatDoorM31
import Derived.Test.YtghcmindankceaaGreatDoorM07
set_option linter.unusedVariables false
set_option linter.unusedSectionVars false
set_option linter.unusedSimpArgs false
set_option maxHeartbeats 8000000
namespace Go.Proofs.YtghcmindankceaaGreatDoor
open Go.RowKit Go.Fk
set_option maxRecDepth 100000
theorem symB_any {k : Nat} {caps : Array Value} {g : Nat} {key : Nat → Nat} {ok : Nat → Prop} {I : World → Prop} (hk : CmpK k caps g key ok I) (a m n cap : Nat) (f : Nat → Nat) (w : World) (hd : DJ w g n cap f) (hI : I w) (ham : a + 1 < m) (hb : m + 1 ≤ n) (hn : n ≤ 1000000000)
    (hok:∀ p,a<=p->p<m+1->ok (f p)) (hah:AheadF f a m (m+1)) (hs1:SrtF key f a m) :
    Calls Tryz.prog 367 #[.slice (some ⟨g,0,none⟩) n cap,N a,N m,N (m+1),.func (.func k) #[] caps] w fun e w'=>e=.returned (.tuple #[])/\∃ f',DJ w' g n cap f'/\RearF f f' a (m+1)/\SrtF key f' a (m+1)/\Chg (fun k=>k=g) w w':=by
  obtain⟨hc1,hc2⟩:=hd.caps
  unfold maxLen at hc2
  have hent:=hk.ent
  have HK:=hid hk
  have HOK:=hid hok
  have HAH:=hid hah
  have HS:=hid hs1
  clear hk hok hah hs1
  have hm1:(((m - a:Nat):Int) == 1)=false:=by simp;omega
  have hm1':¬((m - a:Nat)=1):=by omega
  have hw0:IntKind.i64.wrap ((m:Int) - a)=((m - a:Nat):Int):=by rw [IntWalk.i64_in _ (by omega)];omega
  have hw1:IntKind.i64.wrap (((m+1:Nat):Int) - m)=1:=by rw [IntWalk.i64_in _ (by omega)];omega
  generalize m - a=ma at *
  obtain⟨b,hbm⟩:∃ b,b=m+1:=⟨_,rfl⟩
  rw [<- hbm]at hw1 ⊢
  have HB:=hid hbm
  have hmb:m<b:=by omega
  have hbn:b<=n:=by omega
  clear hbm
  go_enter Tryz.func367, Tryz.ntmps367
  go_wp2_with fail
  go_loopw [14,15] (fun iv jv wr=>∃ (i j:Nat),iv=N i/\jv=N j/\a<=i/\i<=j/\j<=m/\Hid (∀ p,a<=p->p<i->ltK key (f p) (f m))/\Hid (∀ p,j<=p->p<m->ltK key (f m) (f p))/\∃ q,wr=w.drewN q) (fun iv jv _=>(intOf jv).toNat - (intOf iv).toNat)
  case atStart=>exact⟨a,m,rfl,rfl,Nat.le_refl _,by omega,Nat.le_refl _,fun p h1 h2=>by omega,fun p h1 h2=>by omega,0,rfl⟩
  case round=>
    obtain⟨i,j,rfl,rfl,hi,hij,hj,HL,HH,q,rfl⟩:=hrel
    by_cases hlt:i<j
    · have hlt':(i:Int)<j:=by omega
      obtain⟨h1,h2,h3,h4⟩:=half_facts i j (by omega)
      have hh1:i<=(i+j) / 2:=by omega
      have hh2:(i+j) / 2<j:=by omega
      generalize (i+j) / 2=h at *
      generalize i+j=ij at *
      have c1:=(hd.fr ((Fr.refl w).drewN q)).cell h (by omega)
      have c2:=(hd.fr ((Fr.refl w).drewN q)).cell m (by omega)
      have HC:=hid (fun r=>HK.out.call (f m) (f h) (HK.out.fr hI (((Fr.refl w).drewN q).drewN r)) (HOK.out m (by omega) (by omega)) (HOK.out h (by omega) (by omega)))
      have hcn:=cmp3_neg (key (f m)) (key (f h))
      generalize hW:w.drewN q=W at *
      have HW:=hid hW
      clear hW
      have HA:=hid (ahead_lt (key:=key) HAH.out (show a<=h by omega) (show h<m by omega) (Nat.le_refl m) (by omega))
      have HL2:Hid (¬key (f m)<key (f h)->∀ p,a<=p->p<h+1->ltK key (f p) (f m)):=fun e p h1 h2=>by
        have e1:=HA.out.2.1 e
        by_cases c:p=h
        · rw [c];exact e1
        · exact ltK_trans (HS.out p h h1 (by omega) (by omega)) e1
      have HH2:Hid (key (f m)<key (f h)->∀ p,h<=p->p<m->ltK key (f m) (f p)):=fun e p h1 h2=>by
        have e1:=HA.out.1.1 e
        by_cases c:p=h
        · rw [c];exact e1
        · exact ltK_trans e1 (HS.out h p (by omega) (by omega) (by omega))
      have i1:(0:Int)<=h:=by omega
      have i2:(h:Int)<n:=by omega
      have i3:(0:Int)<=m:=by omega
      have i4:(m:Int)<n:=by omega
      have hwh:IntKind.i64.wrap ((h:Int)+1)=((h+1:Nat):Int):=by rw [IntWalk.i64_in _ (by omega)];omega
      clear HA
      generalize hx:f m=x at *
      generalize hy:f h=y at *
      have HX:=hid hx
      have HY:=hid hy
      clear hx hy
      generalize hcv:cmp3 (key x) (key y)=cv at *
      have hcd:decide (cv<0)=decide (key x<key y):=by simp [hcn]
      have hcd2:decide ((0:Int)<=cv) = !decide (key x<key y):=by rw [<- hcd];by_cases h:cv<0 <;> simp [h] <;> omega
      generalize hkx:key x=kx at *
      generalize hky:key y=ky at *
      clear hcn hcv hkx hky
      go_upto_region 17 with fail
      go_quiet ((exact Calls.quiet_of (HC.out _)))
      by_cases hxy:kx<ky
      · have hxd:decide (kx<ky)=true:=decide_eq_true hxy
        have hxd2:decide (ky<=kx)=false:=decide_eq_false (by omega)
        simp only [hxd,Bool.not_true]
        go_wp2_with fail
        go_roundw
        case rel=>exact⟨i,h,rfl,rfl,hi,hh1,by omega,HL,HH2.out hxy,q+nq,by rw [<- HW.out,World.drewN_drewN]⟩
        case measure=>simp [intOf];omega
      · have hxd:decide (kx<ky)=false:=decide_eq_false hxy
        have hxd2:decide (ky<=kx)=true:=decide_eq_true (by omega)
        simp only [hxd,Bool.not_false]
        go_wp2_with fail
        go_roundw
        case rel=>exact⟨h+1,j,by go_num,rfl,by omega,by omega,hj,HL2.out hxy,HH,q+nq,by rw [<- HW.out,World.drewN_drewN]⟩
        case measure=>simp [intOf];omega
    · obtain rfl:i=j:=by omega
      have hnl:¬((i:Int)<i):=by omega
      have hdq:=hd.fr ((Fr.refl w).drewN q)
      have hcq:Chg (fun k=>k=g) w (w.drewN q):=((Fr.refl w).drewN q).chg _
      have HDn:=hid (insF_srt key f a i m HS.out hi hj HL.out HH.out)
      have HRr:=hid ((rotF_rear f i m (m+1) hj (by omega)).widen hi (by omega) (Nat.le_refl _))
      clear HL HH hI
      generalize w.drewN q=wq at *
      go_wp2_with fail
      go_loopw [17] (fun kv wr=>∃ (c:Nat) (f2:Nat->Nat),kv=N c/\i<=c/\c<=m/\DJ wr g n cap f2/\Hid (∀ p,f2 p=rotF f c m (m+1) p)/\Chg (fun k=>k=g) w wr) (fun kv _=>(intOf kv).toNat)
      case atStart=>exact⟨m,f,rfl,hj,Nat.le_refl _,hdq,fun p=>(rotF_id1 f m (m+1) p (by omega)).symm,hcq⟩
      case round=>
        clear hdq hcq
        obtain⟨c,f2,rfl,hc1',hc2',hd2,HF,hc⟩:=hrel
        by_cases hlt2:i<c
        · have hlt':(i:Int)<(c:Int):=by omega
          have hwc:IntKind.i64.wrap ((c:Int) - 1)=((c - 1:Nat):Int):=by rw [IntWalk.i64_in _ (by omega)];omega
          have c1:=hd2.cell c (by omega)
          have c2:=hd2.cell (c - 1) (by omega)
          have z1:=hd2.frozen c (by omega)
          have z2:=hd2.frozen (c - 1) (by omega)
          have HSw:=hid (hd2.swap c (c - 1) (by omega) (by omega))
          have HF2:Hid (∀ p,sw2 f2 c (c - 1) p=rotF f (c - 1) m (m+1) p):=fun p=>by
            have e:f2=rotF f c m (m+1):=funext fun p=>HF.out p
            rw [e];exact rot_down f m c p hc2' (by omega)
          have i1:(0:Int)<=c:=by omega
          have i2:(c:Int)<n:=by omega
          have i5:c<n:=by omega
          have hdc:i<=c - 1/\c - 1<c/\c - 1<n/\c - 1<=m:=by omega
          generalize hx:f2 c=x at *
          generalize hy:f2 (c - 1)=y at *
          generalize hd':c - 1=d at *
          obtain⟨d1,d2,d3,d4⟩:=hdc
          have hcc:c≠d:=by omega
          have hcc2:d≠c:=by omega
          have i3:(0:Int)<=d:=by omega
          have i4:(d:Int)<n:=by omega
          have HD:=hid hd'
          clear hx hy hd' HF
          go_upto_region 23 with fail
          go_region
          all_goals go_wp2_with fail
          all_goals go_roundw
          case rel=>exact⟨d,sw2 f2 c d,rfl,d1,d4,HSw.out.fr (Fr.drew (Fr.refl _)),HF2,hc.trans ((swap_chg wr g c d _ _).trans ((Fr.drew (Fr.refl _)).chg (fun k=>k=g)) (fun _ _ h=>h)) (fun _ _ h=>h)⟩
          case measure=>simp [intOf];omega
        · obtain rfl:i=c:=by omega
          have hnl':¬((i:Int)<(i:Int)):=by omega
          go_wp2_with fail
          refine bodyPost_ret (results_none rfl _ _ _) rfl ?_
          have e:f2=rotF f i m (m+1):=funext fun p=>HF.out p
          rw [HB.out]
          exact⟨rfl,f2,hd2,by rw [e];exact HRr.out,by rw [e];exact HDn.out,hc⟩
set_option maxRecDepth 512
def SymOK(k:Nat)(caps:Array Value)(g n cap:Nat)(key:Nat->Nat)(ok:Nat->Prop)(I:World->Prop)(a m b:Nat):Prop:=
 ∀ (f : Nat → Nat) (w : World), DJ w g n cap f → I w → (∀ p, a ≤ p → p < b → ok (f p)) → AheadF f a m b → SrtF key f a m → SrtF key f m b →
  Calls Tryz.prog 367 #[.slice (some ⟨g,0,none⟩) n cap,N a,N m,N b,.func (.func k) #[] caps] w fun e w'=>e=.returned (.tuple #[])/\∃ f',DJ w' g n cap f'/\RearF f f' a b/\SrtF key f' a b/\Chg (fun k=>k=g) w w'
set_option maxRecDepth 100000
theorem symC_any {k : Nat} {caps : Array Value} {g : Nat} {key : Nat → Nat} {ok : Nat → Prop} {I : World → Prop} (hk : CmpK k caps g key ok I) (a m b n cap : Nat) (ham : a + 1 < m) (hmb : m + 1 < b) (hb : b ≤ n) (hn : n ≤ 1000000000)
    (ih:∀ a' m' b',b' - a'<b - a->a'<m'->m'<b'->b'<=n->SymOK k caps g n cap key ok I a' m' b'):SymOK k caps g n cap key ok I a m b:=by
  intro f w hd hI hok hah hs1 hs2
  obtain⟨hc1,hc2⟩:=hd.caps
  unfold maxLen at hc2
  have hent:=hk.ent
  have HK:=hid hk
  have HOK:=hid hok
  have HAH:=hid hah
  have HS1:=hid hs1
  have HS2:=hid hs2
  have HIH:=hid ih
  have HII:=hid hI
  clear hk hok hah hs1 hs2 ih hI
  have hm1:(((m - a:Nat):Int) == 1)=false:=by simp;omega
  have hm1':¬((m - a:Nat)=1):=by omega
  have hw0:IntKind.i64.wrap ((m:Int) - a)=((m - a:Nat):Int):=by rw [IntWalk.i64_in _ (by omega)];omega
  have hm2:(((b - m:Nat):Int) == 1)=false:=by simp;omega
  have hm2':¬((b - m:Nat)=1):=by omega
  have hw1:IntKind.i64.wrap ((b:Int) - m)=((b - m:Nat):Int):=by rw [IntWalk.i64_in _ (by omega)];omega
  generalize m - a=ma at *
  generalize b - m=bm at *
  obtain⟨e1,e2,e3,e4⟩:=half_facts a b (by omega)
  have hmid1:a<(a+b) / 2/\(a+b) / 2<b:=by omega
  obtain⟨mid,hmid⟩:∃ mid,mid=(a+b) / 2:=⟨_,rfl⟩
  have hmm:2*mid<=a+b/\a+b<=2*mid+1:=by omega
  rw [<- hmid]at e3 e4 hmid1
  clear hmid
  generalize a+b=ab at e1 e2 e3
  have hwn:IntKind.i64.wrap ((mid:Int)+m)=((mid+m:Nat):Int):=by rw [IntWalk.i64_in _ (by omega)];omega
  have hwp:IntKind.i64.wrap (((mid+m:Nat):Int) - 1)=((mid+m - 1:Nat):Int):=by rw [IntWalk.i64_in _ (by omega)];omega
  obtain⟨nn,hnn⟩:∃ nn,nn=mid+m:=⟨_,rfl⟩
  rw [<- hnn]at hwn hwp
  go_enter Tryz.func367, Tryz.ntmps367
  go_upto_if 140 with fail
  go_cut [20,21]from 138 to 146 (fun sv rv wx=>∃ lo hi:Nat,sv=N lo/\rv=N hi/\a<=lo/\lo<=hi/\hi<=m/\nn - lo<=b/\m<=nn - hi/\Hid (lo=a\/nn - lo=b)/\Hid (hi=m\/nn - hi=m)/\w=wx)
  case first=>
    by_cases hgt:mid<m
    · have hgt':(mid:Int)<m:=by omega
      have hws:IntKind.i64.wrap ((nn:Int) - b)=((nn - b:Nat):Int):=by rw [IntWalk.i64_in _ (by omega)];omega
      have hfin:a<=nn - b/\nn - b<=mid/\mid<=m/\nn - (nn - b)<=b/\m<=nn - mid:=by omega
      have hl1:Hid (nn - b=a\/nn - (nn - b)=b):=.inr (by omega)
      have hl2:Hid (mid=m\/nn - mid=m):=.inr (by omega)
      have HNN:=hid hnn
      clear hnn
      go_wp2_with fail
      go_meet
      exact⟨nn - b,mid,by have:=HNN.out;first | rfl | (congr 1;omega),rfl,hfin.1,hfin.2.1,hfin.2.2.1,hfin.2.2.2.1,hfin.2.2.2.2,hl1,hl2,by first | rfl | trivial⟩
    · have hgt':¬(mid:Int)<m:=by omega
      have hfin:nn - a<=b/\m<=nn - m:=by omega
      clear hnn
      go_wp2_with fail
      go_meet
      exact⟨a,m,rfl,rfl,Nat.le_refl _,by omega,Nat.le_refl _,hfin.1,hfin.2,.inl rfl,.inl rfl,by first | rfl | trivial⟩
  case rest=>
    obtain⟨lo,hi,rfl,rfl,hlo,hlh,hhi,hb1,hb2,HL,HH,rfl⟩:=hcut
    have HNN:=hid hnn
    have hlim:∀ x,lo<=x->x<hi->m<=mid+m - 1 - x/\mid+m - 1 - x<b/\x<=mid+m - 1:=fun x h1 h2=>by omega
    have HLim:=hid hlim
    have hnn2:2*mid<=a+b/\m<=n/\mid<=n:=by omega
    clear hnn hwn hwp hlim
    go_wp2_with fail
    go_loopw [20,21] (fun sv rv wr=>∃ (s r:Nat),sv=N s/\rv=N r/\lo<=s/\s<=r/\r<=hi/\Hid (∀ x,lo<=x->x<s->ltK key (f x) (f (mid+m - 1 - x)))/\Hid (∀ x,r<=x->x<hi->ltK key (f (mid+m - 1 - x)) (f x))/\∃ q,wr=w.drewN q) (fun sv rv _=>(intOf rv).toNat - (intOf sv).toNat)
    case atStart=>exact⟨lo,hi,rfl,rfl,Nat.le_refl _,hlh,Nat.le_refl _,fun p h1 h2=>by omega,fun p h1 h2=>by omega,0,rfl⟩
    case round=>
      obtain⟨s,r,rfl,rfl,hs,hsr,hr,HX,HY,q,rfl⟩:=hrel
      by_cases hlt:s<r
      · have hlt':(s:Int)<r:=by omega
        obtain⟨j1,j2,j3,j4⟩:=half_facts s r (by omega)
        have hh1:s<=(s+r) / 2:=by omega
        have hh2:(s+r) / 2<r:=by omega
        generalize (s+r) / 2=c at *
        generalize s+r=sr at *
        obtain⟨p1,p2,p3⟩:=HLim.out c (by omega) (by omega)
        have c1:=(hd.fr ((Fr.refl w).drewN q)).cell (mid+m - 1 - c) (by omega)
        have c2:=(hd.fr ((Fr.refl w).drewN q)).cell c (by omega)
        have HC:=hid (fun r=>HK.out.call (f (mid+m - 1 - c)) (f c) (HK.out.fr HII.out (((Fr.refl w).drewN q).drewN r)) (HOK.out _ (by omega) (by omega)) (HOK.out c (by omega) (by omega)))
        have hcn:=cmp3_neg (key (f (mid+m - 1 - c))) (key (f c))
        have HSe:=hid (search_in key f a m b lo hi (mid+m - 1) c HS1.out HS2.out hlo hhi HLim.out (by omega) (by omega))
        have HA:=hid (ahead_lt (key:=key) HAH.out (show a<=c by omega) (show c<m by omega) p1 p2)
        have hpc:(mid:Int)+m - 1 - c=((mid+m - 1 - c:Nat):Int):=by omega
        have hwc:IntKind.i64.wrap ((mid:Int)+m - 1 - c)=((mid+m - 1 - c:Nat):Int):=by rw [hpc];exact IntWalk.i64_in _ (by omega)
        have hpn:mid+m - 1 - c<n:=by omega
        generalize hW:w.drewN q=W at *
        have HW:=hid hW
        clear hW
        have HX2:Hid (¬key (f (mid+m - 1 - c))<key (f c)->∀ x,lo<=x->x<c+1->ltK key (f x) (f (mid+m - 1 - x))):=fun e=>HSe.out.1 (HA.out.2.1 e)
        have HY2:Hid (key (f (mid+m - 1 - c))<key (f c)->∀ x,c<=x->x<hi->ltK key (f (mid+m - 1 - x)) (f x)):=fun e=>HSe.out.2 (HA.out.1.1 e)
        have i1:(0:Int)<=c:=by omega
        have i2:(c:Int)<n:=by omega
        have i5:c<n:=by omega
        have hwh:IntKind.i64.wrap ((c:Int)+1)=((c+1:Nat):Int):=by rw [IntWalk.i64_in _ (by omega)];omega
        clear HA HSe
        have hp0:(0:Int)<=((mid+m - 1 - c:Nat):Int):=by omega
        have hp1:((mid+m - 1 - c:Nat):Int)<n:=by omega
        generalize mid+m - 1 - c=pc at *
        generalize hx:f pc=x at *
        generalize hy:f c=y at *
        have HXq:=hid hx
        have HYq:=hid hy
        clear hx hy
        generalize hcv:cmp3 (key x) (key y)=cv at *
        have hcd:decide (cv<0)=decide (key x<key y):=by simp [hcn]
        generalize hkx:key x=kx at *
        generalize hky:key y=ky at *
        clear hcn hcv hkx hky
        go_upto_region 35 with fail
        go_quiet ((exact Calls.quiet_of (HC.out _)))
        by_cases hxy:kx<ky
        · have hxd:decide (kx<ky)=true:=decide_eq_true hxy
          simp only [hxd,Bool.not_true]
          go_wp2_with fail
          go_roundw
          case rel=>exact⟨s,c,rfl,rfl,hs,hh1,by omega,HX,HY2.out hxy,q+nq,by rw [<- HW.out,World.drewN_drewN]⟩
          case measure=>simp [intOf];omega
        · have hxd:decide (kx<ky)=false:=decide_eq_false hxy
          simp only [hxd,Bool.not_false]
          go_wp2_with fail
          go_roundw
          case rel=>exact⟨c+1,r,by go_num,rfl,by omega,by omega,hr,HX2.out hxy,HY,q+nq,by rw [<- HW.out,World.drewN_drewN]⟩
          case measure=>simp [intOf];omega
      · obtain rfl:s=r:=by omega
        have hnl:¬((s:Int)<s):=by omega
        have hdq:=hd.fr ((Fr.refl w).drewN q)
        have hcq:Chg (fun k=>k=g) w (w.drewN q):=((Fr.refl w).drewN q).chg _
        have HIq:=hid (HK.out.fr HII.out ((Fr.refl w).drewN q))
        obtain⟨e,he⟩:∃ e,e=mid+m - s:=⟨_,rfl⟩
        have hse:a<=s/\s<=m/\m<=e/\e<=b:=by have:=HNN.out;omega
        have hes:Hid (e+s=mid+m):=by show _=_;omega
        have hx1:Hid (a<s->e<b->ltK key (f (s - 1)) (f e)):=fun h1 h2=>by
          have hl:lo<=s - 1:=by
            rcases HL.out with h | h
            · omega
            · have:=HNN.out;omega
          have:=HX.out (s - 1) hl (by omega)
          rw [show mid+m - 1 - (s - 1)=e by omega]at this
          exact this
        have hx2:Hid (s<m->m<e->ltK key (f (e - 1)) (f s)):=fun h1 h2=>by
          have hl:s<hi:=by
            rcases HH.out with h | h
            · omega
            · have:=HNN.out;omega
          have:=HY.out s (Nat.le_refl _) hl
          rw [show mid+m - 1 - s=e - 1 by omega]at this
          exact this
        obtain⟨s1,s2,s3,s4⟩:=hse
        have HCross:=hid (sym_cross s1 s2 s3 s4 hes.out HS1.out HS2.out hx1.out hx2.out)
        have HQ1:=hid (sym_srt1 s1 s2 s3 s4 hes.out HS1.out)
        have HQ2:=hid (sym_srt2 s1 s2 s3 s4 hes.out HS2.out)
        have HQ3:=hid (sym_srt3 s1 s2 s3 s4 hes.out HS1.out)
        have HQ4:=hid (sym_srt4 s1 s2 s3 s4 hes.out HS2.out)
        have HA1:=hid (sym_ah1 s1 s2 s3 s4 hes.out HAH.out)
        have HA2:=hid (sym_ah2 s1 s2 s3 s4 hes.out HAH.out)
        have HRot:=hid (rotF_rear f s m e s2 s3)
        have HOK1:Hid (∀ p,a<=p->p<b->ok (rotF f s m e p)):=fun p h1 h2=>by
          obtain⟨q,h3,h4,h5⟩:=(HRot.out.widen s1 (by omega) s4).mem p h1 h2
          rw [h5];exact HOK.out q h3 h4
        have hwe:IntKind.i64.wrap ((mid:Int)+m - s)=(e:Int):=by rw [IntWalk.i64_in _ (by omega)];omega
        have hse2:s<=mid/\mid<=e:=by have:=hes.out;omega
        have HE:=hid he
        clear he hb1 hb2 hlh hs hr hsr hhi hlt HX HY HL HH HLim hnn2 hmm
        generalize w.drewN q=wq at *
        clear hd
        go_upto_region 39 with fail
        go_cut [185]from 178 to 185 (fun cv wx=>cv=.bool (decide (s<m) && decide (m<e))/\wq=wx)
        case first=>
          by_cases q1:s<m
          · by_cases q2:m<e
            · have q1':(s:Int)<m:=by omega
              have q2':(m:Int)<e:=by omega
              go_wp2_with fail
              go_meet
              exact⟨by simp [q1,q2],rfl⟩
            · have q1':(s:Int)<m:=by omega
              have q2':¬(m:Int)<e:=by omega
              go_wp2_with fail
              go_meet
              exact⟨by simp [q1,q2],rfl⟩
          · have q1':¬(s:Int)<m:=by omega
            go_wp2_with fail
            go_meet
            exact⟨by simp [q1],rfl⟩
        case rest=>
          obtain⟨rfl,rfl⟩:=hcut
          have HCR:=hid (fun(h1:s<m) (h2:m<e)=>rotate_any s m e (.func (.func k) #[] caps) g n cap f wq hdq h1 h2 (by omega) hn)
          have HNR:Hid ((decide (s<m) && decide (m<e))=false->∀ p,rotF f s m e p=f p):=fun h p=>by
            simp only [Bool.and_eq_false_iff,decide_eq_false_iff_not]at h
            rcases h with h | h
            · obtain rfl:s=m:=by omega
              exact rotF_id1 f s e p s3
            · obtain rfl:m=e:=by omega
              exact rotF_id2 f s m p
          have HBR:Hid ((decide (s<m) && decide (m<e))=true->s<m/\m<e):=fun h=>by simpa using h
          generalize (decide (s<m) && decide (m<e))=bR at *
          go_upto_if 185 with fail
          go_cut []from 186 to 191 (fun wx=>DJ wx g n cap (rotF f s m e)/\Chg (fun k=>k=g) w wx)
          case first=>
            cases bR
            · go_wp2_with fail
              go_meet
              exact⟨hdq.congr fun p _=>HNR.out (by first | rfl | trivial) p,hcq⟩
            · go_wp2_with fail
              refine(HCR.out (HBR.out (by first | rfl | trivial)).1 (HBR.out (by first | rfl | trivial)).2).mono ?_
              rintro e' w1 ⟨rfl,hd1,hc1⟩
              go_wp2_with fail
              go_meet
              exact⟨hd1,hcq.trans hc1 (fun _ _ h=>h)⟩
          case rest=>
            generalize hwc1:wc=wd at *
            clear hwc1
            obtain⟨hd1,hch1⟩:=hcut
            clear HCR HNR HBR hcq hdq
            have HI1:=hid (HK.out.stay HII.out hch1)
            go_upto_region 41 with fail
            go_cut [199]from 192 to 199 (fun cv wx=>cv=.bool (decide (a<s) && decide (s<mid))/\wd=wx)
            case first=>
              by_cases q1:a<s
              · by_cases q2:s<mid
                · have q1':(a:Int)<s:=by omega
                  have q2':(s:Int)<mid:=by omega
                  go_wp2_with fail
                  go_meet
                  exact⟨by simp [q1,q2],rfl⟩
                · have q1':(a:Int)<s:=by omega
                  have q2':¬(s:Int)<mid:=by omega
                  go_wp2_with fail
                  go_meet
                  exact⟨by simp [q1,q2],rfl⟩
              · have q1':¬(a:Int)<s:=by omega
                go_wp2_with fail
                go_meet
                exact⟨by simp [q1],rfl⟩
            case rest=>
              obtain⟨rfl,rfl⟩:=hcut
              have HC1:=hid (fun(h1:a<s) (h2:s<mid)=>HIH.out a s mid (by omega) h1 h2 (by omega) (rotF f s m e) wd hd1 HI1.out (fun p x y=>HOK1.out p x (by omega)) HA1.out HQ1.out HQ2.out)
              have HN1:Hid ((decide (a<s) && decide (s<mid))=false->SrtF key (rotF f s m e) a mid):=fun h=>by
                simp only [Bool.and_eq_false_iff,decide_eq_false_iff_not]at h
                rcases h with h | h
                · obtain rfl:a=s:=by omega
                  exact HQ2.out
                · obtain rfl:s=mid:=by omega
                  exact HQ1.out
              have HB1:Hid ((decide (a<s) && decide (s<mid))=true->a<s/\s<mid):=fun h=>by simpa using h
              generalize (decide (a<s) && decide (s<mid))=bR1 at *
              go_upto_if 199 with fail
              go_cut []from 200 to 205 (fun wx=>∃ f2,DJ wx g n cap f2/\RearF (rotF f s m e) f2 a mid/\SrtF key f2 a mid/\Chg (fun k=>k=g) w wx)
              case first=>
                cases bR1
                · go_wp2_with fail
                  go_meet
                  exact⟨_,hd1,RearF.refl _ _ _,HN1.out (by first | rfl | trivial),hch1⟩
                · go_wp2_with fail
                  refine(HC1.out (HB1.out (by first | rfl | trivial)).1 (HB1.out (by first | rfl | trivial)).2).mono ?_
                  rintro e' w1 ⟨rfl,f2,hd2,hr2,hs2,hc2⟩
                  go_wp2_with fail
                  go_meet
                  exact⟨f2,hd2,hr2,hs2,hch1.trans hc2 (fun _ _ h=>h)⟩
              case rest=>
                generalize hwc1:wc=we at *
                clear hwc1
                obtain⟨f2,hd2,hr2,hs2,hch2⟩:=hcut
                clear HC1 HN1 HB1 hd1
                have HI2:=hid (HK.out.stay HII.out hch2)
                have HR2:=hid hr2
                have HSa:=hid hs2
                have HHi:Hid (∀ p,mid<=p->f2 p=rotF f s m e p):=fun p h=>HR2.out.1 p (.inr h)
                have HOK2:Hid (∀ p,mid<=p->p<b->ok (f2 p)):=fun p h1 h2=>by rw [HHi.out p h1];exact HOK1.out p (by omega) h2
                have HQ3':=hid (HQ3.out.congr (g:=f2) fun p h _=>HHi.out p h)
                have HQ4':=hid (HQ4.out.congr (g:=f2) fun p h _=>HHi.out p (by omega))
                have HA2':Hid (AheadF f2 mid e b):=fun p q x y z t=>by rw [HHi.out p x,HHi.out q (by omega)];exact HA2.out p q x y z t
                clear hr2 hs2 hch1 HI1
                go_upto_region 43 with fail
                go_cut [213]from 206 to 213 (fun cv wx=>cv=.bool (decide (mid<e) && decide (e<b))/\we=wx)
                case first=>
                  by_cases q1:mid<e
                  · by_cases q2:e<b
                    · have q1':(mid:Int)<e:=by omega
                      have q2':(e:Int)<b:=by omega
                      go_wp2_with fail
                      go_meet
                      exact⟨by simp [q1,q2],rfl⟩
                    · have q1':(mid:Int)<e:=by omega
                      have q2':¬(e:Int)<b:=by omega
                      go_wp2_with fail
                      go_meet
                      exact⟨by simp [q1,q2],rfl⟩
                  · have q1':¬(mid:Int)<e:=by omega
                    go_wp2_with fail
                    go_meet
                    exact⟨by simp [q1],rfl⟩
                case rest=>
                  obtain⟨rfl,rfl⟩:=hcut
                  have HC1:=hid (fun(h1:mid<e) (h2:e<b)=>HIH.out mid e b (by omega) h1 h2 hb f2 we hd2 HI2.out HOK2.out HA2'.out HQ3'.out HQ4'.out)
                  have HN1:Hid ((decide (mid<e) && decide (e<b))=false->SrtF key f2 mid b):=fun h=>by
                    simp only [Bool.and_eq_false_iff,decide_eq_false_iff_not]at h
                    rcases h with h | h
                    · obtain rfl:mid=e:=by omega
                      exact HQ4'.out
                    · obtain rfl:e=b:=by omega
                      exact HQ3'.out
                  have HB1:Hid ((decide (mid<e) && decide (e<b))=true->mid<e/\e<b):=fun h=>by simpa using h
                  generalize (decide (mid<e) && decide (e<b))=bR2 at *
                  have HFin:Hid (∀ f3,RearF f2 f3 mid b->SrtF key f3 mid b->RearF f f3 a b/\SrtF key f3 a b):=fun f3 r3 q3=>by
                    refine⟨((HRot.out.widen s1 (by omega) s4).trans (HR2.out.widen (Nat.le_refl a) (by omega) (by omega))).trans (r3.widen (by omega) (by omega) (Nat.le_refl b)),?_⟩
                    refine sym_join key (rotF f s m e) f3 a mid b (HSa.out.congr fun p _ h=>r3.1 p (.inl h)) q3 (fun p x y=>?_) (fun p x y=>?_) HCross.out
                    · rw [r3.1 p (.inl y)];exact HR2.out.mem p x y
                    · obtain⟨q,x1,x2,x3⟩:=r3.mem p x y
                      exact⟨q,x1,x2,by rw [x3,HHi.out q x1]⟩
                  cases bR2
                  · go_wp2_with fail
                    go_end0
                    have:=HFin.out f2 (RearF.refl _ _ _) (HN1.out (by first | rfl | trivial))
                    exact⟨rfl,f2,hd2,this.1,this.2,hch2⟩
                  · go_wp2_with fail
                    refine(HC1.out (HB1.out (by first | rfl | trivial)).1 (HB1.out (by first | rfl | trivial)).2).mono ?_
                    rintro e' w1 ⟨rfl,f3,hd3,hr3,hs3,hc3⟩
                    go_wp2_with fail
                    go_end0
                    have:=HFin.out f3 hr3 hs3
                    exact⟨rfl,f3,hd3,this.1,this.2,hch2.trans hc3 (fun _ _ h=>h)⟩
set_option maxRecDepth 512
theorem symMerge_any{k:Nat}{caps:Array Value}{g:Nat}{key:Nat->Nat}{ok:Nat->Prop}{I:World->Prop}(hk:CmpK k caps g key ok I)(n cap:Nat)(hn:n<=1000000000):∀ (c a m b:Nat),b - a<=c->a<m->m<b->b<=n->SymOK k caps g n cap key ok I a m b:=by
 intro c
 induction c with
 | zero=>intro a m b h1 h2 h3 h4;omega
 | succ c ih=>
  intro a m b h1 h2 h3 h4
  by_cases c1:m=a+1
  · subst c1
    intro f w hd hI hok hah hs1 hs2
    exact symA_any hk a b n cap f w hd hI h3 h4 hn hok hah hs2
  · by_cases c2:b=m+1
    · subst c2
      intro f w hd hI hok hah hs1 hs2
      exact symB_any hk a m n cap f w hd hI (by omega) h4 hn hok hah hs1
    · exact symC_any hk a m b n cap (by omega) (by omega) h4 hn fun a' m' b' x y z t=>ih a' m' b' (by omega) y z t
end Go.Proofs.YtghcmindankceaaGreatDoor
