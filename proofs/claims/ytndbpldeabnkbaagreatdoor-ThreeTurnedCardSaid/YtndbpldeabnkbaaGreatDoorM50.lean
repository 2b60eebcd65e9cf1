/- Lemmas for ThreeTurned. -/
import Derived.Test.YtndbpldeabnkbaaGreatDoorM47
import Derived.Test.YtndbpldeabnkbaaGreatDoorM49
set_option linter.all false
set_option maxHeartbeats 8000000
set_option maxRecDepth 100000
namespace Go.Fk
abbrev q8Qb:=@Int.eq_ofNat_of_zero_le
end Go.Fk
namespace Go.Proofs.YtndbpldeabnkbaaGreatDoor
open Go.RowKit Go.Fk
def fg(A:Z0)(M k:Nat):Z0:=(A.take (k*M+21)).drop (k*M)
def kz(A B:Z0)(M:Nat):Nat->Nat
 | 0=>0
 | k+1=>kz A B M k+if fg A M k=fg B M k then 0 else 1
theorem BC(A B:Z0)(M:Nat):∀k,kz A B M k<=k
 | 0=>al _
 | k+1=>by have:=BC A B M k;rw[kz];split <;> omega
def Si{A B:Z0}{M n:Nat}(D:B.length=A.length)(F:A.length=M+21)(G:kz A B M 2=n)(h:∀j,j<2->fg A M j=fg B M j\/go (fg B M j)=false)(e:n<2):(B.take 21=A.take 21\/go (B.take 21)=false)/\(B.take 21=A.take 21\/B.drop (B.length-21)=A.drop (A.length-21)):=by
 have d:∀X:Z0,fg X M 0=X.take 21:=λX=>by simp[fg]
 have m:∀X:Z0,X.length=A.length->fg X M 1=X.drop (X.length-21):=λX hX=>by unfold fg;rw[dC,cw ω,hX,F,Nat.add_sub_cancel]
 refine⟨by rw[<- d A,<- d B];exact(h 0 ω).imp Eq.symm id,?_⟩;rw[<- d A,<- d B,<- m A rfl,<- m B D];subst G;unfold kz kz kz at e;by_cases o:fg A M 0=fg B M 0;·exact .inl o.symm
 ·by_cases z:fg A M 1=fg B M 1;·exact .inr z.symm
  ·rw[ae o,ae z]at e;omega
def We(V Y d q c:Nat)(p:Bool)(v tv:Value)(A:Z0)(ts:List Tn)(w:World)(hs:ah w eB v A)(cc:ah w qd tv ts)(cF:42<=A.length)(hA:A.length<=20000000)(gg:ts.length<=40)(hd:1<=d)(gs:d+q<=255)(hc:c<=4096):Calls Tryz.prog 15 #[fq ⟨(V:Int),p,(Y:Int),(d:Int),(q:Int),(c:Int)⟩,v,tv] w λe w'=>∃u B ok,e=.returned (.tuple #[u,.bool ok])/\ah w' eB u B/\(ok=true->ue c q (d+q) A B)/\Fr w w':=by
 have fc:A≠[]:=by intro e;rw[e]at cF;simp at cF
 have cG:=ad (λva vb (a b:Z0) W (h1:ah W eB va a) (h2:ah W eB vb b)=>sk va vb a b W h1 h2);have cR:=ad (λv (l:Z0) W (h:ah W eB v l) (I:l.length<=1000000)=>WT v l W h I);have fe:=ad (λv (l:Z0) W (h:ah W eB v l) (I:l.length<=1000000)=>Jy v l W h I);have HS:=ad (λW (h:Fr w W)=>hs.fr h);have HT:=ad (λW (h:Fr w W)=>cc.fr h);obtain⟨a0,g1,rfl,_⟩:=hs.shape;obtain⟨a1,g3,rfl,_⟩:=cc.shape;obtain⟨M,hM⟩:∃M,A.length=M+21:=⟨A.length-21,ω⟩;have HM:=ad hM;clear hM;have da:(w.alloc (.cells #[N V,.bool p,N Y,N d,N q,N c] 23)).heap[w.heap.size]?=some (.cells #[N V,.bool p,N Y,N d,N q,N c] 23 (0,0)):=aB _ _ _ rfl;have dc:Fr w (w.alloc (.cells #[N V,.bool p,N Y,N d,N q,N c] 23)):=(Fr.refl w).alloc _;have di:(w.alloc (.cells #[N V,.bool p,N Y,N d,N q,N c] 23)).heap.size=w.heap.size+1:=σ
 go_in;go_upto_region 1 with fail;generalize w.alloc (.cells #[N V,.bool p,N Y,N d,N q,N c] 23)=w0 at *;have hl:Ow (w0.alloc (.cells #[] 5)) (w.heap.size+1) eB (.slice (some ⟨w0.heap.size,0,none⟩) 0 0) []:=nu eB w0 #[] [] 0 rfl (ar _) ω;rw[di]at hl;have bv:Fr w (w0.alloc (.cells #[] 5)):=dc.alloc _;have dj:=((Fr.refl w0).alloc (.cells #[] 5)).heap da;have ds:=HS.out _ bv;have dv:w.heap.size+1<=(w0.alloc (.cells #[] 5)).heap.size:=by rw[eW];omega
 go_wp2_with (at_builtin;refine iJ eB rfl (.tmp 20) (.tmp 21) 30 rfl Tryz.underlying30 (w.heap.size+1) rfl hl _ _ rfl ds ?c1 dv ?_);case c1=>simp;omega
 intro v5 w5 bx;have d0:=bx.below hl bv (Nat.le_succ _) bv.size;have cf:Ow w5 (w.heap.size+1) eB v5 A:=by simpa using bx.own
 have d1:=bx.chg'.heap dj (λe=>by have:=(hl.lt _ e).1;omega);obtain⟨g,z,rfl,g4,_⟩:=cf.atHead fc;clear bx hl ds dj da bv dc di dv hs cc;go_wp2;go_loopw [9] (λJ wr=>∃(i:Nat) (B:Z0),i<=ts.length/\J=N i/\Hid (B.length=A.length)/\Ow wr (w.heap.size+1) eB (.slice (some ⟨g,0,none⟩) A.length z) B/\wr.heap[w.heap.size]?=some (.cells #[N V,.bool p,N Y,N d,N q,N c] 23 (0,0))/\Fr w wr) (λJ _=>ts.length-(intOf J).toNat);case atStart=>exact⟨0,A,ar _,rfl,rfl,cf,d1,d0⟩
 case round=>
  clear d0 cf d1;obtain⟨i,B,hi,rfl,HB,hO,hb,Z⟩:=hrel;by_cases b3:i<ts.length
  ·obtain⟨b1,o1,c1,d2,e1,e2⟩:=Lt (HT.out wr Z) i b3;simp only[ir]at d2;obtain⟨rfl,fl,rfl⟩:=d2;clear fl;generalize ts[i]=m at *;have fm:=m.at_.toNat_lt;have gO:=ax (m.at_.toNat:Int) ω;have ha:m.at_.toNat%A.length<A.length:=jB _ ω;have d3:((m.at_.toNat:Nat):Int).tmod (A.length:Int)=((m.at_.toNat%A.length:Nat):Int):=(by rw[zp ω];exact(Int.natCast_emod _ _).symm);have d4:¬(A.length:Int)=0:=ω;generalize m.at_.toNat%A.length=a at *;have d5:a<B.length:=(by have:=HB.out;omega);obtain⟨k0,k1⟩:=hO.cellAt Fk.u8 rfl a d5;have hx:=uB B[a].toNat m.by_.toNat B[a].toNat_lt m.by_.toNat_lt;have d6:B[a].toNat ^^^ m.by_.toNat<2^8:=jV B[a].toNat_lt m.by_.toNat_lt;have dE:=ad (hO.set Fk.u8 rfl a d5 (UInt8.ofNat (B[a].toNat ^^^ m.by_.toNat)) (.int .u8 ((B[a].toNat ^^^ m.by_.toNat:Nat):Int)) (by show Value.int .u8 _=_;rw[oN _ d6]));have fn:=ad (ep (i:=a) (u:=.int .u8 ((B[a].toNat ^^^ m.by_.toNat:Nat):Int)) Z (show w.heap.size<=g by omega) Z.size);have fr:Hid ((wr.setCell ⟨g,a,none⟩ (.int .u8 ((B[a].toNat ^^^ m.by_.toNat:Nat):Int))).heap[w.heap.size]?=some (.cells #[N V,.bool p,N Y,N d,N q,N c] 23 (0,0))):=(by show _=_;rw[oA _ _ _ _ (by simp;omega)];exact hb);obtain⟨B2,ch⟩:∃B2,B2=B.set a (UInt8.ofNat (B[a].toNat ^^^ m.by_.toNat)):=⟨_,rfl⟩;have fs:Hid (B2.length=A.length):=(by show _=_;rw[ch,mW];exact HB.out);rw[<- ch]at dE;generalize B[a].toNat ^^^ m.by_.toNat=xy at *;have i1:(0:Int)<=i:=ω;have i2:(i:Int)<ts.length:=ω;have i3:(0:Int)<=a:=ω;have i4:(a:Int)<A.length:=ω;clear d6 ch hO hb fm;go_upto_region 6 with fail;go_region;all_goals go_wp2_with fail
   all_goals go_roundw
   case rel=>exact⟨i+1,B2,ω,γ,fs,dE.out.drew,fr.out,fn.out.drew⟩
   case measure=>exact μ
  ·obtain rfl:i=ts.length:=ω;have hp:¬((ts.length:Int)<ts.length):=ω;have hr:IntKind.i64.wrap ((A.length:Int)-21)=(M:Int):=(by have:=HM.out;rw[ax _ ω];omega);obtain⟨wo,rfl⟩:∃wo:World,wo=wr:=⟨_,rfl⟩;have el:=hO.see;have cj:=ad (λW (h:Fr wo W)=>el.fr h);clear hO el HT;go_wp2;go_loopw [11,12] (λnv J wr=>∃k:Nat,k<=2/\J=N k/\nv=N (kz A B M k)/\Hid (∀j,j<k->fg A M j=fg B M j\/go (fg B M j)=false)/\Fr wo wr) (λ_ J _=>2-(intOf J).toNat);case atStart=>exact⟨0,ω,rfl,rfl,λj h=>by omega,Fr.refl _⟩
   case round=>
    obtain⟨k,hk,rfl,rfl,HJ,o⟩:=hrel;by_cases ht:k<2
    ·have hu:k*M<=1*M:=bQ M ω;have ba:=HM.out;have aa:=HB.out;have f0:=wO k M 1 20000000 ω ω ω;obtain⟨e,he⟩:∃e,e=k*M+21:=⟨_,rfl⟩;have eq:Hid ((A.take e).drop (k*M)=fg A M k):=ad (by rw[he];rfl);have ck:Hid ((B.take e).drop (k*M)=fg B M k):=ad (by rw[he];rfl);have cl:=ad (BC A B M k);have O:Hid (kz A B M (k+1)=kz A B M k+if fg A M k=fg B M k then 0 else 1):=rfl;have hv:IntKind.i64.wrap (((k*M:Nat):Int)+21)=(e:Int):=(by rw[ax _ ω,he];omega);generalize k*M=bb at *;obtain⟨pa,ca,ra,R⟩:=qJ eB 30 Tryz.underlying30 (HS.out wr (Z.trans o)) bb e ω ω;have ab:=cj.out wr o;rw[<- aa]at ab;obtain⟨pb,cb,rb,K⟩:=qJ eB 30 Tryz.underlying30 ab bb e ω ω;rw[aa]at rb;rw[show e-bb=21 by omega]at ra rb R K;rw[eq.out]at R;rw[ck.out]at K;have U:=ad (λW (h:Fr wr W)=>cG.out _ _ _ _ W (R.fr h) (K.fr h));have f5:Hid ((fg B M k).length<=1000000):=(by show _<=_;rw[<- ck.out,aN,aA];omega);have bd:=ad (λW (h:Fr wr W)=>cR.out _ _ W (K.fr h) f5.out);have i1:(0:Int)<=bb:=ω;have i2:(bb:Int)<=e:=ω;have i3:(e:Int)<=A.length:=ω;have i4:(k:Int)<2:=ω;clear R K ab he eq ck ba aa;by_cases hD:fg A M k=fg B M k
     ·have L:Hid (kz A B M (k+1)=kz A B M k):=ad (by rw[O.out,af hD];rfl);have cn:Hid (∀j,j<k+1->fg A M j=fg B M j\/go (fg B M j)=false):=λj hj=>by
       by_cases e:j=k;·subst e;exact .inl hD
       ·exact HJ.out j ω
      rw[bp hD]at U;clear HJ O hD bd;go_upto_region 12 with fail;go_quiet ((go_at_call 13;exact sK ((U.out _ (Fr.drewN (Fr.refl wr) _)).mono λ_ _ h=>⟨h.1,h.2.symm⟩)));go_wp2;go_roundw;case rel=>exact⟨k+1,ω,γ,by rw[L.out],cn,o.drewN _⟩
      case measure=>exact μ
     ·have L:Hid (kz A B M (k+1)=kz A B M k+1):=ad (by rw[O.out,ae hD]);have cn:Hid (go (fg B M k)=false->∀j,j<k+1->fg A M j=fg B M j\/go (fg B M j)=false):=λh j hj=>by
       by_cases e:j=k;·subst e;exact .inr h
       ·exact HJ.out j ω
      rw[br hD]at U;clear HJ O hD;have hw:=cl.out;generalize go (fg B M k)=cb2,kz A B M k=n at *;go_upto_region 12 with fail;go_quiet ((go_at_call 13;exact sK ((U.out _ (Fr.drewN (Fr.refl wr) _)).mono λ_ _ h=>⟨h.1,h.2.symm⟩)));go_wp2_with fail;refine(bd.out _ (Fr.drewN (Fr.refl wr) _)).mono ?_;rintro e wy ⟨rfl,ap⟩
      cases cb2 with
      | true=>go_wp2;go_ret2;exact⟨_,[],false,rfl,ah.nil,(λh=>by cases h),(Z.trans (o.drewN _)).trans ap⟩
      | false=>
       have f7:=ad (cn.out rfl);go_wp2;go_roundw;case rel=>exact⟨k+1,ω,γ,by rw[L.out];go_num,f7,(o.drewN _).trans ap⟩
       case measure=>exact μ
    ·obtain rfl:k=2:=ω;obtain⟨wp,rfl⟩:∃wp:World,wp=wr:=⟨_,rfl⟩;have cp:=ad (show B.length=A.length from HB.out);have ba:=HM.out;have b8:=Z.trans o;have es:=o.heap hb;have ev:=ad (λW (h:Fr wp W)=>cj.out W (o.trans h));have f9:=ad (λW (h:Fr wp W)=>HS.out W (b8.trans h));have hy:=BC A B M 2;have HH:=ad (λ(h2:kz A B M 2<2)=>Si cp.out HM.out rfl HJ.out h2);have h3:=ax ((c:Int)+4) ω;have x5:=ag es 5 rfl;have i2:¬((2:Int)<2):=ω;generalize kz A B M 2=nh at *;clear HJ o hb Z cj cR HS ba;go_wp2;go_loopw [15,16] (λnv J wr=>∃k:Nat,J=N k/\21+k*(c+4)<=A.length/\nv=N (lV A B c (d+q) k)/\lV A B c (d+q) k<=q/\Hid (∀j,j<k->de A c j=de B c j\/bz (de B c j)=false)/\Hid (∀j,j<k->lV A B c (d+q) (j+1)<=q)/\Fr wp wr) (λ_ J _=>A.length-(intOf J).toNat);case atStart=>exact⟨0,rfl,ω,rfl,ar _,λj h=>by omega,λj h=>by omega,Fr.refl _⟩
     case round=>
      obtain⟨k,rfl,hk,rfl,h5,av,a2,o⟩:=hrel;have ct:k<=k*(c+4):=Ct k ω;have cu:(k+1)*(c+4)=k*(c+4)+(c+4):=(by rw[be,dC]);obtain⟨E,hE⟩:∃E,E=(k+1)*(c+4):=⟨_,rfl⟩;obtain⟨F,hF⟩:∃F,F=k*(c+4):=⟨_,rfl⟩;have e0:((k:Int)+1)*((c:Int)+4)=(E:Int):=(by rw[hE];push_cast;rfl);have e3:(k:Int)*((c:Int)+4)=(F:Int):=(by rw[hF];push_cast;rfl);rw[<- hE,<- hF]at cu;rw[<- hF]at ct hk;have HE:=ad hE;have HF:=ad hF;have f0:IntKind.i64.wrap (((k:Int)+1)*((c:Int)+4))=(E:Int):=(by rw[e0];exact ax _ ω);have h6:=ax (21+(E:Int)) ω;have h7:IntKind.i64.wrap ((k:Int)*((c:Int)+4))=(F:Int):=(by rw[e3];exact ax _ ω);have h8:k<=20000000:=ω;have h9:=ax ((k:Int)+1) ω;clear hE hF e0 e3;by_cases fB:21+E<=M
      ·have j1:(21:Int)+E<=M:=ω;have c0:=o.heap es;have x3:=ag c0 3 rfl;have x4:=ag c0 4 rfl;have fN:=ax ((d:Int)+q) ω;have d3:(k:Int).tmod ((d:Int)+q)=((k%(d+q):Nat):Int):=(by rw[zp ω];exact(Int.natCast_emod _ _).symm);have d4:¬(d:Int)+q=0:=ω;obtain⟨D,I⟩:∃D,D=if k%(d+q)=0 then 0 else lV A B c (d+q) k:=⟨_,rfl⟩;have O:Hid (lV A B c (d+q) (k+1)=D+if de A c k=de B c k then 0 else 1):=ad (by rw[I];rfl);have e5:D<=q:=(by rw[I];split <;> omega);have bL:=ad (λh:k%(d+q)=0=>I.trans (af h));have bR:=ad (λh:¬k%(d+q)=0=>I.trans (ae h));clear I c0;generalize lV A B c (d+q) k=nk,k%(d+q)=md at *;go_upto_if 101 with fail;go_cut [15]from 101 to 102 (λnv wx=>nv=N D/\wr=wx)
       case first=>
        by_cases hz:md=0;·have h0:=ad (bL.out hz);have j2:(md:Int)=0:=ω;clear bL bR;go_wp2;go_meet;exact⟨by rw[h0.out];rfl,rfl⟩
        ·have h0:=ad (bR.out hz);have j2:¬(md:Int)=0:=ω;clear bL bR;go_wp2;go_meet;exact⟨by rw[h0.out],rfl⟩
       case rest=>
        obtain⟨rfl,rfl⟩:=hcut;clear bL bR d3 d4 x3 fN;obtain⟨Q,hQ⟩:∃Q,Q=21+F:=⟨_,rfl⟩;obtain⟨G,hG⟩:∃G,G=Q+(c+4):=⟨_,rfl⟩;have ba:=HM.out;have aa:=cp.out;have hB:IntKind.i64.wrap (21+(F:Int))=(Q:Int):=(by rw[ax _ ω,hQ];push_cast;rfl);have hH:IntKind.i64.wrap ((Q:Int)+((c:Int)+4))=(G:Int):=(by rw[ax _ ω,hG];push_cast;rfl);have fQ:G<=A.length:=ω;have c7:∀X:Z0,(X.take G).drop Q=de X c k:=λX=>(by rw[ru,hG,rr,hQ,HF.out];rfl);obtain⟨pa,ca,ra,R⟩:=qJ eB 30 Tryz.underlying30 (f9.out wr o) Q G ω fQ;have ab:=ev.out wr o;rw[<- aa]at ab;obtain⟨pb,cb,rb,K⟩:=qJ eB 30 Tryz.underlying30 ab Q G ω ω;rw[aa]at rb;rw[show G-Q=c+4 by omega]at ra rb R K;rw[c7]at R K;have U:=ad (λW (h:Fr wr W)=>cG.out _ _ _ _ W (R.fr h) (K.fr h));have cl:(de B c k).length=c+4:=(by rw[<- c7,aN,aA];omega);have bd:=ad (λW (h:Fr wr W)=>fe.out _ _ W (K.fr h) ω);have c8:Hid (cK (de B c k)=if bz (de B c k)then 0 else 5):=(by show _=_;unfold cK;rw[ae (show ¬(de B c k).length<4 by omega)]);have e7:=ad (show 21+(k+1)*(c+4)<=A.length by rw[<- HE.out];omega);have e8:=ad (show A.length-(k+1)<A.length-k by omega);have i1:(0:Int)<=Q:=ω;have hI:(Q:Int)<=G:=ω;have i3:(G:Int)<=A.length:=ω;clear R K ab cl c7 hQ hG ba aa cu HE HF ct hk;by_cases hD:de A c k=de B c k
        ·have L:Hid (lV A B c (d+q) (k+1)=D):=ad (by rw[O.out,af hD];rfl);have cA:Hid (∀j,j<k+1->de A c j=de B c j\/bz (de B c j)=false):=λj hj=>by
          by_cases e:j=k;·subst e;exact .inl hD
          ·exact av.out j ω
         have cB:Hid (∀j,j<k+1->lV A B c (d+q) (j+1)<=q):=λj hj=>by
          by_cases e:j=k;·subst e;rw[L.out];exact e5
          ·exact a2.out j ω
         rw[bp hD]at U;clear av a2 O hD bd c8;go_upto_region 23 with fail;go_quiet ((go_at_call 13;exact sK ((U.out _ (Fr.drewN (Fr.refl wr) _)).mono λ_ _ h=>⟨h.1,h.2.symm⟩)));go_wp2;go_roundw;case rel=>exact⟨k+1,γ,e7.out,by rw[L.out],by rw[L.out];exact e5,cA,cB,o.drewN _⟩
         case measure=>simpa [intOf] using e8.out
        ·have L:Hid (lV A B c (d+q) (k+1)=D+1):=ad (by rw[O.out,ae hD]);have cA:Hid (bz (de B c k)=false->∀j,j<k+1->de A c j=de B c j\/bz (de B c j)=false):=λh j hj=>by
          by_cases e:j=k;·subst e;exact .inr h
          ·exact av.out j ω
         have cB:Hid (D+1<=q->∀j,j<k+1->lV A B c (d+q) (j+1)<=q):=λh j hj=>by
          by_cases e:j=k;·subst e;rw[L.out];exact h
          ·exact a2.out j ω
         rw[br hD]at U;clear av a2 O hD;generalize bE (de B c k)=cq,bz (de B c k)=ok,cK (de B c k)=er at *;go_upto_region 23 with fail;go_quiet ((go_at_call 13;exact sK ((U.out _ (Fr.drewN (Fr.refl wr) _)).mono λ_ _ h=>⟨h.1,h.2.symm⟩)));go_wp2_with fail;refine(bd.out _ (Fr.drewN (Fr.refl wr) _)).mono ?_;rintro e wy ⟨u,rfl,hU,ap⟩;obtain⟨pu,zu,rfl⟩:=hU.shape';have hL:=((Fr.drewN (Fr.refl wr) nq).trans ap).cell x4;have a3:=(o.drewN nq).trans ap;clear hU x4 ap
         cases ok with
         | true=>obtain rfl:er=0:=c8.out;go_wp2;go_ret2;exact⟨_,[],false,rfl,ah.nil,(λh=>by cases h),b8.trans a3⟩
         | false=>
          obtain rfl:er=5:=c8.out;have hR:=ax ((D:Int)+1) ω;by_cases hq:D+1<=q
          ·have j2:¬(q:Int)<(D:Int)+1:=ω;have fS:=ad (cA.out rfl);have ga:=ad (cB.out hq);go_wp2;go_roundw;case rel=>exact⟨k+1,γ,e7.out,by rw[L.out];go_num,by rw[L.out];exact hq,fS,ga,a3⟩
           case measure=>simpa [intOf] using e8.out
          ·have j2:(q:Int)<(D:Int)+1:=ω;go_wp2;go_ret2;exact⟨_,[],false,rfl,ah.nil,(λh=>by cases h),b8.trans a3⟩
      ·have j1:¬(21:Int)+E<=M:=ω;have HT:Hid (nh<2->ue c q (d+q) A B):=λh=>by
        have b3:∀i,21+(i+1)*(c+4)<=A.length-21->i<k:=λi hi=>by
         rcases mV i k with h1 | h1;·exact h1
         ·have h2:=bQ (c+4) (show k+1<=i+1 by omega);rw[<- HE.out]at h2;have:=HM.out;omega
        exact⟨cp.out,(HH.out h).1,(HH.out h).2,λi hi=>av.out i (b3 i hi),λi hi=>a2.out i (b3 i hi)⟩
       have fb:=ev.out wr o;have a3:=b8.trans o;clear av a2 HH HE HF cu ct hk fB;by_cases I:nh<2;·have gb:=ad (HT.out I);have j3:(nh:Int)<2:=ω;go_wp2;go_ret2;exact⟨_,B,.inr ⟨rfl,fb,gb.out,a3⟩⟩
       ·have j3:¬(nh:Int)<2:=ω;go_wp2;go_ret2;exact⟨_,B,.inl ⟨rfl,fb,a3⟩⟩
def Eb{l:List aq}(h:(decide (20<l.length) || decide ((1000:Int)<je 0 l))=false):gA l:=by
 simp only[Bool.or_eq_false_iff,sw]at h;have:=CK l 0 1000 ω ω;exact⟨ω,ω⟩
def Li(h m d q c:Nat)(p:Bool)(l:List aq)(B:Z0)(o:ew ⟨(h:Int),p,(m:Int),(d:Int),(q:Int),(c:Int)⟩=true)(D:gA l)(F:d<=8)(X:q<=8)(G:q<=4*d)(I:4<=c)(J:c<=100)(K:ue c q (d+q) (bO h p m d q c (bt h m p l)) B)(v:Value)(W:World)(z:ah W eB v B)(A:cP W):(Calls Tryz.prog 10 #[v] W λe w'=>∃u,∃k n:Nat,e=.returned (.tuple #[fq ⟨(h:Int),p,(m:Int),(d:Int),(q:Int),(c:Int)⟩,u,N k,N n,.int .i64 0])/\Ow w' W.heap.size eR u l/\Fr W w') /\
  (Calls Tryz.prog 11 #[v] W λe w'=>∃u,∃n:Nat,e=.returned (.tuple #[u,N n,.int .i64 0])/\Ow w' W.heap.size eB u (bO h p m d q c (bt h m p l))/\Fr W w') /\
  (Calls Tryz.prog 14 #[v] W λe w'=>e=.returned (.bool true)/\Fr W w'):=by
 have k3:=(kM _).1 o;simp only at k3;have L:=sf h m p l ω ω D;have M:=vr d q c (bt h m p l).length G I F J L;obtain⟨Y,Z,⟨n,e6⟩,e7,O⟩:=LH h m d q c p l B o D M K;have Q:=(vM h m d q c p (bt h m p l) o ω M).1;rw[<- O]at Q;have aj:=(ud h m d q c p (bt h m p l) ω ω ω ω ω ω).1;have hF:=IW h m d q c p (bt h m p l) ω ω F X G I J L;have ac:=K.len;unfold so at hF;rw[<- O,<- ac]at hF;have R:=Jm v _ W z hF A;have U:=J3 v _ W z hF A;have V:=Jk v _ W z A;rw[Y,Z,Q]at R;rw[e6]at U;rw[e7,bp ω]at V;exact⟨R.mono λe w' ⟨u,a,b⟩=>⟨u,_,_,a,b⟩,U.mono λe w' ⟨u,a,b⟩=>⟨u,_,a,b⟩,V⟩
def Wf(o:dV)(v tv:Value)(l:List aq)(ts:List Tn)(w:World)(ht:cP w)(hs:ah w eR v l)(bd:ah w qd tv ts):Calls Tryz.prog 4 #[fq o,v,tv] w λe w'=>e=.returned (.bool true)/\Fr w w':=by
 have HA:=ad (λW (h:Fr w W)=>Jc W (ht.fr h));have HG:=ad (λW (h:Fr w W)=>(show Calls Tryz.prog 6 #[v,.int .i64 20,.int .i64 1000] W (λe w'=>e=.returned (.bool (decide (20<l.length) || decide ((1000:Int)<je 0 l)))/\Fr W w')from JB v l W (hs.fr h) 20 1000 ω));have Q:=ad (λW=>Jw o W);have HM:=ad (λ(h:ew o=true) W=>Ju o (((kM o).1 h).2.2.1) (((kM o).1 h).2.2.2.1) W)
 have HP : Hid ((decide (20 < l.length) || decide ((1000 : Int) < je 0 l)) = false → ew o = true → pJ o = true → ∃ (O : List UInt8) (T : List UInt8 → Prop), 42 ≤ O.length ∧ (∀ W, Fr w W → Calls Tryz.prog 9 #[fq o, v] W fun e w' => ∃ u, e = .returned (.tuple #[u, .int .i64 0]) ∧ Ow w' W.heap.size eB u O ∧ Fr W w') ∧
     (∀u W, Fr w W → ah W eB u O → ts.length ≤ 40 → Calls Tryz.prog 15 #[fq o, u, tv] W λe w' => ∃r B ok, e = .returned (.tuple #[r, .bool ok]) ∧ ah w' eB r B ∧ (ok = true → T B) ∧ Fr W w') ∧
     (∀B u W, T B → Fr w W → ah W eB u B → (Calls Tryz.prog 10 #[u] W λe w' => ∃u, ∃k n : Nat, e = .returned (.tuple #[.agg #[.int .i64 o.b, .bool o.plain, .int .i64 o.bu, .int .i64 o.d, .int .i64 o.p, .int .i64 o.c], u, N k, N n, .int .i64 0]) ∧ Ow w' W.heap.size eR u l ∧ Fr W w') ∧ (Calls Tryz.prog 11 #[u] W λe w' => ∃u, ∃n : Nat, e = .returned (.tuple #[u, N n, .int .i64 0]) ∧ Ow w' W.heap.size eB u O ∧ Fr W w') ∧ (Calls Tryz.prog 14 #[u] W λe w' => e = .returned (.bool true) ∧ Fr W w'))) := λhg ho hm => by
  have sm:=Eb hg
  have h3:=(kM o).1 ho
  obtain⟨R,m,U,V,op,X⟩:=o
  simp only[pJ,fL,en]at hm
  simp only at h3
  obtain⟨m1,m2,m3,m4,m5⟩:=hm
  obtain⟨k1,k2,k3,k4,k5,k6,k7,k8,k9,eq⟩:=h3
  obtain⟨A,rfl⟩:=q8Qb (show 0<=R by omega)
  obtain⟨D,rfl⟩:=q8Qb (show 0<=U by omega)
  obtain⟨d,rfl⟩:=q8Qb (show 0<=V by omega)
  obtain⟨q,rfl⟩:=q8Qb k5
  obtain⟨c,rfl⟩:=q8Qb (show 0<=X by omega)
  have cv:=sf A D m l ω ω sm
  have hz:=vr d q c (bt A D m l).length ω ω ω ω cv
  have es:(bO A m D d q c (bt A D m l)).length=42+aG d c (bt A D m l).length*((d+q)*(c+4)):=by
   unfold bO
   simp only[am,gH,qW,pV]
   omega
  exact ⟨bO A m D d q c (bt A D m l), ue c q (d + q) (bO A m D d q c (bt A D m l)), by omega, fun W h => Ck A D d q c m (by omega) (by omega) (by omega) (by omega) (by omega) (by omega) (by omega) (by omega) (by omega) (by omega) v l W (hs.fr h) sm (ht.fr h),
    λu W h h' bk => We A D d q c m u tv _ ts W h' (bd.fr h) ω ω bk ω ω ω,
    λB u W hT h h' => Li A D d q c m l B ho sm ω ω ω ω ω hT u W h' (ht.fr h)⟩
 have Y:=ad (λu W (h:Fr w W) (h2:ah W eR u l) (hl:l.length<=1000000000)=>Jr u v l l W h2 (hs.fr h) hl);rw[show decide (l=l)=true from bp rfl]at Y;have HL:Hid ((decide (20<l.length) || decide ((1000:Int)<je 0 l))=false->l.length<=1000000000):=λh=>by have:=(Eb h).len;omega
 obtain⟨a0,e0,rfl,_⟩:=hs.shape;obtain⟨a1,e2,rfl,_⟩:=bd.shape;have F:Fr w (w.alloc (.cells #[.int .i64 o.b,.bool o.plain,.int .i64 o.bu,.int .i64 o.d,.int .i64 o.p,.int .i64 o.c] 23)):=(Fr.refl w).alloc _;have H6:=ad (λW (h:Fr (w.alloc (.cells #[.int .i64 o.b,.bool o.plain,.int .i64 o.bu,.int .i64 o.d,.int .i64 o.p,.int .i64 o.c] 23)) W)=>Ef o h);clear hs ht bd;generalize pJ o=sm,ew o=o3,(decide (20<l.length) || decide ((1000:Int)<je 0 l))=G at *;obtain⟨R,m,U,V,op,X⟩:=o;simp only at H6 HP;go_in;go_wp2_with fail;refine(HA.out _ F).mono ?_;rintro e w1 ⟨rfl,bB⟩;go_wp2_with fail;refine(HG.out _ (F.trans bB)).mono ?_;rintro e w2 ⟨rfl,c8⟩;have g2:=bB.trans c8;obtain⟨I,J,c2,K,L,M⟩:=H6.out _ g2
 cases G with
 | true=>clear HP Q HM Y HL;go_wp2;go_ret;exact⟨rfl,F.trans g2⟩
 | false=>
  cases o3 with
  | false=>rw[ae σ]at Q;clear HP HM Y HL HA HG;go_wp2_with (first | (refine(Q.out _).mono ?_;rintro e w3 ⟨rfl,ac⟩));go_ret;exact⟨rfl,F.trans (g2.trans ac)⟩
  | true=>
   rw[af rfl]at Q;have aC:=ad (HM.out rfl)
   cases sm with
   | false=>clear HP HM Y HL HA HG;go_wp2_with (first | (refine(Q.out _).mono ?_;rintro e w3 ⟨rfl,ac⟩;have Z:=g2.trans ac;clear I J c2 K L M;obtain⟨I,J,c2,K,L,M⟩:=H6.out _ Z) | (refine(aC.out _).mono ?_;rintro e w4 ⟨rfl,a4⟩));go_ret;exact⟨rfl,F.trans (Z.trans a4)⟩
   | true=>
    by_cases bk:40<ts.length;·have j1:(40:Int)<ts.length:=ω;clear HP HM Y HL HA HG;go_wp2_with (first | (refine(Q.out _).mono ?_;rintro e w3 ⟨rfl,ac⟩;have Z:=g2.trans ac;clear I J c2 K L M;obtain⟨I,J,c2,K,L,M⟩:=H6.out _ Z) | (refine(aC.out _).mono ?_;rintro e w4 ⟨rfl,a4⟩));go_ret;exact⟨rfl,F.trans (Z.trans a4)⟩
    have j1:¬(40:Int)<ts.length:=ω;obtain⟨O,T,cB,bL,bR,bT⟩:=HP.out rfl rfl rfl;have ca:=ad bL;have cb:=ad (λu W h1 h2=>bR u W h1 h2 ω);have bn:=ad bT;have cF:=ad (HL.out rfl);have j2:¬(O.length:Int)<42:=ω;have cG:(Tryz.prog.info? 23).map (·.size)=some (#[.int .i64 R,.bool m,.int .i64 U,.int .i64 V,.int .i64 op,.int .i64 X]:Array Value).size:=(by kernel_rfl);have cL:(#[.int .i64 R,.bool m,.int .i64 U,.int .i64 V,.int .i64 op,.int .i64 X]:Array Value).all (·.oneCell')=true:=(by rw[iI];rfl);clear HP HM HL HA HG bL bR bT cB bk;go_wp2_with (first | (refine(Q.out _).mono ?_;rintro e w3 ⟨rfl,ac⟩;have Z:=g2.trans ac;clear I J c2 K L M;obtain⟨I,J,c2,K,L,M⟩:=H6.out _ Z) | (refine(aC.out _).mono ?_;rintro e w4 ⟨rfl,a4⟩;have g4:=Z.trans a4;clear I J c2 K L M;obtain⟨I,J,c2,K,L,M⟩:=H6.out _ g4));refine(ca.out _ (F.trans g4)).mono ?_;rintro e w5 ⟨u5,rfl,bv,cR⟩;have g5:=g4.trans cR;have b0:=bv.see;have b1:=ad (cb.out u5 _ (F.trans g5) b0);obtain⟨p5,z5,rfl⟩:=bv.shape';clear I J c2 K L M Q aC ca cb bv;obtain⟨I,J,c2,K,L,M⟩:=H6.out _ g5;go_wp2_with fail;apply b1.z;rintro e w6 ⟨u6,B,ok,rfl,b2,b3,b4⟩;have g6:=g5.trans b4;have cc:=b0.fr b4
    cases ok with
    | false=>clear b1 bn Y b3;go_wp2;go_ret;exact⟨rfl,F.trans g6⟩
    | true=>have bb:=ad (λW (h:Fr w6 W)=>bn.out B u6 W (b3 rfl) ((F.trans g6).trans h) (b2.fr h));obtain⟨p6,z6,rfl,_⟩:=b2.shape;clear b1 bn b3 b0 b4 I J c2 K L M;go_wp2_with fail;refine((bb.out _ (Fr.refl _)).2.1).mono ?_;rintro e w7 ⟨u7,n7,rfl,b5,cf⟩;have ch:=b5.see;obtain⟨p7,z7,rfl⟩:=b5.shape';clear b5;go_wp2_with fail;refine((bb.out _ cf).1).mono ?_;rintro e z ⟨fk,k8,n8,rfl,b6,dc⟩;have cj:=b6.see;obtain⟨p8,z8,rfl⟩:=b6.shape';have ck:(z.alloc (.cells aY 23)).heap[z.heap.size]?=some (.cells aY 23 (0,0)):=aB _ _ _ rfl;have cl:=dl (z.alloc (.cells aY 23)) z.heap.size #[.int .i64 R,.bool m,.int .i64 U,.int .i64 V,.int .i64 op,.int .i64 X];have cm:Fr z ((z.alloc (.cells aY 23)).setRow z.heap.size #[.int .i64 R,.bool m,.int .i64 U,.int .i64 V,.int .i64 op,.int .i64 X]):=ai.below ((Fr.refl z).alloc _) cl ((Fr.refl z).alloc _).size (λk hk=>by have e:k=z.heap.size:=hk;omega);go_wp2_with (first | (refine fz rfl 23 (.tmp 14) (.tmp 69) rfl z.heap.size #[.int .i64 R,.bool m,.int .i64 U,.int .i64 V,.int .i64 op,.int .i64 X] rfl rfl 23 _ ck cG rfl cL ?_) | (go_at_call 13;fail));generalize (z.alloc (.cells aY 23)).setRow z.heap.size #[.int .i64 R,.bool m,.int .i64 U,.int .i64 V,.int .i64 op,.int .i64 X]=w9 at *;have cn:=dc.trans cm;have bc:=cf.trans cn;have cp:=ad (sk _ _ O O w9 (ch.fr cn) (cc.fr bc));rw[show decide (O=O)=true from bp rfl]at cp;have dj:=ad (Y.out _ w9 ((F.trans g6).trans bc) (cj.fr cm) cF.out);have ds:=ad (λW (h:Fr w9 W)=>(bb.out W (bc.trans h)).2.2);have dv:=(F.trans g6).trans bc;clear Y cc b2 ch cj b6 bb ck cl;apply cp.z;rintro e wa ⟨rfl,rfl⟩;go_wp2_with (first | (apply dj.z;rintro e wb ⟨rfl,cq⟩) | (refine(ds.out _ cq).mono ?_;rintro e wc ⟨rfl,d0⟩));go_ret;exact⟨rfl,dv.trans (cq.trans d0)⟩
