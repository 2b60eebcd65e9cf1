/- Parts of the proof of ArchPacks: We3 We4 We5. -/
import Derived.Test.YtdamnfpigajmoaaGreatDoorM20
import Derived.Test.YtdamnfpigajmoaaGreatDoorM21
set_option linter.unusedVariables false
set_option linter.unusedSectionVars false
set_option linter.unusedSimpArgs false
set_option maxHeartbeats 8000000
set_option maxRecDepth 100000
namespace Go.Fk
abbrev dJ:=@Go.AllReadyIn.cons
abbrev eF:=@Go.AllReadyIn.nil
abbrev ey:=@Go.wpAnyIn_ready
abbrev kJ:=@List.mem_of_mem_drop
abbrev pZ:=@Go.CallsIn.inRound
end Go.Fk
namespace Go.Proofs.YtdamnfpigajmoaaGreatDoor
open Go.RowKit Go.Fk
theorem AV (v : Value) (l : List (List UInt8)) (w : World) (D : af w eS v l) (m : mY l) :
    Calls Tryz.prog 182 #[v] w fun e w'=>e=.returned (.bool true)/\Fr w w':=by
  obtain⟨G,jh,U⟩:=m;have I:=ad (fun W (h:Fr w W) k m=>j8 (D.fr h) k m);have J:=ad jh;have K:Hid (∀ k (h:k+1<l.length),l[k]<l[k+1]):=fun k h=>pR.1 G k (k+1) (by omega) h (by omega);obtain⟨V,X,rfl,Y,Z,L⟩:=D.shape;clear G jh L;have aa:¬(1048576:Int)<l.length:=(by omega);go_enter Tryz.func182, Tryz.ntmps182;go_wp2_with fail;go_loopw [3] (fun q wr=>∃ k:Nat,k<=l.length/\q=N k/\Fr w wr) (fun q _=>l.length - (intOf q).toNat);case atStart=>exact⟨0,ap _,rfl,Fr.refl w⟩
  case round=>
    obtain⟨k,m,rfl,d⟩:=hrel;by_cases z:k<l.length
    · obtain⟨b,ab,M,A,O⟩:=I.out wr d k z;cases A;have ac:=J.out _ (aH z);have i1:(0:Int)<=k:=(by omega);have i2:(k:Int)<l.length:=(by omega);by_cases Q:k=0;· subst Q;rw [cX]at O;generalize l[0]=x at *;have R:¬(x.length:Int)<1:=(by omega);have T:¬(25:Int)<x.length:=(by omega);go_upto_region 6 with fail;go_quiet (fail);go_wp2_with fail;exact⟨⟨1,by omega,by go_num,d.drewN _⟩,by simp [intOf];omega⟩
      · obtain⟨j,rfl⟩:∃ j,k=j+1:=⟨k - 1,by omega⟩;obtain⟨b',a2,M,A,d0⟩:=I.out wr d j (by omega);cases A;have o:=K.out j z;have a4:=yS (fun h=>mM _ (List.lt_trans h o):¬l[j+1]<l[j]);have he:(l[j+1] == l[j])=false:=(by rw [lp];intro e;rw [e]at o;exact mM _ o);clear o;generalize l[j+1]=x at *;generalize l[j]=y at *;have R:¬(x.length:Int)<1:=(by omega);have T:¬(25:Int)<x.length:=(by omega);have n3:(0:Int)<((j+1:Nat):Int):=(by omega);have n4:IntKind.i64.wrap (((j+1:Nat):Int) - 1)=(j:Int):=(by rw [ar _ (by omega)];omega);have n5:(0:Int)<=j:=(by omega);have n6:(j:Int)<l.length:=(by omega);go_upto_region 6 with fail;go_quiet (fail);go_wp2_with fail;exact⟨⟨j+1+1,by omega,by go_num,d.drewN _⟩,by simp [intOf];omega⟩
    · obtain rfl:k=l.length:=(by omega);have bc:¬(l.length:Int)<l.length:=(by omega);go_wp2_with fail;go_ret;exact⟨rfl,d⟩
def gT(n:Nat)(l:List (List UInt8)):List UInt8:=(ao l.length++((cK l n).map fun c=>ao (aI c).length).flatten)++((cK l n).map aI).flatten
theorem ld{α:Type}(l:List α)(n:Nat):(cK l n).length=aC l.length n:=by simp [cK]
theorem Ae{α:Type}(l:List α)(n j:Nat)(h:j<(cK l n).length):(cK l n)[j]=(l.drop (j*n)).take n:=by simp [cK]
theorem mA(d n:Nat)(e:1<=n):aC d n*n<=d+n - 1:=by unfold aC;exact Nat.div_mul_le_self _ _
theorem rF{α:Type}{l:List α}{n:Nat}{c:List α}(h:c∈cK l n):c.length<=n/\∀ s∈c,s∈l:=by
 obtain⟨j,e,rfl⟩:=mK.1 h;rw [Ae];exact⟨by rw [aV];omega,fun s d=>kJ (eD d)⟩
theorem ui(l:List (List UInt8))(n j:Nat)(d:1<=n)(z:n<=64)(A:l.length<=10000)(h:∀ s∈l,s.length<=25):((((cK l n).take j).map fun c=>ao (aI c).length).flatten).length<=100630:=by
  rw [fU];refine aq (kk _ 10 _ fun c m=>?_) ?_;· have e:=rF (eD m);have o:=lg 25 (by omega) c (fun s q=>h s (e.2 s q));have y:c.length*(25+20)<=64*45:=b7 (by omega) (ag _);exact aG _ (by omega)
  · have e:=mA l.length n d;have o:((cK l n).take j).length<=aC l.length n:=(by rw [aV,ld];omega);have y:aC l.length n*1<=aC l.length n*n:=pM _ d;omega
theorem uE(l:List (List UInt8))(n j:Nat)(h:1<=n)(A:n<=64)(D:l.length<=10000)(m:∀ s∈l,s.length<=25):((((cK l n).take j).map aI).flatten).length<=452880:=by
  rw [fU];refine aq (kk _ (45*n) _ fun c o=>?_) ?_;· have d:=rF (eD o);have e:=lg 25 (by omega) c (fun s q=>m s (d.2 s q));have y:c.length*(25+20)<=n*45:=b7 d.1 (ag _);have z:45*n=n*45:=fK _ _;show(aI c).length<=_;omega
  · have d:=mA l.length n h;have e:((cK l n).take j).length<=aC l.length n:=(by rw [aV,ld];omega);have y:((cK l n).take j).length*(45*n)<=aC l.length n*(45*n):=cW _ e;have z:aC l.length n*(45*n)=45*(aC l.length n*n):=(by rw [lS]);omega
theorem Ju (n : Nat) (av : 1 ≤ n) (cn : n ≤ 64) (v : Value) (l : List (List UInt8)) (w : World) (V : af w eS v l) (hk : mY l) (hl : l.length ≤ 10000) :
    Calls Tryz.prog 123 #[N n,v] w fun e w'=>∃ u,e=.returned (.tuple #[u,.int .i64 0])/\Ow w' w.heap.size eB u (gT n l)/\Fr w w':=by
  have HM:=ad (AV v l w V hk);have HS:=ad (fun W (h:Fr w W) k hk=>j8 (V.fr h) k hk);have a2:∀ s∈l,s.length<=25:=fun s h=>(hk.2.1 s h).2;have HB:=ad a2;have cp:=ad (fun s (h:s.length<=1000000000) W=>AO s h W);have bm:=ad (fun n (h:n<18446744073709551616) W=>jI n h W);have fk:=ad (fun a b h W=>K3 a b h W);have cs:=ad (fun j=>ui l n j av cn hl a2);have ct:=ad (fun j=>uE l n j av cn hl a2);have c0:=ad (fun j h=>pe (fun c=>ao (aI c).length) (cK l n) j h);have c3:=ad (fun j h=>pe aI (cK l n) j h);have c4:=ad (nS l.length n av);have fl:=ad (mA l.length n av);have fm:=ad (Ae l n);have fn:=ad (ld l n);have HD:Hid (gT n l=(ao l.length++(((cK l n).take (aC l.length n)).map fun c=>ao (aI c).length).flatten)++(((cK l n).take (aC l.length n)).map aI).flatten):=(by show _=_;rw [eo (by rw [ld];omega)];rfl);generalize gT n l=T at *;generalize c6:cK l n=d at *;have h4:=ad c6;clear c6;generalize fr:aC l.length n=CN at *;clear fr;obtain⟨a0,h6,rfl,h7,h8,fs⟩:=V.shape;clear V hk a2 fs;have h9:=aG l.length (by omega);have fv:=ad (bm.out l.length (by omega));generalize ao l.length=nb at *;have j1:¬(n:Int)<1:=(by omega);have j2:¬(64:Int)<n:=(by omega);have hD:IntKind.u64.wrap (l.length:Int)=(l.length:Int):=aX _ (by omega);go_enter Tryz.func123, Tryz.ntmps123;go_wp2_with fail;refine HM.out.mono ?_;rintro e w1 ⟨rfl,c7⟩;go_wp2_with fail;refine(fv.out _).mono ?_;rintro e w2 ⟨v2,rfl,c8,f0⟩;have f1:=c7.trans f0;go_wp2_with fail;go_loopw [6,7,8] (fun hv bv iv wr=>∃ j:Nat,j<=CN/\iv=.int .i64 ((j*n:Nat):Int)/\Ow wr w.heap.size eB hv (nb++((d.take j).map fun c=>ao (aI c).length).flatten)/\Ow wr w.heap.size eB bv ((d.take j).map aI).flatten/\(bv.ownBlock=none\/bv.ownBlock≠hv.ownBlock)/\Fr w wr) (fun _ _ iv _=>l.length - (intOf iv).toNat);case atStart=>exact⟨0,ap _,by simp,by simpa using c8.rebase c7.size,by simpa using Ow.nil,.inl rfl,f1⟩
  case round=>
    clear c8;obtain⟨j,hj,rfl,A,Q,cA,I⟩:=hrel;have hK:=cs.out j;have hL:=ct.out j;by_cases cF:j<CN
    · have cG:=(c4.out j).1 cF;have b1:j<d.length:=(by rw [fn.out];exact cF);have f2:=ad (c0.out j b1);have f3:=ad (c3.out j b1);have hM:=cs.out (j+1);have hN:=ct.out (j+1);have HC:=ad (fm.out j b1);have f4:Hid ((j+1)*n=j*n+n):=(by show _=_;rw [cr,fJ]);generalize j*n=i at *;generalize ((d.take j).map fun c=>ao (aI c).length).flatten=hd at *;generalize da:((d.take (j+1)).map fun c=>ao (aI c).length).flatten=hP at *;have f5:=ad da;clear da;generalize ((d.take j).map aI).flatten=bd at *;generalize dd:((d.take (j+1)).map aI).flatten=hQ at *;have f6:=ad dd;clear dd;generalize d[j]=c at *;have di:c.length=min n (l.length - i):=(by rw [HC.out,aV,bN]);have b4:Hid (∀ m (h:m<c.length),∃ R:i+m<l.length,c[m]=l[i+m]):=fun m h=>(by refine⟨by omega,?_⟩;have:c=(l.drop i).take n:=HC.out;subst this;rw [rX,rY]);have dj:∀ s∈c,s.length<=25:=fun s h=>HB.out s (by rw [HC.out]at h;exact kJ (eD h));have dk:Hid (∀ k,(aI (c.take k)).length<=64*45):=fun k=>(by have h1:=lg 25 (by omega) (c.take k) (fun s V=>dj s (eD V));have R:(c.take k).length<=64:=(by rw [aV];omega);have X:(c.take k).length*(25+20)<=64*45:=b7 R (ag _);omega);have f7:=ad (fun k h1 R=>Au c k h1 R);have f9:Hid (aI (c.take c.length)=aI c):=(by show _=_;rw [cu]);have dr:Hid (∀ h:0<c.length,aI (c.take 1)=cZ c[0]):=fun h=>by
        cases c with
        | nil=>simp at h
        | cons x l=>simp [aI,jG]
      have Y:=ad di;clear dj di;obtain⟨b0,hS,hT,ga,hU⟩:=HS.out wr I i cG;cases ga;have hV:=HB.out _ (aH cG);have ds:=ad (cp.out l[i] (by omega) wr);have dv:Hid (aI (c.take 1)=cZ l[i]):=(by show _=_;obtain⟨R,X⟩:=b4.out 0 (by have:=Y.out;omega);rw [dr.out (by have:=Y.out;omega),X];rfl);generalize l[i]=x0 at *;have i1:(0:Int)<=i:=(by omega);have i2:(i:Int)<l.length:=(by omega);have i3:IntKind.i64.wrap ((i:Int)+n)=(i:Int)+n:=ar _ (by omega);obtain⟨J,K⟩:∃ J,J=nb++hd:=⟨_,rfl⟩;rw [<- K]at A;have gc:J.length<=100640:=(by rw [K,an];omega);have ge:=ad K;clear K;obtain⟨ha,hc,rfl⟩:=A.shape';obtain⟨ba,bc,rfl⟩:=Q.shape';go_wp2_with fail;refine ds.out.mono ?_;rintro e w3 ⟨v3,rfl,b5,d4⟩;rw [<- dv.out]at b5;clear dv ds dr;go_wp2_with fail;go_loopw [9,10] (fun bv kv wq=>∃ m k:Nat,1<=m/\m<=c.length/\Hid (k=i+m)/\kv=N k/\Ow wq wr.heap.size eB bv (aI (c.take m))/\Fr wr wq) (fun _ kv _=>l.length - (intOf kv).toNat);case atStart=>exact⟨1,i+1,ag _,by have:=Y.out;omega,rfl,by go_num,b5,d4⟩
      case round=>
        clear b5 d4;obtain⟨m,k,gs,ia,L,rfl,U,Z⟩:=hrel;have gv:=dk.out m;have ih:m<=n/\k<=l.length:=(by have:=Y.out;have:=L.out;omega);obtain⟨oa,oc,rfl⟩:=U.shape';by_cases d6:m<c.length
        · have bA:m<n/\k<l.length:=(by have:=Y.out;have:=L.out;omega);have k1:(k:Int)<(i:Int)+n:=(by have:=L.out;omega);have k2:(k:Int)<l.length:=(by omega);have k3:(0:Int)<=(k:Int):=(by omega);obtain⟨p,HP⟩:∃ p,Hid (p+1=k):=⟨k - 1,by show _=_;have:=L.out;omega⟩;have k4:IntKind.i64.wrap ((k:Int) - 1)=(p:Int):=(by rw [ar _ (by have:=HP.out;omega)];have:=HP.out;omega);have k5:(0:Int)<=(p:Int):=(by omega);have d7:p<l.length:=(by have:=HP.out;omega);have k6:(p:Int)<l.length:=(by omega);obtain⟨bx,i6,i7,g0,cx⟩:=HS.out _ (I.trans Z) p d7;cases g0;obtain⟨ji,jv,j0,g2,cy⟩:=HS.out _ (I.trans Z) k bA.2;cases g2;have j3:=HB.out _ (aH d7);have j4:=HB.out _ (aH bA.2);have HN:=ad (f7.out m gs d6);have e1:c[m - 1]=l[p]:=(by obtain⟨R,X⟩:=b4.out (m - 1) (by omega);rw [X];congr 1;have:=HP.out;have:=L.out;omega);have e2:c[m]=l[k]:=(by obtain⟨R,X⟩:=b4.out m d6;rw [X];congr 1;exact L.out.symm);rw [e1,e2]at HN;clear e1 e2;have kb:=dk.out (m+1);generalize aI (c.take m)=o at *;generalize ef:aI (c.take (m+1))=m2 at *;have g4:=ad ef;clear ef;generalize l[p]=x at *;generalize hy:l[k]=y at *;have HY:=ad hy;clear hy;have kc:=(qD x y).2;have g7:=ad (fk.out x y (by omega));generalize eg x y=q at *;have ke:(y.drop q).length<=25:=(by simp;omega);have ki:=xx y q;have kl:=iV (y.drop q) (by omega);have kn:=aG q (by omega);have g8:=ad (bm.out q (by omega));have g9:=ad (cp.out (y.drop q) (by omega));have kq:IntKind.u64.wrap (q:Int)=(q:Int):=aX _ (by omega);have k7:(0:Int)<=q:=(by omega);have k8:(q:Int)<=y.length:=(by omega);generalize y.drop q=z at *;go_upto_region 12 with fail;go_still_tail 9,(by kernel_rfl);change wpList _ _ _ _ _ wr.drew;have bB:=(Fr.refl wr).drew;generalize wr.drew=wd at *;go_wp2_with fail;refine(g7.out _).mono ?_;rintro e w4 ⟨rfl,M⟩;have aj:=U.fr (bB.trans M);have bR:=Z.trans (bB.trans M);have gA:=(bB.trans M).cell cy;go_wp2_with fail;refine(g8.out _).mono ?_;rintro e w5 ⟨v5,rfl,a7,D⟩;have ca:=aj.fr D;go_wp2_with (at_builtin;refine aN eB rfl (.tmp 64) (.tmp 67) 29 rfl Tryz.underlying29 _ rfl ca _ _ rfl a7.see (by omega) (bR.trans D).size ?_);intro v6 w6 O;have bf:=O.below ca (bR.trans D) (ag _) (bR.trans D).size;have gO:=O.own;obtain⟨bz,k0,k9,hb,cz⟩:=HS.out w6 (I.trans bf) k bA.2;rw [HY.out]at cz;cases hb;clear cx cy gA ca a7 O aj U;go_wp2_with fail;refine(g9.out _).mono ?_;rintro e w7 ⟨v7,rfl,e3,e4⟩;have cb:=gO.fr e4;have cc:=Fr.trans bf e4;go_wp2_with (at_builtin;refine aN eB rfl (.tmp 69) (.tmp 76) 29 rfl Tryz.underlying29 _ rfl cb _ _ rfl e3.see ?c1 cc.size ?_);case c1=>first | omega | (simp;omega)
          intro v8 w8 cf;have he:=cf.below cb cc (ag _) cc.size;have hg:=cf.own;clear cf cb e3 cz;have hi:Hid (m2=o++ao q++cZ z):=(by show _=_;rw [HN.out];simp);go_wp2_with fail;go_roundw;case rel=>exact⟨m+1,k+1,by omega,by omega,by show _=_;have:=L.out;omega,by go_num,by rw [g4.out,hi.out];simpa using hg,he⟩
          case measure=>simp [intOf];omega
        · have e5:Hid (m=c.length):=(by show _=_;omega);rw [e5.out,f9.out]at U gv ⊢;have bk:¬((k:Int)<(i:Int)+n/\(k:Int)<l.length):=(by have:=Y.out;have:=L.out;have:=e5.out;omega);have ch:(aI c).length<18446744073709551616:=(by omega);have hm:=ad (bm.out (aI c).length ch);have lr:=aG (aI c).length ch;have ls:IntKind.u64.wrap ((aI c).length:Int)=((aI c).length:Int):=aX _ (by omega);clear ch;have hn:=A.fr Z;have ho:=Q.fr Z;have hp:=I.trans Z;have lt:(Value.slice oa (aI c).length oc).ownBlock=none\/(Value.slice oa (aI c).length oc).ownBlock≠(Value.slice ba bd.length bc).ownBlock:=(by exact jH Q U (ag _));have hq:(Value.slice oa (aI c).length oc).ownBlock=none\/(Value.slice oa (aI c).length oc).ownBlock≠(Value.slice ha J.length hc).ownBlock:=(by have:=jH A U (ag _);simpa using this);clear A Q;generalize e6:aI c=bb at *;have lz:=ad e6;clear e6;go_upto_region 10 with fail;go_cut [51]from 41 to 51 (fun cv wx=>cv=.bool false/\wx=wr)
          case first=>
            by_cases q1:(k:Int)<(i:Int)+n;· have q2:¬(k:Int)<l.length:=fun h=>bk ⟨q1,h⟩;clear bk;go_wp2_with fail;go_meet;exact⟨rfl,rfl⟩
            · clear bk;go_wp2_with fail;go_meet;exact⟨rfl,rfl⟩
          case rest=>
            obtain⟨rfl,rfl⟩:=hcut;clear bk;go_wp2_with fail;refine(hm.out _).mono ?_;rintro e w4 ⟨v4,rfl,aj,M⟩;have cj:=hn.fr M;have cl:=ho.fr M;have e7:=U.fr M;have cm:=hp.trans M;go_wp2_with (at_builtin;refine aN eB rfl (.tmp 78) (.tmp 82) 29 rfl Tryz.underlying29 _ rfl cj _ _ rfl aj.see ?c1 cm.size ?_);case c1=>first | omega | (simp;omega)
            intro v5 w5 G;have D:=G.below cj cm (ag _) cm.size;have aa:=G.own;have e9:=G.other cl (by simpa using cA);have a7:=G.other e7 (by simpa using hq);have fa:=G.apart cl (by simpa using cA);obtain⟨hw,hx,rfl⟩:=aa.shape';clear G aj cj cl e7;go_wp2_with (at_builtin;refine aN eB rfl (.tmp 84) (.tmp 85) 29 rfl Tryz.underlying29 _ rfl e9 _ _ rfl a7.see ?c1 D.size ?_);case c1=>first | omega | (simp;omega)
            intro v6 w6 O;have bf:=O.below e9 D (ag _) D.size;have fb:=O.own;have hz:=O.other aa (il fa);have h0:=O.apart aa (il fa);obtain⟨l2,l3,rfl⟩:=fb.shape';go_wp2_with fail;go_roundw;case rel=>exact⟨j+1,by omega,by rw [f4.out];go_num,by rw [f5.out,f2.out,<- eE,<- ge.out];simpa using hz,by rw [f6.out,f3.out];simpa using fb,by simpa using il h0,bf⟩
            case measure=>simp [intOf];omega
    · obtain rfl:j=CN:=(by omega);have l4:¬j*n<l.length:=fun h=>(by have:=(c4.out j).2 h;omega);have l5:=fl.out;have fc:=ad HD.out;clear HD c0 c3;generalize ((d.take j).map fun c=>ao (aI c).length).flatten=hd at *;generalize ((d.take j).map aI).flatten=bd at *;obtain⟨J,K⟩:∃ J,J=nb++hd:=⟨_,rfl⟩;rw [<- K]at A fc;have gc:J.length<=100640:=(by rw [K,an];omega);clear K;generalize j*n=i at *;have i2:¬(i:Int)<l.length:=(by omega);obtain⟨ha,hc,rfl⟩:=A.shape';obtain⟨ba,bc,rfl⟩:=Q.shape';go_wp2_with (at_builtin;refine aN eB rfl (.tmp 87) (.tmp 88) 29 rfl Tryz.underlying29 _ rfl A _ _ rfl Q.see ?c1 I.size ?_);case c1=>first | omega | (simp;omega)
      intro v5 w5 G;have D:=G.below A I (ag _) I.size;have aa:=G.own;obtain⟨hw,hx,rfl⟩:=aa.shape';clear G A Q;go_wp2_with fail;go_ret2;exact⟨_,by rfl,by rw [fc.out];simpa using aa,D⟩
attribute [local go_sem] Oper.semAt_some
section
variable {P:Program} {α:Type} {w:World} {base:Nat} {v:Value} {l:List α} {F:Fence} {nF:Nat}
theorem oC(E:al P α){d:Array Oper}{o:Oper}{a:Act}{K:Act->World->Prop}{Q:Exit->Act->World->Prop}{X:Prop}(e:o.guard=none)(s x:Operand)(t:TypeId)
  (ho:o.op=.call { callee:=.builtin .append,args:=#[s,x],argTypes:=#[t,t] }) (ht:P.underlying t=some (.slice E.e))
  (base:Nat) (hs:a.eval s=v) (hown:Ow w base E v l) (y:Value) (m:List α) (hx:a.eval x=y) (hsee:af w E y m) (hn:l.length+m.length<=2147483648) (hbase:base<=w.heap.size)
  (h:∀ v' w',cQ base E (l++m) w v v' w'->K (a.put o.dst v') w'):if Region.wanted o (yielded d a.tmps)=true then Oper.wpIn F nF P o a w K Q else X:=by
 have q:Region.wanted o (yielded d a.tmps)=true:=by simp [Region.wanted,e]
 rw [ai q];obtain⟨v',w',z,A⟩:=qF (P:=P) E w base t o.type ht hown hsee hn hbase;unfold Oper.wpIn;refine⟨?_,?_⟩;· simp [Oper.about,ho,resolve,Target.leads,Sem.run_pure]
 · rw [Oper.semAt_plain F _ _ (by rw [ho];intro c D;cases D)];simp [execOp,ho,resolve,invoke,builtin,hs,hx,z,Result.andThen];exact h v' w' A
end
abbrev GR : Array Oper := #[{ dst := some 31, op := Op.load 29 (Operand.tmp 6), type := 29, pos := "dict.go:70", after := #[], guard := none },
 { dst := some 32, op := Op.move (Operand.tmp 9), type := 29, pos := "dict.go:70", after := #[], guard := none },
 { dst := some 33, op := Op.call { callee := Callee.builtin Builtin.len, args := #[Operand.tmp 32], argTypes := #[29] }, type := 3, pos := "dict.go:70", after := #[{ on := 1, ground := Ground.data }], guard := none },
 { dst := some 34, op := Op.convert 3 35 (Operand.tmp 33), type := 35, pos := "dict.go:70", after := #[{ on := 2, ground := Ground.data }], guard := none },
 { dst := some 35, op := Op.call { callee := Callee.value (Operand.func 31), args := #[Operand.tmp 34], argTypes := #[35] }, type := 29, pos := "dict.go:70", after := #[{ on := 3, ground := Ground.data }], guard := none },
 { dst := some 36, op := Op.call { callee := Callee.builtin Builtin.append, args := #[Operand.tmp 31, Operand.tmp 35], argTypes := #[29, 29] }, type := 29, pos := "dict.go:70", after := #[{ on := 0, ground := Ground.data }, { on := 4, ground := Ground.data }, { on := 4, ground := Ground.chain }], guard := none },
 { dst := none, op := Op.store 29 (Operand.tmp 6) (Operand.tmp 36), type := 0, pos := "dict.go:70", after := #[{ on := 5, ground := Ground.data }, { on := 5, ground := Ground.chain }, { on := 0, ground := Ground.phase }, { on := 1, ground := Ground.phase }, { on := 2, ground := Ground.phase }, { on := 3, ground := Ground.phase }, { on := 4, ground := Ground.phase }, { on := 5, ground := Ground.phase }], guard := none }]
abbrev uo(n d m:Nat)(e:Option Addr)(h:Nat)(o:Option Addr)(q H:Nat)(y z A D G I J K L M O Q R T:Value):Act:=
 { tmps:=#[N n,.slice e d h,undef,undef,.slice none 0 0,.int .i64 0,.pointer (some ⟨H,0,none⟩),.pointer (some ⟨H+1,0,none⟩),z,A,N n,.bool false,.bool false,N n,.bool false,.bool false,.bool false,.slice e d h,.bool true,.bool false,.bool false,.slice e d h,.int .i64 (d:Int),.int .u64 (d:Int),.slice o m q,.slice e d h,N n,.func (.func 221) #[] #[.pointer (some ⟨H+1+1,0,none⟩),.pointer (some ⟨H+1+1+1,0,none⟩)],y,D,G,I,J,K,L,M,O,Q,R,T,undef,undef,undef,undef],defers:=[] }
theorem nM{W z q:World}{H B d m:Nat}{o:Option Addr}{y:Value}{J L:List UInt8}(Q:Ow W B eB y J)(A:Fr W z)(D:q.heap[H]? = some (.cells #[y] 29 (0,0)))(G:Ow q B eB (.slice o d m) L)
  (hC:ak (fun k=>y.ownBlock=some k) z q) (hF:∀ b,(Value.slice o d m).ownBlock=some b->y.ownBlock=some b\/z.heap.size<=b) :
  (q.setCell ⟨H,0,none⟩ (.slice o d m)).heap[H]? = some (.cells #[.slice o d m] 29 (0,0))/\Ow (q.setCell ⟨H,0,none⟩ (.slice o d m)) B eB (.slice o d m) L /\
   ak (fun k=>k=H\/y.ownBlock=some k) W (q.setCell ⟨H,0,none⟩ (.slice o d m))/\(∀ b,(Value.slice o d m).ownBlock=some b->y.ownBlock=some b\/W.heap.size<=b):=by
 have I:=aw q ⟨H,0,none⟩ (.slice o d m);have K:=G.ne_cells D (by decide);refine⟨by have:=aB D 0 (.slice o d m);simpa using this,G.chg I (fun k M e=>K (by rw [M,e])),?_,fun b O=>(hF b O).imp id (fun h=>aq A.size h)⟩;exact((A.chg (fun k=>k=H\/y.ownBlock=some k)).trans (hC.mono (fun k _ e=>.inr e)) (fun _ _ h=>h)).trans I (fun _ _ h=>.inl h)
theorem GQ(X m:Nat)(n bf bk:Nat)(a0:Option Addr)(bt:Nat)(va:Option Addr)(vc H B:Nat)(xv t8 b0 b1:Value)(ba:Option Addr)(G bc:Nat)(hv:Value)(hd:List UInt8)(W:World)(Q:Exit->Act->World->Prop)
  (hH:W.heap[H]? = some (.cells #[hv] 29 (0,0))) (hO:Ow W B eB hv hd) (hBW:B<=W.heap.size) (hbn:G<=1000000) (hdl:hd.length<=1000000)
  (hQ : ∀ w' bd b2 b3 b4, w'.heap[H]? = some (.cells #[bd] 29 (0, 0)) → Ow w' B eB bd (hd ++ ao G) → ak (fun k => k = H ∨ hv.ownBlock = some k) W w' → (∀ b, bd.ownBlock = some b → hv.ownBlock = some b ∨ W.heap.size ≤ b) →
   Q .normal (uo n bf bk a0 bt va vc H xv t8 (.slice ba G bc) b0 b1 b2 (.slice ba G bc) (N G) (.int .u64 (G : Int)) b3 b4 undef undef undef) w') :
  (Code.region 8 GR true).wpIn (Fence.wide.inRound X) m Tryz.prog Q (uo n bf bk a0 bt va vc H xv t8 (.slice ba G bc) b0 b1 undef undef undef undef undef undef undef undef undef) W:=by
 have Y:=ad (jK G (by omega))
 have b5:=aG G (by omega)
 generalize ao G=nb at *
 have bA:IntKind.u64.wrap (G:Int)=(G:Int):=aX _ (by omega)
 obtain⟨ha,hc,rfl⟩:=hO.shape'
 have Z:=ae hH 0 rfl
 have I:=ad hH
 have A:=ad hO
 have HQ:=ad hQ
 clear hH hO hQ
 refine wpIn_region_any (by kernel_rfl) ?_
 change wpAnyIn _ _ _ _ _ _ _ _ _ (World.drew _)
 have q:Fr W W.drew:=(Fr.refl W).drew
 refine ey (rs:=[0,1]) (by kernel_rfl) (by simp) ?_
 refine dJ rfl (fun K d=>?_) ?_
 · skip
   go_simp
   refine d _ _ ?_
   clear d K
   refine ey (rs:=[1]) (by kernel_rfl) (by simp) ?_
   refine dJ rfl (fun K d=>?_) eF
   go_simp
   refine d _ _ ?_
   clear d K
   refine ey (rs:=[2]) (by kernel_rfl) (by simp) ?_
   refine dJ rfl (fun K d=>?_) eF
   go_simp
   refine d _ _ ?_
   clear d K
   refine ey (rs:=[3]) (by kernel_rfl) (by simp) ?_
   refine dJ rfl (fun K d=>?_) eF
   go_simp
   refine d _ _ ?_
   clear d K
   refine ey (rs:=[4]) (by kernel_rfl) (by simp) ?_
   refine dJ rfl (fun K d=>?_) eF
   go_simp
   refine⟨trivial,by simp [Fence.wide],(pZ X (jr.2 (Y.out _))).mono ?_⟩
   rintro e w5 ⟨v5,rfl,J,h⟩
   have c5:=(q.trans h).cell Z
   refine d _ _ ?_
   clear d K
   refine ey (rs:=[5]) (by kernel_rfl) (by simp) ?_
   refine dJ rfl (fun K d=>?_) eF
   refine oC eB rfl (.tmp 31) (.tmp 35) 29 rfl Tryz.underlying29 B rfl (A.out.fr (q.trans h)) _ _ rfl J.see (by omega) (by have:=(q.trans h).size;omega) ?_
   intro v6 L o
   have y:=o.chg'.heap ((q.trans h).heap I.out) (A.out.ne_cells I.out (by decide))
   have z:=o.own
   have M:=o.chg'
   have D:=o.fresh
   obtain⟨a2,a3,rfl⟩:=z.shape'
   simp only [an]at z D
   have e6:=ae y 0 rfl
   have f6:L.frozen? ⟨H,0,none⟩=false:=az y 0
   have O:=ad y
   clear y
   refine d _ _ ?_
   clear d K o
   refine ey (rs:=[6]) (by kernel_rfl) (by simp) ?_
   refine dJ rfl (fun K d=>?_) eF
   go_simp
   refine d _ _ ?_
   clear d K
   refine wpAnyIn_done (by kernel_rfl) ?_ _
   obtain⟨R,T,U,V⟩:=nM A.out (q.trans h) O.out z M D
   exact HQ.out _ _ _ _ _ R T U V
 refine dJ rfl (fun K d=>?_) eF
 go_simp
 refine d _ _ ?_
 clear d K
 refine ey (rs:=[0,2]) (by kernel_rfl) (by simp) ?_
 refine dJ rfl (fun K d=>?_) ?_
 · skip
   go_simp
   refine d _ _ ?_
   clear d K
   refine ey (rs:=[2]) (by kernel_rfl) (by simp) ?_
   refine dJ rfl (fun K d=>?_) eF
   go_simp
   refine d _ _ ?_
   clear d K
   refine ey (rs:=[3]) (by kernel_rfl) (by simp) ?_
   refine dJ rfl (fun K d=>?_) eF
   go_simp
   refine d _ _ ?_
   clear d K
   refine ey (rs:=[4]) (by kernel_rfl) (by simp) ?_
   refine dJ rfl (fun K d=>?_) eF
   go_simp
   refine⟨trivial,by simp [Fence.wide],(pZ X (jr.2 (Y.out _))).mono ?_⟩
   rintro e w5 ⟨v5,rfl,J,h⟩
   have c5:=(q.trans h).cell Z
   refine d _ _ ?_
   clear d K
   refine ey (rs:=[5]) (by kernel_rfl) (by simp) ?_
   refine dJ rfl (fun K d=>?_) eF
   refine oC eB rfl (.tmp 31) (.tmp 35) 29 rfl Tryz.underlying29 B rfl (A.out.fr (q.trans h)) _ _ rfl J.see (by omega) (by have:=(q.trans h).size;omega) ?_
   intro v6 L o
   have y:=o.chg'.heap ((q.trans h).heap I.out) (A.out.ne_cells I.out (by decide))
   have z:=o.own
   have M:=o.chg'
   have D:=o.fresh
   obtain⟨a2,a3,rfl⟩:=z.shape'
   simp only [an]at z D
   have e6:=ae y 0 rfl
   have f6:L.frozen? ⟨H,0,none⟩=false:=az y 0
   have O:=ad y
   clear y
   refine d _ _ ?_
   clear d K o
   refine ey (rs:=[6]) (by kernel_rfl) (by simp) ?_
   refine dJ rfl (fun K d=>?_) eF
   go_simp
   refine d _ _ ?_
   clear d K
   refine wpAnyIn_done (by kernel_rfl) ?_ _
   obtain⟨R,T,U,V⟩:=nM A.out (q.trans h) O.out z M D
   exact HQ.out _ _ _ _ _ R T U V
 refine dJ rfl (fun K d=>?_) eF
 go_simp
 refine d _ _ ?_
 clear d K
 refine ey (rs:=[0,3]) (by kernel_rfl) (by simp) ?_
 refine dJ rfl (fun K d=>?_) ?_
 · skip
   go_simp
   refine d _ _ ?_
   clear d K
   refine ey (rs:=[3]) (by kernel_rfl) (by simp) ?_
   refine dJ rfl (fun K d=>?_) eF
   go_simp
   refine d _ _ ?_
   clear d K
   refine ey (rs:=[4]) (by kernel_rfl) (by simp) ?_
   refine dJ rfl (fun K d=>?_) eF
   go_simp
   refine⟨trivial,by simp [Fence.wide],(pZ X (jr.2 (Y.out _))).mono ?_⟩
   rintro e w5 ⟨v5,rfl,J,h⟩
   have c5:=(q.trans h).cell Z
   refine d _ _ ?_
   clear d K
   refine ey (rs:=[5]) (by kernel_rfl) (by simp) ?_
   refine dJ rfl (fun K d=>?_) eF
   refine oC eB rfl (.tmp 31) (.tmp 35) 29 rfl Tryz.underlying29 B rfl (A.out.fr (q.trans h)) _ _ rfl J.see (by omega) (by have:=(q.trans h).size;omega) ?_
   intro v6 L o
   have y:=o.chg'.heap ((q.trans h).heap I.out) (A.out.ne_cells I.out (by decide))
   have z:=o.own
   have M:=o.chg'
   have D:=o.fresh
   obtain⟨a2,a3,rfl⟩:=z.shape'
   simp only [an]at z D
   have e6:=ae y 0 rfl
   have f6:L.frozen? ⟨H,0,none⟩=false:=az y 0
   have O:=ad y
   clear y
   refine d _ _ ?_
   clear d K o
   refine ey (rs:=[6]) (by kernel_rfl) (by simp) ?_
   refine dJ rfl (fun K d=>?_) eF
   go_simp
   refine d _ _ ?_
   clear d K
   refine wpAnyIn_done (by kernel_rfl) ?_ _
   obtain⟨R,T,U,V⟩:=nM A.out (q.trans h) O.out z M D
   exact HQ.out _ _ _ _ _ R T U V
 refine dJ rfl (fun K d=>?_) eF
 go_simp
 refine d _ _ ?_
 clear d K
 refine ey (rs:=[0,4]) (by kernel_rfl) (by simp) ?_
 refine dJ rfl (fun K d=>?_) ?_
 · skip
   go_simp
   refine d _ _ ?_
   clear d K
   refine ey (rs:=[4]) (by kernel_rfl) (by simp) ?_
   refine dJ rfl (fun K d=>?_) eF
   go_simp
   refine⟨trivial,by simp [Fence.wide],(pZ X (jr.2 (Y.out _))).mono ?_⟩
   rintro e w5 ⟨v5,rfl,J,h⟩
   have c5:=(q.trans h).cell Z
   refine d _ _ ?_
   clear d K
   refine ey (rs:=[5]) (by kernel_rfl) (by simp) ?_
   refine dJ rfl (fun K d=>?_) eF
   refine oC eB rfl (.tmp 31) (.tmp 35) 29 rfl Tryz.underlying29 B rfl (A.out.fr (q.trans h)) _ _ rfl J.see (by omega) (by have:=(q.trans h).size;omega) ?_
   intro v6 L o
   have y:=o.chg'.heap ((q.trans h).heap I.out) (A.out.ne_cells I.out (by decide))
   have z:=o.own
   have M:=o.chg'
   have D:=o.fresh
   obtain⟨a2,a3,rfl⟩:=z.shape'
   simp only [an]at z D
   have e6:=ae y 0 rfl
   have f6:L.frozen? ⟨H,0,none⟩=false:=az y 0
   have O:=ad y
   clear y
   refine d _ _ ?_
   clear d K o
   refine ey (rs:=[6]) (by kernel_rfl) (by simp) ?_
   refine dJ rfl (fun K d=>?_) eF
   go_simp
   refine d _ _ ?_
   clear d K
   refine wpAnyIn_done (by kernel_rfl) ?_ _
   obtain⟨R,T,U,V⟩:=nM A.out (q.trans h) O.out z M D
   exact HQ.out _ _ _ _ _ R T U V
 refine dJ rfl (fun K d=>?_) eF
 go_simp
 refine⟨trivial,by simp [Fence.wide],(pZ X (jr.2 (Y.out _))).mono ?_⟩
 rintro e w5 ⟨v5,rfl,J,h⟩
 have c5:=(q.trans h).cell Z
 refine d _ _ ?_
 clear d K
 refine ey (rs:=[0]) (by kernel_rfl) (by simp) ?_
 refine dJ rfl (fun K d=>?_) eF
 go_simp
 refine d _ _ ?_
 clear d K
 refine ey (rs:=[5]) (by kernel_rfl) (by simp) ?_
 refine dJ rfl (fun K d=>?_) eF
 refine oC eB rfl (.tmp 31) (.tmp 35) 29 rfl Tryz.underlying29 B rfl (A.out.fr (q.trans h)) _ _ rfl J.see (by omega) (by have:=(q.trans h).size;omega) ?_
 intro v6 L o
 have y:=o.chg'.heap ((q.trans h).heap I.out) (A.out.ne_cells I.out (by decide))
 have z:=o.own
 have M:=o.chg'
 have D:=o.fresh
 obtain⟨a2,a3,rfl⟩:=z.shape'
 simp only [an]at z D
 have e6:=ae y 0 rfl
 have f6:L.frozen? ⟨H,0,none⟩=false:=az y 0
 have O:=ad y
 clear y
 refine d _ _ ?_
 clear d K o
 refine ey (rs:=[6]) (by kernel_rfl) (by simp) ?_
 refine dJ rfl (fun K d=>?_) eF
 go_simp
 refine d _ _ ?_
 clear d K
 refine wpAnyIn_done (by kernel_rfl) ?_ _
 obtain⟨R,T,U,V⟩:=nM A.out (q.trans h) O.out z M D
 exact HQ.out _ _ _ _ _ R T U V
attribute [local go_sem] Oper.semAt_some
theorem Hx{w:World}{v:Value}{l:List (List UInt8)}{b m n:Nat}(q:1<=n)(h:af w eS v l)(y:l=[]\/∃ o,v=.slice (some ⟨b,m,none⟩) l.length o)(j:Nat)(z:j<aC l.length n) :
  af w eS (iJ b m l.length n j).v ((l.drop (j*n)).take n):=by
 have A:=(nS l.length n q j).1 z;rcases y with rfl | ⟨o,rfl⟩;· simp at A
 · obtain⟨_,_,D,I,J,_⟩:=h.shape;cases D;have d:=xK h (j*n) (min n (l.length - j*n)) (min n (l.length - j*n)) (by omega) (ag _) (by omega);rw [show(eS:al Tryz.prog (List UInt8)).k=1 from rfl,gY]at d;have G:(l.drop (j*n)).take (min n (l.length - j*n))=(l.drop (j*n)).take n:=by
    rcases Nat.le_total n (l.length - j*n)with e | e;· rw [gr e]
    · rw [pO e,eo (by simp),eo (by simp;omega)]
   rw [G]at d;exact d
def rS{α:Type}(m:World)(H B n:Nat)(o:Value)(q:List UInt8)(y z:α->List UInt8)(h:List α)(W:World):Prop:=
 ∃ e d,W.heap[H]? = some (.cells #[e] 29 (0,0))/\W.heap[H+1]? = some (.cells #[d] 29 (0,0))/\W.heap[H+1+1]? = some (.cells #[o] 98 (0,0))/\W.heap[H+1+1+1]? = some (.cells #[N n] 3 (0,0)) /\
  Ow W B eB e (q++(h.map y).flatten)/\Ow W B eB d (h.map z).flatten/\(d.ownBlock=none\/d.ownBlock≠e.ownBlock)/\Fr m W
theorem rS.own{α:Type}(z:World)(H B n D:Nat)(I:Value)(J:List UInt8)(K L:α->List UInt8)(hD:z.heap.size<=D):OwnFrom D (rS z H B n I J K L):=by
 rintro s W M aj ⟨O,Q,R,T,U,V,X,Y,Z,h8⟩ d h;have m:∀ {q:Nat} {o:Obj},W.heap[q]? = some o->o.isCells=true->M.heap[q]? = some o:=fun {q o} y ho=>by
  rw [d.block q (aR.1 y).1 (fun e => by
   obtain ⟨_, o', A, G⟩ := h q e.symm
   rw [y] at A; cases A; rw [ho] at G; cases G)]
  exact y
 refine⟨O,Q,m R rfl,m T rfl,m U rfl,m V rfl,oK X d (fun r e=>(h r e).2),oK Y d (fun r e=>(h r e).2),Z,?_⟩;exact h8.own d (fun k e=>by have:=(h k e).1;omega)
theorem E3(l:List (List UInt8))(n:Nat)(d:1<=n)(q:n<=64)(y:l.length<=10000)(h:∀ s∈l,s.length<=25)(e:List (Fin (aC l.length n)))(z:e.length<aC l.length n) :
  ((e.map fun j:Fin (aC l.length n)=>ao (aI ((l.drop (j.val*n)).take n)).length).flatten).length<=100630:=by
 rw [fU];refine aq (kk _ 10 _ fun j _=>?_) ?_;· have A:=lg 25 (by omega) ((l.drop (j.val*n)).take n) (fun s m=>h s (kJ (eD m)));have o:((l.drop (j.val*n)).take n).length*(25+20)<=64*45:=b7 (by rw [aV];omega) (ag _);exact aG _ (by omega)
 · have D:=mA l.length n d;have o:aC l.length n*1<=aC l.length n*n:=pM _ d;omega
theorem E4(l:List (List UInt8))(n:Nat)(e:1<=n)(y:n<=64)(z:l.length<=10000)(h:∀ s∈l,s.length<=25)(d:List (Fin (aC l.length n)))(A:d.length<aC l.length n) :
  ((d.map fun j:Fin (aC l.length n)=>aI ((l.drop (j.val*n)).take n)).flatten).length<=452880:=by
 rw [fU];refine aq (kk _ (45*n) _ fun j _=>?_) ?_;· have D:=lg 25 (by omega) ((l.drop (j.val*n)).take n) (fun s m=>h s (kJ (eD m)));have o:((l.drop (j.val*n)).take n).length*(25+20)<=n*45:=b7 (by rw [aV];omega) (ag _);have q:45*n=n*45:=fK _ _;show(aI _).length<=_;omega
 · have G:=mA l.length n e;have o:d.length*(45*n)<=aC l.length n*(45*n):=cW _ (by omega);have q:aC l.length n*(45*n)=45*(aC l.length n*n):=(by rw [lS]);omega
theorem ro{β:Type}(M:Nat)(f:Nat->β):(List.finRange M).map (fun j:Fin M=>f j.val)=(List.range M).map f:=by
 apply kL;· simp
 · intro i d e;simp
theorem Lp (n : Nat) (Q : 1 ≤ n) (bt : n ≤ 64) (v : Value) (l : List (List UInt8)) (w : World) (hs : af w eS v l) (G : mY l) (hl : l.length ≤ 10000) :
    Calls Tryz.prog 104 #[N n,v] w fun e w'=>∃ u,e=.returned (.tuple #[u,.int .i64 0])/\Ow w' w.heap.size eB u (gT n l)/\Fr w w':=by
  obtain⟨J,L,rfl,he,hf,fk⟩:=hs.shape;have HS:=ad hs;have bx:∀ s∈l,s.length<=25:=fun s h=>(G.2.1 s h).2;have HM:=ad (GU _ l w hs G);have fm:=ad (jK l.length (by omega));have hg:=aG l.length (by omega);have c7:=ad (fun j=>ui l n j Q bt hl bx);have c8:=ad (fun j=>uE l n j Q bt hl bx);have HB:=ad bx;have HD:Hid (gT n l=(ao l.length++((cK l n).map fun c=>ao (aI c).length).flatten)++((cK l n).map aI).flatten):=rfl;clear hs fk bx;generalize gT n l=T at *;generalize ao l.length=q at *;have j1:¬(n:Int)<1:=(by omega);have j2:¬(64:Int)<n:=(by omega);have hn:IntKind.u64.wrap (l.length:Int)=(l.length:Int):=aX _ (by omega);have fr:=ad (fun W=>Hz J l.length L n Q W);refine(jr (n:=9)).1 ?_;refine callsIn_of_wp_marks Tryz.func104 rfl trivial ?_ rfl;simp only [Tryz.ntmps104,oj,bg,fz,Nat.reduceAdd,Nat.reduceSub,qd,qb,pQ,pW,gI,lY];have hp:Fence.wide.fn 152:=trivial;have hq:Fence.wide.fn 31:=trivial;have hr:Fence.wide.fn 153:=trivial
  gi_wp2_with (first
    | (gi_at_call 152; refine (jr.2 HM.out).mono ?_; rintro e w1 ⟨rfl, rfl⟩)
    | (gi_at_call 31; refine (jr.2 (fm.out _)).mono ?_; rintro e d ⟨v2, rfl, cc, cf⟩; obtain ⟨R, U, fs⟩ := cc.shape'; subst fs)
    | (gi_at_call 153; refine (jr.2 (fr.out _)).mono ?_; rintro e w3 ⟨rfl, rfl⟩))
  have ch:(d.alloc (.cells #[.slice R q.length U] 29)).heap.size=d.heap.size+1:=dp _ _;have cj:((d.alloc (.cells #[.slice R q.length U] 29)).alloc (.cells #[.slice none 0 0] 29)).heap.size=d.heap.size+1+1:=(by rw [dp,ch]);have c9:(((d.alloc (.cells #[.slice R q.length U] 29)).alloc (.cells #[.slice none 0 0] 29)).alloc (.cells #[.slice J l.length L] 98)).heap.size=d.heap.size+1+1+1:=(by rw [dp,cj]);have cl:Fr d (d.alloc (.cells #[.slice R q.length U] 29)):=(Fr.refl d).alloc _;have g0:=au d (.cells #[.slice R q.length U] 29) d.heap.size rfl;generalize d.alloc (.cells #[.slice R q.length U] 29)=A1 at *;have bz:Fr A1 (A1.alloc (.cells #[.slice none 0 0] 29)):=(Fr.refl A1).alloc _;have g1:=au A1 (.cells #[.slice none 0 0] 29) (d.heap.size+1) ch.symm;generalize A1.alloc (.cells #[.slice none 0 0] 29)=A2 at *;have a6:Fr A2 (A2.alloc (.cells #[.slice J l.length L] 98)):=(Fr.refl A2).alloc _;have g2:=au A2 (.cells #[.slice J l.length L] 98) (d.heap.size+1+1) cj.symm;generalize A2.alloc (.cells #[.slice J l.length L] 98)=A3 at *;have ac:Fr A3 (A3.alloc (.cells #[N n] 3)):=(Fr.refl A3).alloc _;have g3:=au A3 (.cells #[N n] 3) (d.heap.size+1+1+1) c9.symm;generalize A3.alloc (.cells #[N n] 3)=A4 at *;have b1:Fr w A4:=cf.trans (cl.trans (bz.trans (a6.trans ac)));have k0:=ac.heap (a6.heap (bz.heap g0));have k1:=ac.heap (a6.heap g1);have k2:=ac.heap g2;have dd:=cc.fr (cl.trans (bz.trans (a6.trans ac)));have hz:d.heap.size+1+1+1<A4.heap.size:=(aR.1 g3).1;have fv:w.heap.size<=d.heap.size:=cf.size;generalize d.heap.size=H at *;obtain⟨cb,dj,dk,f0⟩:=Hy (H+1+1) (H+1+1+1) (.slice J l.length L) l n Q (by omega) (by omega) A4 k2 g3 (HS.out.fr b1);have HX:=ad (fun W (h:Fr w W) j hj=>Hx Q (HS.out.fr h) dk j hj)
  have h0:rS w H w.heap.size n (.slice J l.length L) q (fun j:Fin (aC l.length n)=>ao (aI ((l.drop (j.val*n)).take n)).length) (fun j:Fin (aC l.length n)=>aI ((l.drop (j.val*n)).take n)) [] A4:=
    ⟨_,_,k0,k1,k2,g3,by simpa using dd,by simpa using Ow.nil,.inl rfl,b1⟩
  have h9:w.heap.size<=H:=fv;clear ch cj c9 cl bz a6 ac g0 g1 g2 g3 k0 k1 k2 cc dd cf dk
  refine wpIn_rangeFunc_ownF rfl (by omega) (gf:=221) (lb:=#[.pointer (some ⟨H+1+1,0,none⟩),.pointer (some ⟨H+1+1+1,0,none⟩)]) rfl trivial (enters_of Tryz.func221 (by kernel_rfl) rfl) (f0 _ (by omega)) (fun h k=>dw.trans h k) (dw.put (by omega) (by omega)) (Below.refl _ A4) (fun _=>rfl)
    _ (fun _ _ _=>False) (rS.own w H w.heap.size n A4.heap.size _ q _ _ b1.size) (fun _ _ _ _ _ hs _ _=>hs) h0 (fun x=>uo n l.length q.length J L R U H (iJ cb dj l.length n x.val).v (iJ cb dj l.length n x.val).v undef undef undef undef undef undef undef undef undef undef undef undef) ?assign ?body ?done ?stop
  case assign=>intro l x W K hK;gi_wp2;exact hK
  case body=>
    rintro lr Y x W ⟨hv,bv,M,h2,Z,h4,y,O,m,h8⟩ ds;have cn:=HX.out W h8 x.val x.isLt;have hA:x.val*n<l.length:=(nS l.length n Q x.val).1 x.isLt;have hB:((Y.map fun j:Fin (aC l.length n)=>ao (aI ((l.drop (j.val*n)).take n)).length).flatten).length<=100630:=E3 l n Q bt hl HB.out Y ds;have f4:((Y.map fun j:Fin (aC l.length n)=>aI ((l.drop (j.val*n)).take n)).flatten).length<=452880:=E4 l n Q bt hl HB.out Y ds;obtain⟨c,hc⟩:∃ c,c=(l.drop (x.val*n)).take n:=⟨_,rfl⟩;have dv:c.length<=n/\c≠[]:=(by rw [hc];refine⟨by rw [aV];omega,fun e=>?_⟩;have:=fX List.length e;rw [aV,bN]at this;simp at this;omega);have co:∀ s∈c,s.length<=25:=fun s h=>HB.out s (by rw [hc]at h;exact kJ (eD h));rw [<- hc]at cn;have d0:=ad hc;clear hc;have f5:=ad (I1 _ c W cn dv.2 co (by omega));have hC:(aI c).length<=64*45:=(by have M:=lg 25 (by omega) c co;have Z:c.length*(25+20)<=64*45:=b7 (by omega) (ag _);omega);generalize d1:aI c=bk at *;have d2:=ad d1;clear d1 cn co dv;have hE:Fence.wide.fn 154:=trivial
    gi_wp2_with (first
      | (gi_at_call 154; refine (pZ lr (jr.2 f5.out)).mono ?_; rintro e w5 ⟨u5, rfl, b4, z⟩; obtain ⟨ua, uc, hu⟩ := b4.shape'; subst hu))
    have ge:w.heap.size<=W.heap.size:=h8.size;refine GQ lr _ n l.length q.length J L R U H w.heap.size _ _ _ _ ua bk.length uc hv (q++(Y.map fun j:Fin (aC l.length n)=>ao (aI ((l.drop (j.val*n)).take n)).length).flatten) w5 _ (z.heap M) (y.fr z) (aq ge z.size) (by omega) (by rw [an];omega) ?_;intro w6 d3 hH hI hJ q1 q2 V q4;have n1:=y.ne_cells h2 (by decide);have n2:=y.ne_cells Z (by decide);have n3:=y.ne_cells h4 (by decide);have n4:=O.ne_cells M (by decide)
    have r2 := V.heap (z.heap h2) (by rintro (e | e); · omega
                                      · exact n1 e)
    have r3 := V.heap (z.heap Z) (by rintro (e | e); · omega
                                     · exact n2 e)
    have r4 := V.heap (z.heap h4) (by rintro (e | e); · omega
                                      · exact n3 e)
    have I := (O.fr z).chg V (fun k G => by
      rintro (e | e);· exact n4 (by rw [G, e])
      · rcases m with m | m;· rw [m] at G; cases G
        · exact m (by rw [G, e]))
    have gs := b4.chg V (fun k G => by
      have i1 := (b4.lt k G).1;rintro (e | e);· have := (aR.1 M).1; omega
      · have := (y.lt k e).2; omega)
    have dT:bv.ownBlock=none\/bv.ownBlock≠d3.ownBlock:=by
      cases b5:bv.ownBlock with
      | none=>exact .inl rfl
      | some g=>
        refine .inr fun e=>?_;rcases q4 g e.symm with e2 | e2
        · rcases m with m | m;· rw [m]at b5;cases b5
          · exact m (by rw [b5,e2])
        · have:=(O.lt g b5).2;have:=z.size;omega
    have cx : Fr w w6 := ak.below (h8.trans z) V (h8.trans z).size (fun i e => by
      rcases e with e | e;· omega
      · have := (y.lt i e).1; omega)
    obtain⟨bd,cy⟩:∃ bd,bd=(Y.map fun j:Fin (aC l.length n)=>aI ((l.drop (j.val*n)).take n)).flatten:=⟨_,rfl⟩;rw [<- cy]at I f4 O;have gv:=ad cy;clear cy;obtain⟨ba,bc,rfl⟩:=I.shape';have c1:=ae r2 0 rfl;have er:=ad q1;have b8:=ad r2;have bA:=ad r3;have bB:=ad r4;have es : KeepsOthers W w6 := (ug (z.chg (fun _ => False)) (fun _ _ _ e => e.elim)).trans (ug V (fun k o ho e => by
      rcases e with e | e;· have hx := z.heap M; rw [← e, ho] at hx; cases hx; rfl
      · exact tJ (y.fr z) e ho))
    have ev:W.heap[H+1+1]? = w6.heap[H+1+1]? /\ W.heap[H+1+1+1]? = w6.heap[H+1+1+1]?:=⟨Z.trans r3.symm,h4.trans r4.symm⟩;have cz:=ad (And.intro es ev);clear M h2 Z h4 y O m q1 r2 r3 r4 V q4 n1 n2 n3 n4 es ev b4;gi_wp2_with (gi_at_builtin;refine wy eB rfl (.tmp 37) (.tmp 38) 29 rfl Tryz.underlying29 _ rfl I _ _ rfl gs.see (by omega) cx.size ?_);intro v7 w7 a3;obtain⟨hN,hO,rfl⟩:=a3.own.shape';have m2:w7.heap[H+1]? = some (.cells #[.slice ba bd.length bc] 29 (0,0)):=a3.chg'.heap b8.out (I.ne_cells b8.out (by decide));have e7:=ae m2 0 rfl;have f7:w7.frozen? ⟨H+1,0,none⟩=false:=az m2 0;gi_wp2;have o7:=a3.own;have e3:=a3.fresh;simp only [an]at o7 e3;obtain⟨s1,s2,X,s4⟩:=nM I (Fr.refl w6) m2 o7 a3.chg' e3;have p1:=I.ne_cells er.out (by decide);have p3:=I.ne_cells bA.out (by decide);have p4:=I.ne_cells bB.out (by decide);have p5:=q2.ne_cells b8.out (by decide);have e5:=a3.apart q2 (il dT);simp only [an]at e5;refine ⟨cz.out.1.trans (ug X (fun k o ho e => by
      rcases e with e | e;· have hx := b8.out; rw [← e, ho] at hx; cases hx; rfl
      · exact tJ I e ho)), ?_, d3, _, ?_, s1, ?_, ?_, ?_, ?_, il e5, ?_⟩
    · refine⟨?_,?_⟩
      · rw [X.heap bA.out (by rintro (e | e); · omega
                              · exact p3 e), cz.out.2.1]; exact bA.out.symm
      · rw [X.heap bB.out (by rintro (e | e); · omega
                              · exact p4 e), cz.out.2.2]; exact bB.out.symm
    · exact X.heap er.out (by rintro (e | e); · omega
                              · exact p1 e)
    · exact X.heap bA.out (by rintro (e | e); · omega
                              · exact p3 e)
    · exact X.heap bB.out (by rintro (e | e); · omega
                              · exact p4 e)
    · have := q2.chg X (fun k G => by
        rintro (e | e);· exact p5 (by rw [G, e])
        · rcases dT with m | m;· rw [m] at e; cases e
          · exact m (by rw [G, e]))
      rw [fN,ly,List.map_singleton,List.flatten_singleton,<- d0.out,d2.out,<- eE];exact this
    · rw [fN,ly,List.map_singleton,List.flatten_singleton,<- d0.out,d2.out,<- gv.out];exact s2
    · exact ak.below cx X cx.size (fun i e => by
        rcases e with e | e;· omega
        · have := (I.lt i e).1; omega)
  case done=>
    rintro D ys W hD rfl ⟨hv,bv,M,h2,Z,h4,y,O,m,h8⟩ hK;have HT:Hid (T=(q++((List.finRange (aC l.length n)).map fun j:Fin (aC l.length n)=>ao (aI ((l.drop (j.val*n)).take n)).length).flatten)++((List.finRange (aC l.length n)).map fun j:Fin (aC l.length n)=>aI ((l.drop (j.val*n)).take n)).flatten):=(by show _=_;rw [HD.out,ro (aC l.length n) (fun j=>ao (aI ((l.drop (j*n)).take n)).length),ro (aC l.length n) (fun j=>aI ((l.drop (j*n)).take n))];unfold cK;simp only [mL];rfl);have g9:(((List.finRange (aC l.length n)).map fun j:Fin (aC l.length n)=>ao (aI ((l.drop (j.val*n)).take n)).length).flatten).length<=100630:=(by have:=c7.out (aC l.length n);rw [eo (by rw [ld];exact ag _)]at this;rw [ro (aC l.length n) (fun j=>ao (aI ((l.drop (j*n)).take n)).length)];unfold cK at this;simp only [mL]at this;exact this);have hT:(((List.finRange (aC l.length n)).map fun j:Fin (aC l.length n)=>aI ((l.drop (j.val*n)).take n)).flatten).length<=452880:=(by have:=c8.out (aC l.length n);rw [eo (by rw [ld];exact ag _)]at this;rw [ro (aC l.length n) (fun j=>aI ((l.drop (j*n)).take n))];unfold cK at this;simp only [mL]at this;exact this);generalize ((List.finRange (aC l.length n)).map fun j:Fin (aC l.length n)=>ao (aI ((l.drop (j.val*n)).take n)).length).flatten=hd at *;generalize ((List.finRange (aC l.length n)).map fun j:Fin (aC l.length n)=>aI ((l.drop (j.val*n)).take n)).flatten=bd at *;obtain⟨hh,c4⟩:∃ hh,hh=q++hd:=⟨_,rfl⟩;rw [<- c4]at y HT;have hU:hh.length<=100640:=(by rw [c4,an];omega);clear c4 g9;obtain⟨ha,hc,rfl⟩:=y.shape';obtain⟨ba,bc,rfl⟩:=O.shape';have c0:=ae M 0 rfl;have c1:=ae h2 0 rfl;have fa:=ad (uQ _ _ hh bd W y.see O.see (by omega));rw [<- HT.out]at fa;have gB:=ad hK;clear M h2 Z h4 y O m hK c7 c8;have hX:Fence.wide.fn 30:=trivial;gi_wp2_with (gi_at_call 30;refine(jr.2 fa.out).mono ?_;rintro e w8 ⟨v8,rfl,fc,fd⟩);have c5:=fd.heap gB.out;obtain⟨gO,hb,rfl⟩:=fc.shape';refine⟨by simp,.inl ⟨_,_,rfl,run_takeDeferred c5,?_⟩⟩;refine⟨.tuple #[.slice gO T.length hb,.int .i64 0],by simp [results,Tryz.results104,go_sem, *],_,rfl,?_,?_⟩;· exact oK (fc.rebase h8.size) (grownBy_putObj' w8 D (.deferred none)) (fun r e=>by cases e;exact⟨_,c5,rfl⟩)
    · exact Below.trans (h8.trans fd) (belowK_b (w:=w) (ag _) w8 D _ _ (aq b1.size hD) c5 rfl rfl)
  case stop=>rintro D c Y W hD _ h _;exact h.elim
end Go.Proofs.YtdamnfpigajmoaaGreatDoor
