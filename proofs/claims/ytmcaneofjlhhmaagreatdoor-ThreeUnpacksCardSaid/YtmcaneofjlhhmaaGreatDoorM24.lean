/- Lemmas. -/
import Derived.Test.YtmcaneofjlhhmaaGreatDoorM21
import Derived.Test.YtmcaneofjlhhmaaGreatDoorShelf
import Derived.Lib.ItoaNum
set_option linter.all false
set_option maxHeartbeats 8000000
set_option maxRecDepth 100000
namespace Go.Fk
abbrev pEQd:=@Int.tdiv_eq_ediv_of_nonneg
abbrev qIQb:=@Nat.le_mul_of_pos_right
abbrev vj:=@Int.toNat_natCast
end Go.Fk
namespace Go.Proofs
open RowKit Fk Tryz
def NR(q:Nat)(e:1<=q)(d:q<2^64):Lib.bitLen q=Nat.log2 q+1:=by
 obtain⟨a,b,c⟩:=Lib.bitLenAux_bounds 64 q d ω;show Lib.bitLenAux 64 q=_;generalize Lib.bitLenAux 64 q=k at *;obtain⟨j,rfl⟩:∃j,k=j+1:=⟨k-1,ω⟩;rw[C3 q j (by simpa using b) c]
def Mn(d n:Nat)(p:d<=20000)(G:1<=n)(z:n<=d)(w:World):Calls prog 164 #[N d,N n] w λe w'=>e=.returned (N (Nat.log2 (d / n)))/\Fr w w':=by
 have D:1<=d / n:=Nat.div_pos z ω;have I:d / n<=20000:=ar (il _ _) p;have J:(d:Int).tdiv n=((d / n:Nat):Int):=by rw[pEQd ω];exact(Int.natCast_ediv _ _).symm
 have K:(d:Int) / n=((d / n:Nat):Int):=(Int.natCast_ediv _ _).symm;have L:((n:Int) == 0)=false:=by simp;omega
 have M:n≠0:=ω
 have o:=NR (d / n) D ω;generalize d / n=q at *;have h:=bits_Len (q:Int) w ω ω;rw[vj,o]at h;have F:=ad h;have O:Nat.log2 q<=14:=by refine Nat.le_of_lt_succ ((Nat.log2_lt ω).2 ?_);omega
 clear o h;generalize Nat.log2 q=m at *;go_in;go_wp2_with fail;refine F.out.mono ?_;rintro e Q ⟨rfl,rfl⟩;go_wp2;go_ret;exact⟨by first | rfl | go_num,Fr.refl _⟩
def gV(d m:Nat)(r:U0):List Nat × Nat × Nat:=
 if 8*r.length<m*Nat.log2 (d / m)then([],0,1)
 else if (dX d (Nat.log2 (d / m)) r m 0 (m * Nat.log2 (d / m)) 0 0 []).2.2 = 0 then
  (if kV r (dX d (Nat.log2 (d / m)) r m 0 (m*Nat.log2 (d / m)) 0 0 []).2.1 then((dX d (Nat.log2 (d / m)) r m 0 (m*Nat.log2 (d / m)) 0 0 []).1,((dX d (Nat.log2 (d / m)) r m 0 (m*Nat.log2 (d / m)) 0 0 []).2.1+7) / 8,0)else([],0,2))
 else([],0,(dX d (Nat.log2 (d / m)) r m 0 (m*Nat.log2 (d / m)) 0 0 []).2.2)
def D9(d:Nat)(b:U0):eK d b=if(aE d b).2.2=0 then(if(aE d b).1=0 then([],(aE d b).2.1,0)else if(gV d (aE d b).1 (b.drop (aE d b).2.1)).2.2=0 then((gV d (aE d b).1 (b.drop (aE d b).2.1)).1,(aE d b).2.1+(gV d (aE d b).1 (b.drop (aE d b).2.1)).2.1,0)else([],0,(gV d (aE d b).1 (b.drop (aE d b).2.1)).2.2))else([],0,(aE d b).2.2):=by
 unfold eK gV;grind
def JL(a b:Nat)(d:a<9223372036854775808)(e:b<9223372036854775808):bits .or .i64 (a:Int) (b:Int)=((a ||| b:Nat):Int):=by
 have f:a ||| b<2^63:=Nat.or_lt_two_pow ω ω;show IntKind.i64.wrap ((BitVec.ofInt 64 (a:Int) ||| BitVec.ofInt 64 (b:Int)).toNat:Int)=_;rw[BitVec.toNat_or,fX 64 a ω,fX 64 b ω,dS _ ω]
def AQ(h k x:Nat)(d:k<=14)(e:h<=10000000)(f:x<2^k):IntKind.i64.wrap ((h:Int)*2^k)=((h*2^k:Nat):Int)/\bits .or .i64 ((h*2^k:Nat):Int) (x:Int)=((h*2^k+x:Nat):Int)/\h*2^k+x<=200000000000:=by
 have m:(2:Nat)^k<=2^14:=dn ω d;have o:=bo e m;refine⟨?_,?_,ω⟩;·rw[show(h:Int)*2^k=((h*2^k:Nat):Int) by simp];exact aA _ ω
 ·rw[JL _ _ ω ω];congr 1;rw[Nat.or_comm,tX _ _ _ f,Nat.add_comm]
def DB(e w:Nat)(r:U0)(m i a d f:Nat)(o:List Nat)(h:i<m):dX e w r (m-i) i a d f o=if(dg r a).2.2=0 then(if(d+(dg r a).1)*2^w+Fk.aF r (w*i) w<f then([],0,2)else if e<=(d+(dg r a).1)*2^w+Fk.aF r (w*i) w then([],0,8)else dX e w r (m-(i+1)) (i+1) (dg r a).2.1 (d+(dg r a).1) ((d+(dg r a).1)*2^w+Fk.aF r (w*i) w+1) (o++[(d+(dg r a).1)*2^w+Fk.aF r (w*i) w]))else([],0,1):=by
 rw[show m-i=(m-(i+1))+1 by omega,dX]
def zU(l:U0)(a:Nat)(h:¬(dg l a).2.2=0):(dg l a).2.2=1:=by
 unfold dg at *;grind
def Kt(n a:Nat)(d:n%8=0)(h:a<=n):(n-a)%8=(8-a%8)%8/\n / 8-(n-a) / 8=(a+7) / 8:=ω
def ez.chg{w w':World}{B base n a:Nat}{l:U0}{G:Nat->Prop}(h:ez w B base l n a)(d:ag G w w')(f:¬G B)(m:∀v,Ow w base eB v l->∀k,v.ownBlock=some k->¬G k):ez w' B base l n a:=by
 obtain⟨⟨v,o,e⟩,p,q⟩:=h;exact⟨⟨v,d.heap o f,e.chg d (m v e)⟩,p,q⟩
def ez.box{w:World}{B base n a:Nat}{l:U0}(h:ez w B base l n a):∃d,w.heap[B]?=some (.cells d 410 (0,0)):=by obtain⟨⟨v,e,_⟩,_⟩:=h;exact⟨_,e⟩
def ez.beside{w w':World}{B base n a b g K:Nat}{l:U0}{f m:Value}{o p:List Nat}(h:ez w B base l n a)(hP:iT w 333 b g K f m o p)(z:B≠g)(A:B<b)
  (hc:ag (λk=>k=g\/f.ownBlock=some k\/m.ownBlock=some k) w w'):ez w' B base l n a:=by
 refine h.chg hc (λe=>?_) (λv d k q e=>?_)
 ·rcases e with e | e | e;·omega
  ·have:=(hP.hi.lt _ e).1;omega
  ·have:=(hP.lo.lt _ e).1;omega
 ·rcases e with e | e | e;·exact d.ne_cells hP.at0 δ (by rw[q,e])
  ·rcases lE d hP.hi δ with h | h;·grind
   ·grind
  ·rcases lE d hP.lo δ with h | h;·grind
   ·grind
def K9{w w':World}{c b g K:Nat}{u f m:Value}{o p L:List Nat}(d:Ow w c eU u L)(hP:iT w 333 b g K f m o p)(z:∀k,u.ownBlock=some k->k<b)
  (hc:ag (λk=>k=g\/f.ownBlock=some k\/m.ownBlock=some k) w w'):Ow w' c eU u L:=by
 refine d.chg hc λk q e=>?_;rcases e with e | e | e;·exact d.ne_cells hP.at0 δ (by rw[q,e])
 ·rcases lE d hP.hi δ with h | h;·grind
  ·grind
 ·have:=(hP.lo.lt _ e).1;grind
def iT.beside{w w':World}{B b g K:Nat}{f h:Value}{m o:List Nat}(hP:iT w 333 b g K f h m o)(p:B≠g)(q:B<b)(d:ag (λk=>k=B) w w'):iT w' 333 b g K f h m o:=
 ⟨d.heap hP.at0 (λe=>p e.symm),hP.hi.chg d (hP.hi.nL ω),hP.lo.chg d (hP.lo.nL ω),hP.lt⟩
def Mo(o m:Nat)(hb:o<=20000)(e0:1<=m)(cb:m<=o)(v:Value)(l:U0)(w:World)(hs:ao w eB v l)(hl:l.length<=1000000):Calls prog 249 #[N o,N m,v] w λe w'=>∃pv,e=.returned (.tuple #[pv,N (gV o m l).2.1,.int .i64 ((gV o m l).2.2:Int)])/\Fr w w'/\((gV o m l).2.2=0->∃g base I J,pv=.pointer (some ⟨g,0,none⟩)/\w.heap.size<=g/\iT w' 333 base g (Nat.log2 (o / m)) I J ((gV o m l).1.map (· / 2^Nat.log2 (o / m))) ((gV o m l).1.map (· % 2^Nat.log2 (o / m)))):=by
 have cf:=ad (QU v l w hs hl);have ch:=ad (λW=>Mn o m hb e0 cb W);have ci:=ad (λB base n k W h F e1 hB=>K8 B base n m k l W h hl F ω e1 hB);have e3:=ad (λB base n a W h=>NE B base n a l W h hl);have e4:=ad (λB base n a k W h F=>Fu B base n a k l W h hl F);have bl:=ad (λB base n a W h=>pr B base n a l W h hl);have HAdd:=ad (@JA);have e5:=ad (λa ha=>vG l a ha);have q:Hid (gV o m l=if 8*l.length<m*Nat.log2 (o / m)then([],0,1)else if(dX o (Nat.log2 (o / m)) l m 0 (m*Nat.log2 (o / m)) 0 0 []).2.2=0 then(if kV l (dX o (Nat.log2 (o / m)) l m 0 (m*Nat.log2 (o / m)) 0 0 []).2.1 then((dX o (Nat.log2 (o / m)) l m 0 (m*Nat.log2 (o / m)) 0 0 []).1,((dX o (Nat.log2 (o / m)) l m 0 (m*Nat.log2 (o / m)) 0 0 []).2.1+7) / 8,0)else([],0,2))else([],0,(dX o (Nat.log2 (o / m)) l m 0 (m*Nat.log2 (o / m)) 0 0 []).2.2)):=rfl;have e7:1<=o / m:=Nat.div_pos cb ω;have e8:o / m<=20000:=ar (il _ _) hb;have a1:Nat.log2 (o / m)<=14:=by refine Nat.le_of_lt_succ ((Nat.log2_lt ω).2 ?_);omega
 generalize gV o m l=R,Nat.log2 (o / m)=K at *;clear e7 e8;obtain⟨a0,hj,rfl,_⟩:=hs.shape;clear hs;go_in;go_wp2_with fail;apply cf.z;rintro e w1 ⟨A,rfl,bq,bs,hm⟩;have hn:A<w1.heap.size:=by obtain⟨cs,h⟩:=bq.box;exact(aX.1 h).1
 clear cf;go_wp2_with fail;refine(ch.out w1).mono ?_;rintro e G ⟨rfl,a4⟩;have a5:(G.alloc (.cells #[N K,.slice none 0 0,.slice none 0 0] 333)).heap[G.heap.size]?=some (.cells #[N K,.slice none 0 0,.slice none 0 0] 333 (0,0)):=aD _ _ _ rfl;have bt:Fr G (G.alloc (.cells #[N K,.slice none 0 0,.slice none 0 0] 333)):=(Fr.refl G).alloc _;have cj:(G.alloc (.cells #[N K,.slice none 0 0,.slice none 0 0] 333)).heap.size=G.heap.size+1:=σ
 have ck:(G.alloc (.cells #[N K,.slice none 0 0,.slice none 0 0] 333)).cell? ⟨G.heap.size,0,none⟩=some (N K):=by rw[aG a5];rfl
 have cl:=a4.size;have eC:=bs.size;have cm:=(bq.fr a4).fr bt;clear bq ch;go_wp2_with fail;generalize G.alloc (.cells #[N K,.slice none 0 0,.slice none 0 0] 333)=W0 at *;have bv:=(bs.trans a4).trans bt;obtain⟨g,hg⟩:∃g,g=G.heap.size:=⟨_,rfl⟩;rw[<- hg]at a5 ck cj cl ⊢;have cq:=ad (ci.out A w.heap.size (8*l.length) K W0 cm a1 ω ω);apply cq.z;rintro e w3 ⟨u,rfl,ac,bx⟩;clear ci cq;by_cases b0:8*l.length<m*K;·rw[an b0]at q ⊢;have cr:=ac b0;clear ac bx;go_wp2;go_ret3;rw[q.out];exact⟨_,rfl,bv.trans cr.fr,λh=>by cases h⟩
 ·rw[ae b0]at q ⊢;obtain⟨a6,ct,a7⟩:=bx ω;have a8:A≠g:=ω;have cu:=a7.heap a5 (λe=>a8 e.symm);have ho:=a7.size;have hq:g<W0.heap.size:=ω;have cv:iT w3 333 w3.heap.size g K (.slice none 0 0) (.slice none 0 0) [] []:=⟨cu,Ow.nil,Ow.nil,ω⟩;have cz:Fr w w3:=(bv.chg (λb=>b=A)).trans a7 (λ_ _ h=>h) |>.fr (λk F e=>by omega);have eL:∀k,u.ownBlock=some k->k<w3.heap.size:=λk F=>(a6.lt k F).2;have b1:=ad (tU l K m);have fa:=ad (tV l K m);obtain⟨ua,uc,hu⟩:=a6.shape';rw[b1.out]at hu;subst hu;have b2:A<w3.heap.size:=ω;have c4:w.heap.size<=g:=ω;have HS:=ad (DB o K l m);have fh:=ad (λi=>jt l (K*i) K);clear ac bx a5 ck cj cl eC cm bt bv cu a7 hg bs a4;generalize c5:w3.heap.size=V at *;have fl:=ad c5;clear c5;obtain⟨E0,b3⟩:∃E0,E0=dX o K l m 0 (m*K) 0 0 []:=⟨_,rfl⟩;rw[<- b3]at q;have c6:Hid (E0=dX o K l (m-0) 0 (m*K) 0 0 []):=b3;clear b3;have fn:m*K<=8*l.length:=ω;have hr:=ad fn;generalize m*K=mK at *;go_wp2;go_loopw [13,14,47] (λfv wv iv wr=>∃(i aj lo a:Nat) (I J:Value) (p:List Nat),i<=m/\iv=N i/\fv=N aj/\wv=.int .i64 ((lo:Int)-1)/\aj<=20000/\lo<=20000/\p.length=i/\ez wr A w.heap.size l (8*l.length) a/\iT wr 333 V g K I J (p.map (· / 2^K)) (p.map (· % 2^K))/\Ow wr W0.heap.size eU (.slice ua m uc) (jw l K m)/\Fr w wr/\V<=wr.heap.size/\Hid (E0=dX o K l (m-i) i a aj lo p)) (λ_ _ iv _=>m-(intOf iv).toNat);·exact⟨0,0,0,mK,_,_,[],ax _,rfl,rfl,rfl,ω,ω,rfl,ct,cv,a6,cz,gp fl.out.symm,c6.out⟩
  ·
   clear ct cv a6 cz c6;obtain⟨i,aj,lo,a,I,J,p,hi,rfl,rfl,rfl,hw,hy,h0,hC,hP,hO,hf,hz,HE⟩:=hrel;by_cases c7:i<m
   ·have b6:i<(jw l K m).length:=(by rw [b1.out];exact c7);obtain⟨b,fD,cp,c8,c0⟩:=hO.see.cell1 (fun n:Nat=>Value.int .u16 (n:Int)) rfl i b6;rw [b1.out]at c8;cases c8;have d0:wr.cell? ⟨b,fD+i,none⟩=some (.int .u16 ((Fk.aF l (K*i) K:Nat):Int)):=(by rw [<- fa.out i b6];exact c0);have cB:=ad (HS.out i a aj lo p c7);have cC:=fh.out i;have h6:=e5.out a hC.le;have cE:=ad (e3.out A w.heap.size (8*l.length) a wr hC);have i1:(0:Int)<=i:=(by omega);have i2:(i:Int)<m:=(by omega);have z:Hid (E0=_):=HE.out.trans cB.out;have fE:Hid (¬(dg l a).2.2=0->(dg l a).2.2=1):=fun h=>zU l a h;clear c0 HE cB b6;generalize (dg l a).2.2=er,(dg l a).2.1=a2,(dg l a).1=d,Fk.aF l (K*i) K=x at *;have HC:=ad hC;have M:=ad hP;have HO:=ad hO;clear hC hP hO;go_wp2_with fail;apply cE.z;rintro e w4 ⟨rfl,cL,av⟩;have ba:=M.out.beside a8 b2 av;have cN := HO.out.chg av (fun k F e => by
      obtain ⟨cs, h5⟩ := HC.out.box
      exact HO.out.ne_cells h5 δ (by rw[F, show k = A from e]))
    have am:Fr w w4:=((hf.chg (λb=>b=A)).trans av λ_ _ h=>h).fr (λk F e=>by omega);have cR:=ar hz av.size;clear cE HC M HO av;by_cases az:er=0
    ·rw[an az]at z;subst az;obtain⟨O,bb⟩:∃O,O=aj+d:=⟨_,rfl⟩;have fP:O<=10000000:=ω;have w0:IntKind.i64.wrap ((aj:Int)+d)=(O:Int):=(by rw[aA _ ω,bb];simp);rw[<- bb]at z;have hA:=ad bb;clear bb;obtain⟨w1,G,cT⟩:=AQ O K x a1 fP cC;have HQ:=ad cT;have hE:¬(K:Int)<0:=ω;have w5:IntKind.i64.wrap (x:Int)=(x:Int):=aA _ (by have:(2:Nat)^K<=2^14:=dn ω a1;omega);have c1:w4.cell? ⟨g,0,none⟩=some (N K):=(by rw[aG ba.at0];rfl);obtain⟨D,b9⟩:∃D,D=O*2^K+x:=⟨_,rfl⟩;rw[<- b9]at G z HQ;have bC:O<=D:=(by have hp:=lm K;have:=qIQb O hp;omega);have hH:=ad b9;clear b9 cT cC;generalize O*2^K=y at *;have hQ:=HQ.out;by_cases db:D<lo;·rw[an db]at z;have Q:Hid (R=([],0,2)):=ad (by rw[q.out,z.out,ae δ]);have k1:(D:Int)<=(lo:Int)-1:=ω;clear z q bC;go_wp2;go_ret3;rw[Q.out];exact⟨_,rfl,am,λh=>by cases h⟩
     ·rw[ae db]at z;have k1:¬(D:Int)<=(lo:Int)-1:=ω;by_cases dd:o<=D;·rw[an dd]at z;have Q:Hid (R=([],0,8)):=ad (by rw[q.out,z.out,ae δ]);have k2:(o:Int)<=D:=ω;clear z q bC;go_wp2;go_ret3;rw[Q.out];exact⟨_,rfl,am,λh=>by cases h⟩
      ·rw [ae dd]at z;have k2:¬(o:Int)<=D:=(by omega);have HA:=ad (HAdd.out D K (by omega) a1 V g I J (p.map (· / 2 ^ K)) (p.map (· % 2 ^ K)) w4 ba (by rw [fw];omega) (by rw [fw];omega) cR);have dk:=ad cL;have X:=ad ba;have dl:=ad cN;have ga:O<=20000:=(by omega);clear cL ba cN bC;go_wp2_with fail;apply HA.z;rintro e w5 ⟨rfl,ds,dv,Y,Z⟩;have bG:=dk.out.beside X.out a8 b2 Z;have gb:=K9 dl.out X.out eL Z;have gc:=ar cR Z.size;have dz:=fun k (h:I.ownBlock=some k)=>(X.out.hi.lt k h).1;have dE:=fun k (h:J.ownBlock=some k)=>(X.out.lo.lt k h).1;have hI:=X.out.lt;have bc : Fr w w5 := ((am.chg (fun k => k = g ∨ I.ownBlock = some k ∨ J.ownBlock = some k)).trans Z fun _ _ h => h).fr (fun k F e => by
         rcases e with e | e | e;·omega
         · have := dz k e; omega
         · have := dE k e; omega)
       have ge:Hid (iT w5 333 V g K ds dv ((p++[D]).map (· / 2^K)) ((p++[D]).map (· % 2^K))):=(by show iT _ _ _ _ _ _ _ _ _;rw[gq,gq];exact Y);clear HA Z dz dE X dk dl Y;go_wp2;go_roundw;·exact⟨i+1,O,D+1,a2,ds,dv,p++[D],ω,γ,rfl,σ,ga,ω,by simp;omega,bG,ge.out,gb,bc,gc,z.out⟩
       ·exact μ
    ·rw[ae az]at z;have hJ:¬(er:Int)=0:=ω;have Q:Hid (R=([],0,er)):=(by have h1:=fE.out az;show _=_;rw[q.out,z.out,ae δ,h1]);clear z q;go_wp2;go_ret3;rw[Q.out];exact⟨_,rfl,am,λh=>absurd h az⟩
   ·obtain rfl:i=m:=ω;have hK:¬((i:Int)<i):=ω;have dT:Hid (E0=(p,a,0)):=ad (by rw[HE.out,eA];rfl);rw[dT.out]at q;have gi:=hC.le;obtain⟨gr,gs⟩:=Kt (8*l.length) a ω gi;have bL:=ad (λW (h:Fr wr W)=>bl.out A w.heap.size (8*l.length) a W (hC.fr h));have bR:Hid (kV l a=decide (Fk.aF l a ((8-a%8)%8)=0)):=rfl;have hL:((((8*l.length:Nat):Int)-a).tmod 8=(((8-a%8)%8:Nat):Int)):=(by rw[vk ω];omega);have hM:((8*l.length-a) / 8)<=l.length:=ω;have hR:((((8*l.length:Nat):Int)-a) / 8=(((8*l.length-a) / 8:Nat):Int)):=ω;have gv:Hid (∀L:Nat,L=a+(8-a%8)%8->(((8*l.length:Nat):Int)-(L:Int)) / 8=(((8*l.length-a) / 8:Nat):Int)):=λL h=>ω;have eb:l.length-(8*l.length-a) / 8=(a+7) / 8:=ω;have g0:=ad eb;have HG:=ad (λW (h:Fr wr W) k F=>e4.out A w.heap.size (8*l.length) a k W (hC.fr h) F);have M:=ad hP;have ek:a+(8-a%8)%8<=8*l.length:=ω;have em:=ad ek;clear HE dT gr gs eb ek hO hC hP;generalize g1:(8-a%8)%8=rs at *;have hS:rs<8:=ω;clear g1;generalize g2:8*l.length=n8 at *;have hT:=aA ((n8:Int)-a) ω;clear g2;have hU:IntKind.i64.wrap (rs:Int)=(rs:Int):=aA _ ω;generalize (n8-a) / 8=qt at *;have hV:IntKind.i64.wrap (qt:Int)=(qt:Int):=aA _ ω;have hW:IntKind.i64.wrap ((l.length:Int)-qt)=(((a+7) / 8:Nat):Int):=(by rw[aA _ ω];have:=g0.out;omega);generalize (a+7) / 8=tk at *;go_wp2_with fail;refine(bL.out wr (Fr.refl _)).mono ?_;rintro e w4 ⟨rfl,U⟩;by_cases es:rs=0;·subst es;have Q:Hid (R=(p,tk,0)):=ad (by rw[q.out,an trivial,bR.out];rfl);have g3:=ad (bL.out w4 U.fr);clear q;go_wp2_with fail;apply g3.z;rintro e w5 ⟨rfl,bd⟩;have g4:=hf.trans (U.fr.trans bd.fr);have Y:iT w5 333 V g K I J (p.map (· / 2^K)) (p.map (· % 2^K)):=⟨(U.fr.trans bd.fr).heap M.out.at0,M.out.hi.fr (U.fr.trans bd.fr),M.out.lo.fr (U.fr.trans bd.fr),M.out.lt⟩;go_wp2;go_ret3;rw[Q.out];exact⟨_,rfl,g4,λ_=>⟨g,V,I,J,rfl,c4,Y⟩⟩
    ·have k1:(0:Int)<rs:=ω;have ac:¬n8<a+rs:=(by have:=em.out;omega);have be:=ad (HG.out w4 U.fr rs ω);rw[ae ac,ae ac,ae ac]at be;obtain⟨L,bT⟩:∃L,L=a+rs:=⟨_,rfl⟩;rw[<- bT]at be;have cr:=gv.out L bT;have hY:L<=n8:=(by have:=em.out;omega);have g5:=ad (λW (h:ez W A w.heap.size l n8 L)=>bl.out A w.heap.size n8 L W h);have hZ:=aA ((n8:Int)-L) ω;clear bT;have X:=ad (show iT w4 333 V g K I J (p.map (· / 2^K)) (p.map (· % 2^K))from⟨U.fr.heap M.out.at0,M.out.hi.fr U.fr,M.out.lo.fr U.fr,M.out.lt⟩);have am:=hf.trans U.fr;clear HG bL bl ac es;generalize Fk.aF l a rs=x at *;go_wp2_with fail;apply be.z;rintro e w5 ⟨rfl,bG,Z⟩;have Y:=X.out.beside a8 b2 Z;have bc:Fr w w5:=((am.chg (λb=>b=A)).trans Z λ_ _ h=>h).fr (λk F e=>by omega);clear be X Z;by_cases hx:x=0;·subst hx;have Q:Hid (R=(p,tk,0)):=ad (by rw[q.out,an trivial,bR.out];rfl);have gO:=ad (g5.out w5 bG);clear q;go_wp2_with fail;apply gO.z;rintro e w6 ⟨rfl,bf⟩;have hd:iT w6 333 V g K I J (p.map (· / 2^K)) (p.map (· % 2^K)):=⟨bf.fr.heap Y.at0,Y.hi.fr bf.fr,Y.lo.fr bf.fr,Y.lt⟩;have he:=bc.trans bf.fr;go_wp2;go_ret3;rw[Q.out];exact⟨_,rfl,he,λ_=>⟨g,V,I,J,rfl,c4,hd⟩⟩
     ·have ia:¬(x:Int)=0:=ω;have Q:Hid (R=([],0,2)):=ad (by rw[q.out,an trivial,bR.out,bw hx];rfl);clear q;go_wp2;go_ret3;rw[Q.out];exact⟨_,rfl,bc,λh=>by cases h⟩
def Db(d:Nat)(b:U0):(⟨0,0⟩:Cs).int b d=((aE d b).1,⟨(aE d b).2.1,(aE d b).2.2⟩):=by
 unfold Cs.int Cs.val Cs.step;by_cases h:(aE d b).2.2=0;·simp[h]
 ·have:=KN _ _ h;simp[h,this.1,this.2.1]
def I6(e m:Nat)(r:U0)(p:r.length<=1000000)(h:(gV e m r).2.2=0):(gV e m r).2.1<=1000001:=by
 unfold gV at *;split at h;·simp at h
 ·rename_i f;rw[ae f];split at h
  ·rename_i d;rw[an d];have q:=DC e _ r m 0 _ 0 0 [] ω d;split at h;·rename_i o;rw[an o];show(_+7) / 8<=_;omega
   ·simp at h
  ·rename_i d;exact absurd h d
def nZ(w:World)(g base:Nat)(d:List Nat):Prop:=∃K e f,K<=14/\iT w 333 base g K e f (d.map (· / 2^K)) (d.map (· % 2^K))
def nZ.fr{w w':World}{g base:Nat}{e:List Nat}(h:nZ w g base e)(d:Fr w w'):nZ w' g base e:=by
 obtain⟨K,f,m,o,hP⟩:=h;exact⟨K,f,m,o,d.heap hP.at0,hP.hi.fr d,hP.lo.fr d,hP.lt⟩
def QJ(d:Nat)(hb:d<=20000)(v:Value)(b:U0)(w:World)(I:ao w eB v b)(X:b.length<=1000000):Calls prog 188 #[N d,v] w λe w'=>∃pv,e=.returned (.tuple #[pv,N (eK d b).2.1,.int .i64 ((eK d b).2.2:Int)])/\Fr w w'/\((eK d b).2.2=0->∃g base,pv=.pointer (some ⟨g,0,none⟩)/\w.heap.size<=g/\nZ w' g base (eK d b).1):=by
 have J:=ad (nm v b w I X);have M:=ad (λB base W (h:aw W 247 B base b 0 0)=>pp d ω B base ⟨0,0⟩ b W h X);rw[Db]at M;have ac:=ad (λB base n O W h=>jg B base n O b W h);have ah:=ad (λB base n O W h=>sy B base n O b W h);have am:=ad (λm v r W q h2 I X=>Mo d m hb q h2 v r W I X);have p:Hid (eK d b=_):=D9 d b;have ai:=jN d b;have HS:=ad I;obtain⟨a0,b6,rfl,_⟩:=I.shape;clear I;generalize eK d b=R at *;have b1:¬(d:Int)<0:=ω
 have b2:¬(20000:Int)<d:=ω
 by_cases G:(aE d b).2.2=0
 ·rw[an G]at p;rw[G]at M;obtain⟨bb,aj,ap⟩:=ai G;clear G ai;generalize (aE d b).2.1=at_,(aE d b).1=n at *;by_cases Y:n=0;·rw[an Y]at p;subst Y;go_in;go_wp2_with fail;apply J.z;rintro e z ⟨B,rfl,hC,U,hB⟩;have az:B<z.heap.size:=(by obtain⟨⟨v,q,_⟩,_⟩:=hC;exact(aX.1 q).1);have K:=ad (M.out B _ z hC);clear J;go_wp2_with fail;apply K.z;rintro e o ⟨rfl,A,V⟩;have D:Fr w o:=((U.chg (λb=>b=B)).trans V λ_ _ h=>h).fr (λk hk e=>by omega);have L:=ad (ac.out B _ _ _ o A);go_wp2_with fail;apply L.z;rintro e w3 ⟨rfl,rfl⟩;have a3:Fr o (o.alloc (.cells #[.int .i64 0,.slice none 0 0,.slice none 0 0] 333)):=(Fr.refl o).alloc _;have bc:(o.alloc (.cells #[.int .i64 0,.slice none 0 0,.slice none 0 0] 333)).heap[o.heap.size]?=some (.cells #[.int .i64 0,.slice none 0 0,.slice none 0 0] 333 (0,0)):=aD _ _ _ rfl;have Z:=ad (ah.out B _ _ _ _ (A.fr a3));go_wp2_with fail;generalize o.alloc (.cells #[.int .i64 0,.slice none 0 0,.slice none 0 0] 333)=w4 at *;apply Z.z;rintro e w5 ⟨rfl,rfl⟩;have aa:=D.trans a3;have a4:=D.size;go_wp2;go_ret3;rw[p.out];exact⟨_,rfl,aa,λ_=>⟨o.heap.size,o.heap.size+1,rfl,a4,0,_,_,ω,bc,Ow.nil,Ow.nil,ω⟩⟩
  ·rw[ae Y]at p;have n1:¬(n:Int)=0:=ω;obtain⟨f1,f2,bR,a5⟩:=gN eB 22 sJ HS.out at_ aj;have be:=ad a5;have bf:(b.drop at_).length=b.length-at_:=bn ..;have a6:=ad (λW (hf:Fr w W)=>am.out n _ (b.drop at_) W ω ap (be.out.fr hf) ω);have bm:=ad aj;have bq:Hid ((gV d n (b.drop at_)).2.2=0->(gV d n (b.drop at_)).2.1<=1000001):=λh=>I6 d n _ ω h;have bs:Hid (Nat.log2 (d / n)<=14):=(by have bS:1<=d / n:=Nat.div_pos ap ω;have bT:d / n<=20000:=ar (il _ _) hb;exact Nat.le_of_lt_succ ((Nat.log2_lt ω).2 ω));clear a5 bf am Y bb aj;generalize gV d n (b.drop at_)=Q,b.length-at_=bl at *;go_in;go_wp2_with fail;apply J.z;rintro e z ⟨B,rfl,hC,U,hB⟩;have az:B<z.heap.size:=(by obtain⟨⟨v,q,_⟩,_⟩:=hC;exact(aX.1 q).1);have K:=ad (M.out B _ z hC);clear J;go_wp2_with fail;apply K.z;rintro e o ⟨rfl,A,V⟩;have D:Fr w o:=((U.chg (λb=>b=B)).trans V λ_ _ h=>h).fr (λk hk e=>by omega);have L:=ad (ac.out B _ _ _ o A);go_wp2_with fail;apply L.z;rintro e w3 ⟨rfl,rfl⟩;have Z:=ad (ah.out B _ _ _ _ A);go_wp2_with fail;apply Z.z;rintro e w5 ⟨rfl,rfl⟩;have a7:=ad (a6.out o D);go_wp2_with fail;apply a7.z;rintro e w6 ⟨pv,rfl,a8,ak⟩;have bu:=ad (ah.out B _ _ _ _ (A.fr a8));have aa:=D.trans a8;have a4:=D.size;clear Z a7 a6 L K;by_cases F:Q.2.2=0;·rw[an F]at p;obtain⟨g,base,hv,lv,rfl,cb,hP⟩:=ak F;have HL:Hid (nZ w6 g base Q.1):=⟨_,hv,lv,bs.out,hP⟩;have cc:=bq.out F;rw[F]at *;clear ak hP F;generalize Q.2.1=tk at *;have cf:IntKind.i64.wrap ((at_:Int)+tk)=((at_+tk:Nat):Int):=(by rw[aA _ (by have:=bm.out;omega)];simp);go_wp2_with fail;apply bu.z;rintro e w7 ⟨rfl,rfl⟩;go_wp2;go_ret3;rw[p.out];exact⟨_,rfl,aa,λ_=>⟨g,base,rfl,ω,HL.out⟩⟩
   ·rw[ae F]at p;have ci:¬(Q.2.2:Int)=0:=ω;have HQ:=ad F;clear ak F;generalize Q.2.2=O at *;go_wp2;go_ret3;rw[p.out];exact⟨_,rfl,aa,λh=>absurd h HQ.out⟩
 ·rw[ae G]at p;have q:¬((aE d b).2.2:Int)=0:=ω;have H0:=ad G;clear ai G;generalize (aE d b).2.1=at_,(aE d b).1=n,(aE d b).2.2=O at *;go_in;go_wp2_with fail;apply J.z;rintro e z ⟨B,rfl,hC,U,hB⟩;have az:B<z.heap.size:=(by obtain⟨⟨v,q,_⟩,_⟩:=hC;exact(aX.1 q).1);have K:=ad (M.out B _ z hC);clear J;go_wp2_with fail;apply K.z;rintro e o ⟨rfl,A,V⟩;have D:Fr w o:=((U.chg (λb=>b=B)).trans V λ_ _ h=>h).fr (λk hk e=>by omega);have L:=ad (ac.out B _ _ _ o A);go_wp2_with fail;apply L.z;rintro e w3 ⟨rfl,rfl⟩;go_wp2;go_ret3;rw[p.out];exact⟨_,rfl,D,λh=>absurd h H0.out⟩
def Fy(g base:Nat)(d:List Nat)(w:World)(h:nZ w g base d):Calls prog 189 #[.pointer (some ⟨g,0,none⟩)] w λe w'=>e=.returned (N d.length)/\w=w':=by
 obtain⟨K,q,z,A,hP⟩:=h;obtain⟨o,p,m⟩:=hP.hi.shape';rw[fw]at m;subst m;have D:w.cell? ⟨g,1,none⟩=some (.slice o d.length p):=by rw[aG hP.at0];rfl
 clear hP;go_in;go_wp2;go_ret;exact⟨rfl,rfl⟩
def Mp(g base i:Nat)(d:List Nat)(w:World)(h:nZ w g base d)(p:i<d.length)(Q:d[i]<=20000):Calls prog 250 #[.pointer (some ⟨g,0,none⟩),N i] w λe w'=>e=.returned (N d[i])/\Qt w w':=by
 obtain⟨K,Y,Z,R,hP⟩:=h;obtain⟨z,A,U,D,o⟩:=hP.hi.see.cell1 N rfl i (by rw[fw];exact p);obtain⟨F,G,V,I,c2⟩:=hP.lo.see.cell1 (λn:Nat=>Value.int .u16 (n:Int)) rfl i (by rw[fw];exact p);rw[fw]at D I;rw[jm]at o c2;subst D I;have d0:w.cell? ⟨g,0,none⟩=some (N K):=by rw[aG hP.at0];rfl
 have d1:w.cell? ⟨g,1,none⟩=some (.slice (some ⟨z,A,none⟩) d.length U):=by rw[aG hP.at0];rfl
 have d2:w.cell? ⟨g,2,none⟩=some (.slice (some ⟨F,G,none⟩) d.length V):=by rw[aG hP.at0];rfl
 have f1:w.cell? ⟨z,A+i,none⟩=some (N (d[i] / 2^K)):=o;have f2:w.cell? ⟨F,G+i,none⟩=some (.int .u16 ((d[i]%2^K:Nat):Int)):=c2;have J:=lm K;have L:d[i]%2^K<2^K:=jB _ J;have M:d[i] / 2^K<=10000000:=by have:=il d[i] (2^K);omega
 have O:Hid (d[i] / 2^K*2^K+d[i]%2^K=d[i]):=by show _=_;rw[g7];exact sH _ _
 obtain⟨w1,W,_⟩:=AQ (d[i] / 2^K) K (d[i]%2^K) R M L;have X:d[i]%2^K<=d[i]:=Nat.mod_le _ _;clear o c2 hP J L;generalize d[i]=x at *;generalize x / 2^K=q,x%2^K=m at *;rw[O.out]at W;generalize q*2^K=y at *;have w3:IntKind.i64.wrap (m:Int)=(m:Int):=aA _ ω;have i1:(0:Int)<=i:=ω
 have i2:(i:Int)<d.length:=ω
 have k0:¬(K:Int)<0:=ω
 clear O M X Q;go_in;go_wp2;go_quiet (fail);go_wp2;go_ret;exact⟨rfl,Qt.drewN _ _⟩
def QK(g base:Nat)(d:List Nat)(w:World)(h:nZ w g base d)(A:∀x∈d,x<=20000)(Z:d.length<=20000):Calls prog 190 #[.pointer (some ⟨g,0,none⟩)] w λe w'=>∃v,e=.returned v/\Ow w' w.heap.size eJ v d/\Fr w w':=by
 have D:=ad (Fy g base d w h);have K:=ad (λi (m:i<d.length) W (o:Fr w W)=>Mp g base i d W (h.fr o) m (A _ (co m)));have L:Hid (∀i (m:i<d.length),d.take (i+1)=d.take i++[d[i]]):=λi m=>ea m;have M:Hid (∀i,(d.take i).length<=20000):=λi=>by rw[aP];omega
 clear h A;go_in;go_wp2_with fail;apply D.z;rintro e w1 ⟨rfl,rfl⟩;clear D;go_wp2;go_loopw [3,7] (λO q wr=>∃i:Nat,i<=d.length/\q=N i/\Ow wr w.heap.size eJ O (d.take i)/\Fr w wr) (λ_ q _=>d.length-(intOf q).toNat);·exact⟨0,ax _,rfl,by rw[oi];exact Ow.nil,Fr.refl _⟩
 ·
  obtain⟨i,m,rfl,p,o⟩:=hrel;by_cases F:i<d.length
  ·have Q:=ad (K.out i F wr o);have R:=ad (L.out i F);have U:=ad (M.out i);have i1:(i:Int)<d.length:=ω;generalize d[i]=x at *;generalize d.take i=V at *;have X:Hid (V.length+[x].length<=2147483648):=(by have:=U.out;show _<=_;simp;omega);have Y:=ad p;clear p;go_wp2_with fail;apply Q.z;rintro e w2 ⟨rfl,G⟩;have I:=Y.out.fr G.fr;have z:=o.trans G.fr;go_wp2_with (at_builtin;refine bA eJ rfl (.tmp 10) (.tmp 16) 40 rfl uAC w.heap.size rfl I [x] _ _ _ rfl rfl rfl X.out z.size ?_);intro v' w4 J;go_wp2;go_roundw;·exact⟨i+1,ω,γ,by rw[R.out];exact J.own,J.below I z (au _) z.size⟩
   ·exact μ
  ·obtain rfl:i=d.length:=ω;have ah:¬((d.length:Int)<d.length):=ω;rw[dP]at p;obtain⟨va,vc,rfl⟩:=p.shape';go_wp2;go_ret;exact⟨_,rfl,p,o⟩
