/- Lemmas for ThreeTurned. -/
import Derived.Test.YtndbpldeabnkbaaGreatDoorShelf
import Derived.Lib.ItoaNum
import Derived.Test.YtndbpldeabnkbaaGreatDoorM15
set_option linter.all false
set_option maxHeartbeats 8000000
set_option maxRecDepth 100000
namespace Go.Fk
abbrev CtQb:=@Nat.le_mul_of_pos_right
end Go.Fk
namespace Go.Proofs.YtndbpldeabnkbaaGreatDoor
open Go.RowKit Go.Fk
def II(q:Nat)(e:1<=q)(d:q<2^64):Lib.bitLen q=Nat.log2 q+1:=by
 obtain⟨a,b,c⟩:=Lib.bitLenAux_bounds 64 q d ω;show Lib.bitLenAux 64 q=_;generalize Lib.bitLenAux 64 q=k at *;obtain⟨j,rfl⟩:∃j,k=j+1:=⟨k-1,ω⟩;rw[QD q j (by simpa using b) c]
def GZ(d n:Nat)(z:d<=20000)(I:1<=n)(D:n<=d)(w:World):Calls Tryz.prog 114 #[N d,N n] w λe w'=>e=.returned (N (Nat.log2 (d / n)))/\Fr w w':=by
 have F:1<=d / n:=Nat.div_pos D ω;have J:d / n<=20000:=ay (kF _ _) z;have K:(d:Int).tdiv n=((d / n:Nat):Int):=by rw[Int.tdiv_eq_ediv_of_nonneg ω];exact(Int.natCast_ediv _ _).symm
 have L:(d:Int) / n=((d / n:Nat):Int):=(Int.natCast_ediv _ _).symm;have M:((n:Int) == 0)=false:=by simp;omega
 have O:n≠0:=ω
 have o:=II (d / n) F ω;generalize d / n=q at *;have h:=Tryz.bits_Len (q:Int) w ω ω;rw[zn,o]at h;have G:=ad h;have Q:Nat.log2 q<=14:=by refine wn ((Nat.log2_lt ω).2 ?_);omega
 clear o h;generalize Nat.log2 q=m at *;go_in;go_wp2_with fail;refine G.out.mono ?_;rintro e R ⟨rfl,rfl⟩;go_wp2;go_ret;exact⟨by first | rfl | go_num,Fr.refl _⟩
def XF(d:Nat)(h:d<=20000)(v:Value)(l:List Nat)(w:World)(o:ah w eJ v l)(m:et d 0 l=true):Calls Tryz.prog 71 #[N d,v] w λe w'=>∃v,e=.returned (.tuple #[v,.int .i64 0])/\Ow w' w.heap.size eB v (gY d l)/\Fr w w':=
 XE d h v l w o m λq W z A=>GZ d q h z (by have:=xC d l 0 (ar _) m;omega) W
def jK(d m:Nat)(r:Z0):List Nat × Nat × Nat:=
 if 8*r.length<m*Nat.log2 (d / m)then([],0,1)
 else if (ff d (Nat.log2 (d / m)) r m 0 (m * Nat.log2 (d / m)) 0 0 []).2.2 = 0 then
  (if tq r (ff d (Nat.log2 (d / m)) r m 0 (m*Nat.log2 (d / m)) 0 0 []).2.1 then((ff d (Nat.log2 (d / m)) r m 0 (m*Nat.log2 (d / m)) 0 0 []).1,((ff d (Nat.log2 (d / m)) r m 0 (m*Nat.log2 (d / m)) 0 0 []).2.1+7) / 8,0)else([],0,2))
 else([],0,(ff d (Nat.log2 (d / m)) r m 0 (m*Nat.log2 (d / m)) 0 0 []).2.2)
def Tk(d:Nat)(b:Z0):fu d b=if(az d b).2.2=0 then(if(az d b).1=0 then([],(az d b).2.1,0)else if(jK d (az d b).1 (b.drop (az d b).2.1)).2.2=0 then((jK d (az d b).1 (b.drop (az d b).2.1)).1,(az d b).2.1+(jK d (az d b).1 (b.drop (az d b).2.1)).2.1,0)else([],0,(jK d (az d b).1 (b.drop (az d b).2.1)).2.2))else([],0,(az d b).2.2):=by
 unfold fu jK;split
 ·split;·rfl
  ·split;·simp
   ·split
    ·split;·simp
     ·simp
    ·rename_i h;simp only[ae h]
 ·rfl
def Pt(a b:Nat)(d:a<9223372036854775808)(e:b<9223372036854775808):bits .or .i64 (a:Int) (b:Int)=((a ||| b:Nat):Int):=by
 have h:a ||| b<2^63:=zf ω ω;show IntKind.i64.wrap ((BitVec.ofInt 64 (a:Int) ||| BitVec.ofInt 64 (b:Int)).toNat:Int)=_;rw[BitVec.toNat_or,fV 64 a ω,fV 64 b ω,kf _ ω]
def Ei(h k x:Nat)(d:k<=14)(e:h<=10000000)(m:x<2^k):IntKind.i64.wrap ((h:Int)*2^k)=((h*2^k:Nat):Int)/\bits .or .i64 ((h*2^k:Nat):Int) (x:Int)=((h*2^k+x:Nat):Int)/\h*2^k+x<=200000000000:=by
 have o:(2:Nat)^k<=2^14:=fp ω d;have z:=bH e o;refine⟨?_,?_,ω⟩;·rw[show(h:Int)*2^k=((h*2^k:Nat):Int) by simp];exact ax _ ω
 ·rw[Pt _ _ ω ω];congr 1;rw[Nat.or_comm,xS _ _ _ m,oq]
def Tr(e w:Nat)(r:Z0)(m i a d o:Nat)(z:List Nat)(h:i<m):ff e w r (m-i) i a d o z=if(dZ r a).2.2=0 then(if(d+(dZ r a).1)*2^w+Fk.aI r (w*i) w<o then([],0,2)else if e<=(d+(dZ r a).1)*2^w+Fk.aI r (w*i) w then([],0,8)else ff e w r (m-(i+1)) (i+1) (dZ r a).2.1 (d+(dZ r a).1) ((d+(dZ r a).1)*2^w+Fk.aI r (w*i) w+1) (z++[(d+(dZ r a).1)*2^w+Fk.aI r (w*i) w]))else([],0,1):=by
 rw[show m-i=(m-(i+1))+1 by omega,ff]
def KT(l:Z0)(a:Nat)(h:¬(dZ l a).2.2=0):(dZ l a).2.2=1:=by
 unfold dZ at *
 cases d:iX l (8*l.length-a) a with
 | none=>rfl
 | some i=>rw[d]at h;exact absurd rfl h
def Qj(n a:Nat)(d:n%8=0)(h:a<=n):(n-a)%8=(8-a%8)%8/\n / 8-(n-a) / 8=(a+7) / 8:=ω
def eN.chg{w w':World}{B base n a:Nat}{l:Z0}{G:Nat->Prop}(h:eN w B base l n a)(d:ai G w w')(m:¬G B)(o:∀v,Ow w base eB v l->∀k,v.ownBlock=some k->¬G k):eN w' B base l n a:=by
 obtain⟨⟨v,z,e⟩,A,D⟩:=h;exact⟨⟨v,d.heap z m,e.chg d (o v e)⟩,A,D⟩
def eN.box{w:World}{B base n a:Nat}{l:Z0}(h:eN w B base l n a):∃d,w.heap[B]?=some (.cells d 387 (0,0)):=by obtain⟨⟨v,e,_⟩,_⟩:=h;exact⟨_,e⟩
def eN.beside{w w':World}{B base n a b g K:Nat}{l:Z0}{o z:Value}{A D:List Nat}(h:eN w B base l n a)(hP:kD w 320 b g K o z A D)(F:B≠g)(G:B<b)
  (hc:ai (λk=>k=g\/o.ownBlock=some k\/z.ownBlock=some k) w w'):eN w' B base l n a:=by
 refine h.chg hc (λe=>?_) (λv m k d e=>?_)
 ·rcases e with e | e | e;·exact F e
  ·have:=(hP.hi.lt _ e).1;omega
  ·have:=(hP.lo.lt _ e).1;omega
 ·rcases e with e | e | e;·exact m.ne_cells hP.at0 δ (by rw[d,e])
  ·rcases kL m hP.hi δ with h | h;·rw[h]at d;cases d
   ·exact h (d.trans e.symm)
  ·rcases kL m hP.lo δ with h | h;·rw[h]at d;cases d
   ·exact h (d.trans e.symm)
def Q6{w w':World}{c b g K:Nat}{u o z:Value}{A D L:List Nat}(m:Ow w c eU u L)(hP:kD w 320 b g K o z A D)(F:∀k,u.ownBlock=some k->k<b)
  (hc:ai (λk=>k=g\/o.ownBlock=some k\/z.ownBlock=some k) w w'):Ow w' c eU u L:=by
 refine m.chg hc λk d e=>?_;rcases e with e | e | e;·exact m.ne_cells hP.at0 δ (by rw[d,e])
 ·rcases kL m hP.hi δ with h | h;·rw[h]at d;cases d
  ·exact h (d.trans e.symm)
 ·have:=(hP.lo.lt _ e).1;have:=F k d;omega
def kD.beside{w w':World}{B b g K:Nat}{m o:Value}{z A:List Nat}(hP:kD w 320 b g K m o z A)(D:B≠g)(F:B<b)(d:ai (λk=>k=B) w w'):kD w' 320 b g K m o z A:=
 ⟨d.heap hP.at0 (λe=>D e.symm),hP.hi.chg d (λk h e=>by have:=(hP.hi.lt k h).1;have e:k=B:=e;omega),hP.lo.chg d (λk h e=>by have:=(hP.lo.lt k h).1;have e:k=B:=e;omega),hP.lt⟩
def Tf(o m:Nat)(hb:o<=20000)(fc:1<=m)(ct:m<=o)(v:Value)(l:Z0)(w:World)(hs:ah w eB v l)(hl:l.length<=1000000):Calls Tryz.prog 215 #[N o,N m,v] w λe w'=>∃pv,e=.returned (.tuple #[pv,N (jK o m l).2.1,.int .i64 ((jK o m l).2.2:Int)])/\Fr w w'/\((jK o m l).2.2=0->∃g base L M,pv=.pointer (some ⟨g,0,none⟩)/\w.heap.size<=g/\kD w' 320 base g (Nat.log2 (o / m)) L M ((jK o m l).1.map (· / 2^Nat.log2 (o / m))) ((jK o m l).1.map (· % 2^Nat.log2 (o / m)))):=by
 have cv:=ad (XV v l w hs hl);have c3:=ad (λW=>GZ o m hb fc ct W);have c4:=ad (λB base n k W h I fe hB=>Q5 B base n m k l W h hl I ω fe hB);have fk:=ad (λB base n a W h=>Va B base n a l W h hl);have fl:=ad (λB base n a k W h I=>JD B base n a k l W h hl I);have b2:=ad (λB base n a W h=>sp B base n a l W h hl);have HAdd:=ad (@Fc);have fm:=ad (λa ha=>Dc l a ha);have A:Hid (jK o m l=if 8*l.length<m*Nat.log2 (o / m)then([],0,1)else if(ff o (Nat.log2 (o / m)) l m 0 (m*Nat.log2 (o / m)) 0 0 []).2.2=0 then(if tq l (ff o (Nat.log2 (o / m)) l m 0 (m*Nat.log2 (o / m)) 0 0 []).2.1 then((ff o (Nat.log2 (o / m)) l m 0 (m*Nat.log2 (o / m)) 0 0 []).1,((ff o (Nat.log2 (o / m)) l m 0 (m*Nat.log2 (o / m)) 0 0 []).2.1+7) / 8,0)else([],0,2))else([],0,(ff o (Nat.log2 (o / m)) l m 0 (m*Nat.log2 (o / m)) 0 0 []).2.2)):=rfl;have fr:1<=o / m:=Nat.div_pos ct ω;have fs:o / m<=20000:=ay (kF _ _) hb;have ba:Nat.log2 (o / m)<=14:=by refine wn ((Nat.log2_lt ω).2 ?_);omega
 generalize jK o m l=R,Nat.log2 (o / m)=K at *;clear fr fs;obtain⟨a0,hm,rfl,_⟩:=hs.shape;clear hs;go_in;go_wp2_with fail;apply cv.z;rintro e w1 ⟨F,rfl,b4,b5,hn⟩;have ho:F<w1.heap.size:=by obtain⟨cs,h⟩:=b4.box;exact(aR.1 h).1
 clear cv;go_wp2_with fail;refine(c3.out w1).mono ?_;rintro e J ⟨rfl,bb⟩;have bc:(J.alloc (.cells #[N K,.slice none 0 0,.slice none 0 0] 320)).heap[J.heap.size]?=some (.cells #[N K,.slice none 0 0,.slice none 0 0] 320 (0,0)):=aB _ _ _ rfl;have b6:Fr J (J.alloc (.cells #[N K,.slice none 0 0,.slice none 0 0] 320)):=(Fr.refl J).alloc _;have c5:(J.alloc (.cells #[N K,.slice none 0 0,.slice none 0 0] 320)).heap.size=J.heap.size+1:=σ
 have c6:(J.alloc (.cells #[N K,.slice none 0 0,.slice none 0 0] 320)).cell? ⟨J.heap.size,0,none⟩=some (N K):=by rw[aK bc];rfl
 have c7:=bb.size;have f0:=b5.size;have c8:=(b4.fr bb).fr b6;clear b4 c3;go_wp2_with fail;generalize J.alloc (.cells #[N K,.slice none 0 0,.slice none 0 0] 320)=W0 at *;have b8:=(b5.trans bb).trans b6;obtain⟨g,hg⟩:∃g,g=J.heap.size:=⟨_,rfl⟩;rw[<- hg]at bc c6 c5 c7 ⊢;have cB:=ad (c4.out F w.heap.size (8*l.length) K W0 c8 ba ω ω);apply cB.z;rintro e w3 ⟨u,rfl,aj,b9⟩;clear c4 cB;by_cases bA:8*l.length<m*K;·rw[af bA]at A ⊢;have cE:=aj bA;clear aj b9;go_wp2;go_ret3;rw[A.out];exact⟨_,rfl,b8.trans cE.fr,λh=>by cases h⟩
 ·rw[ae bA]at A ⊢;obtain⟨bd,cF,bf⟩:=b9 ω;have bk:F≠g:=ω;have cG:=bf.heap bc (λe=>bk e.symm);have hq:=bf.size;have hr:g<W0.heap.size:=ω;have cL:kD w3 320 w3.heap.size g K (.slice none 0 0) (.slice none 0 0) [] []:=⟨cG,Ow.nil,Ow.nil,ω⟩;have cN:Fr w w3:=(b8.chg (λb=>b=F)).trans bf (λ_ _ h=>h) |>.fr (λk I e=>by omega);have f1:∀k,u.ownBlock=some k->k<w3.heap.size:=λk I=>(bd.lt k I).2;have bB:=ad (FP l K m);have f2:=ad (FQ l K m);obtain⟨ua,uc,hu⟩:=bd.shape';rw[bB.out]at hu;subst hu;have bL:F<w3.heap.size:=ω;have cT:w.heap.size<=g:=ω;have HS:=ad (Tr o K l m);have f6:=ad (λi=>pS l (K*i) K);clear aj b9 bc c6 c5 c7 f0 c8 b6 b8 cG bf hg b5 bb;generalize da:w3.heap.size=Y at *;have f7:=ad da;clear da;obtain⟨E0,bR⟩:∃E0,E0=ff o K l m 0 (m*K) 0 0 []:=⟨_,rfl⟩;rw[<- bR]at A;have dc:Hid (E0=ff o K l (m-0) 0 (m*K) 0 0 []):=bR;clear bR;have f9:m*K<=8*l.length:=ω;have ht:=ad f9;generalize m*K=mK at *;go_wp2;go_loopw [13,14,47] (λfC wv iv wr=>∃(i av lo a:Nat) (L M:Value) (z:List Nat),i<=m/\iv=N i/\fC=N av/\wv=.int .i64 ((lo:Int)-1)/\av<=20000/\lo<=20000/\z.length=i/\eN wr F w.heap.size l (8*l.length) a/\kD wr 320 Y g K L M (z.map (· / 2^K)) (z.map (· % 2^K))/\Ow wr W0.heap.size eU (.slice ua m uc) (nY l K m)/\Fr w wr/\Y<=wr.heap.size/\Hid (E0=ff o K l (m-i) i a av lo z)) (λ_ _ iv _=>m-(intOf iv).toNat);case atStart=>exact⟨0,0,0,mK,_,_,[],ar _,rfl,rfl,rfl,ω,ω,rfl,cF,cL,bd,cN,iT f7.out.symm,dc.out⟩
  case round=>
   clear cF cL bd cN dc;obtain⟨i,av,lo,a,L,M,z,hi,rfl,rfl,rfl,hy,h0,h3,hC,hP,hO,hf,hz,HE⟩:=hrel;by_cases di:i<m
   ·have cb:i<(nY l K m).length:=(by rw [bB.out];exact di);obtain⟨b,fP,cp,dj,c0⟩:=hO.see.cell1 (fun n:Nat=>Value.int .u16 (n:Int)) rfl i cb;rw [bB.out]at dj;cases dj;have d0:wr.cell? ⟨b,fP+i,none⟩=some (.int .u16 ((Fk.aI l (K*i) K:Nat):Int)):=(by rw [<- f2.out i cb];exact c0);have dv:=ad (HS.out i a av lo z di);have d1:=f6.out i;have h7:=fm.out a hC.le;have d2:=ad (fk.out F w.heap.size (8*l.length) a wr hC);have i1:(0:Int)<=i:=(by omega);have i2:(i:Int)<m:=(by omega);have D:Hid (E0=_):=HE.out.trans dv.out;have fQ:Hid (¬(dZ l a).2.2=0->(dZ l a).2.2=1):=fun h=>KT l a h;clear c0 HE dv cb;generalize (dZ l a).2.2=er,(dZ l a).2.1=a2,(dZ l a).1=d,Fk.aI l (K*i) K=x at *;have HC:=ad hC;have Q:=ad hP;have HO:=ad hO;clear hC hP hO;go_wp2_with fail;apply d2.z;rintro e w4 ⟨rfl,d4,a7⟩;have bn:=Q.out.beside bk bL a7;have d5 := HO.out.chg a7 (fun k I e => by
      obtain ⟨cs, h5⟩ := HC.out.box
      exact HO.out.ne_cells h5 δ (by rw[I, show k = F from e]))
    have a5:Fr w w4:=((hf.chg (λb=>b=F)).trans a7 λ_ _ h=>h).fr (λk I e=>by omega);have d6:=ay hz a7.size;clear d2 HC Q HO a7;by_cases aC:er=0
    ·rw[af aC]at D;subst aC;obtain⟨U,bs⟩:∃U,U=av+d:=⟨_,rfl⟩;have ga:U<=10000000:=ω;have w0:IntKind.i64.wrap ((av:Int)+d)=(U:Int):=(by rw[ax _ ω,bs];simp);rw[<- bs]at D;have hE:=ad bs;clear bs;obtain⟨w1,J,dE⟩:=Ei U K x ba ga d1;have HQ:=ad dE;have hG:¬(K:Int)<0:=ω;have w5:IntKind.i64.wrap (x:Int)=(x:Int):=ax _ (by have:(2:Nat)^K<=2^14:=fp ω ba;omega);have c1:w4.cell? ⟨g,0,none⟩=some (N K):=(by rw[aK bn.at0];rfl);obtain⟨G,cf⟩:∃G,G=U*2^K+x:=⟨_,rfl⟩;rw[<- cf]at J D HQ;have ch:U<=G:=(by have hp:=lh K;have:=CtQb U hp;omega);have hI:=ad cf;clear cf dE d1;generalize U*2^K=y at *;have hQ:=HQ.out;by_cases ec:G<lo;·rw[af ec]at D;have V:Hid (R=([],0,2)):=ad (by rw[A.out,D.out,ae δ]);have k1:(G:Int)<=(lo:Int)-1:=ω;clear D A ch;go_wp2;go_ret3;rw[V.out];exact⟨_,rfl,a5,λh=>by cases h⟩
     ·rw[ae ec]at D;have k1:¬(G:Int)<=(lo:Int)-1:=ω;by_cases eq:o<=G;·rw[af eq]at D;have V:Hid (R=([],0,8)):=ad (by rw[A.out,D.out,ae δ]);have k2:(o:Int)<=G:=ω;clear D A ch;go_wp2;go_ret3;rw[V.out];exact⟨_,rfl,a5,λh=>by cases h⟩
      ·rw [ae eq]at D;have k2:¬(o:Int)<=G:=(by omega);have HA:=ad (HAdd.out G K (by omega) ba Y g L M (z.map (· / 2 ^ K)) (z.map (· % 2 ^ K)) w4 bn (by rw [cy];omega) (by rw [cy];omega) d6);have ev:=ad d4;have Z:=ad bn;have e0:=ad d5;have ge:U<=20000:=(by omega);clear d4 bn d5 ch;go_wp2_with fail;apply HA.z;rintro e w5 ⟨rfl,e1,e2,aa,ab⟩;have cj:=ev.out.beside Z.out bk bL ab;have gg:=Q6 e0.out Z.out f1 ab;have gi:=ay d6 ab.size;have e3:=fun k (h:L.ownBlock=some k)=>(Z.out.hi.lt k h).1;have e4:=fun k (h:M.ownBlock=some k)=>(Z.out.lo.lt k h).1;have hJ:=Z.out.lt;have bu : Fr w w5 := ((a5.chg (fun k => k = g ∨ L.ownBlock = some k ∨ M.ownBlock = some k)).trans ab fun _ _ h => h).fr (fun k I e => by
         rcases e with e | e | e;·omega
         · have := e3 k e; omega
         · have := e4 k e; omega)
       have gs:Hid (kD w5 320 Y g K e1 e2 ((z++[G]).map (· / 2^K)) ((z++[G]).map (· % 2^K))):=(by show kD _ _ _ _ _ _ _ _ _;rw[eD,eD];exact aa);clear HA ab e3 e4 Z ev e0 aa;go_wp2;go_roundw;case rel=>exact⟨i+1,U,G+1,a2,e1,e2,z++[G],ω,γ,rfl,σ,ge,ω,by simp;omega,cj,gs.out,gg,bu,gi,D.out⟩
       case measure=>exact μ
    ·rw[ae aC]at D;have hK:¬(er:Int)=0:=ω;have V:Hid (R=([],0,er)):=(by have h1:=fQ.out aC;show _=_;rw[A.out,D.out,ae δ,h1]);clear D A;go_wp2;go_ret3;rw[V.out];exact⟨_,rfl,a5,λh=>absurd h aC⟩
   ·obtain rfl:i=m:=ω;have hL:¬((i:Int)<i):=ω;have e5:Hid (E0=(z,a,0)):=ad (by rw[HE.out,fY];rfl);rw[e5.out]at A;have g0:=hC.le;obtain⟨g1,g2⟩:=Qj (8*l.length) a ω g0;have ck:=ad (λW (h:Fr wr W)=>b2.out F w.heap.size (8*l.length) a W (hC.fr h));have cl:Hid (tq l a=decide (Fk.aI l a ((8-a%8)%8)=0)):=rfl;have hM:((((8*l.length:Nat):Int)-a).tmod 8=(((8-a%8)%8:Nat):Int)):=(by rw[zp ω];omega);have hR:((8*l.length-a) / 8)<=l.length:=ω;have hS:((((8*l.length:Nat):Int)-a) / 8=(((8*l.length-a) / 8:Nat):Int)):=ω;have g3:Hid (∀O:Nat,O=a+(8-a%8)%8->(((8*l.length:Nat):Int)-(O:Int)) / 8=(((8*l.length-a) / 8:Nat):Int)):=λO h=>ω;have e6:l.length-(8*l.length-a) / 8=(a+7) / 8:=ω;have g4:=ad e6;have HG:=ad (λW (h:Fr wr W) k I=>fl.out F w.heap.size (8*l.length) a k W (hC.fr h) I);have Q:=ad hP;have e8:a+(8-a%8)%8<=8*l.length:=ω;have e9:=ad e8;clear HE e5 g1 g2 e6 e8 hO hC hP;generalize g5:(8-a%8)%8=rs at *;have hT:rs<8:=ω;clear g5;generalize g6:8*l.length=n8 at *;have hU:=ax ((n8:Int)-a) ω;clear g6;have hV:IntKind.i64.wrap (rs:Int)=(rs:Int):=ax _ ω;generalize (n8-a) / 8=qt at *;have hW:IntKind.i64.wrap (qt:Int)=(qt:Int):=ax _ ω;have hY:IntKind.i64.wrap ((l.length:Int)-qt)=(((a+7) / 8:Nat):Int):=(by rw[ax _ ω];have:=g4.out;omega);generalize (a+7) / 8=tk at *;go_wp2_with fail;refine(ck.out wr (Fr.refl _)).mono ?_;rintro e w4 ⟨rfl,X⟩;by_cases fa:rs=0;·subst fa;have V:Hid (R=(z,tk,0)):=ad (by rw[A.out,af trivial,cl.out];rfl);have g7:=ad (ck.out w4 X.fr);clear A;go_wp2_with fail;apply g7.z;rintro e w5 ⟨rfl,bv⟩;have g8:=hf.trans (X.fr.trans bv.fr);have aa:kD w5 320 Y g K L M (z.map (· / 2^K)) (z.map (· % 2^K)):=⟨(X.fr.trans bv.fr).heap Q.out.at0,Q.out.hi.fr (X.fr.trans bv.fr),Q.out.lo.fr (X.fr.trans bv.fr),Q.out.lt⟩;go_wp2;go_ret3;rw[V.out];exact⟨_,rfl,g8,λ_=>⟨g,Y,L,M,rfl,cT,aa⟩⟩
    ·have k1:(0:Int)<rs:=ω;have aj:¬n8<a+rs:=(by have:=e9.out;omega);have bx:=ad (HG.out w4 X.fr rs ω);rw[ae aj,ae aj,ae aj]at bx;obtain⟨O,cn⟩:∃O,O=a+rs:=⟨_,rfl⟩;rw[<- cn]at bx;have cE:=g3.out O cn;have hZ:O<=n8:=(by have:=e9.out;omega);have gO:=ad (λW (h:eN W F w.heap.size l n8 O)=>b2.out F w.heap.size n8 O W h);have ia:=ax ((n8:Int)-O) ω;clear cn;have Z:=ad (show kD w4 320 Y g K L M (z.map (· / 2^K)) (z.map (· % 2^K))from⟨X.fr.heap Q.out.at0,Q.out.hi.fr X.fr,Q.out.lo.fr X.fr,Q.out.lt⟩);have a5:=hf.trans X.fr;clear HG ck b2 aj fa;generalize Fk.aI l a rs=x at *;go_wp2_with fail;apply bx.z;rintro e w5 ⟨rfl,cj,ab⟩;have aa:=Z.out.beside bk bL ab;have bu:Fr w w5:=((a5.chg (λb=>b=F)).trans ab λ_ _ h=>h).fr (λk I e=>by omega);clear bx Z ab;by_cases hx:x=0;·subst hx;have V:Hid (R=(z,tk,0)):=ad (by rw[A.out,af trivial,cl.out];rfl);have hc:=ad (gO.out w5 cj);clear A;go_wp2_with fail;apply hc.z;rintro e w6 ⟨rfl,b0⟩;have he:kD w6 320 Y g K L M (z.map (· / 2^K)) (z.map (· % 2^K)):=⟨b0.fr.heap aa.at0,aa.hi.fr b0.fr,aa.lo.fr b0.fr,aa.lt⟩;have hh:=bu.trans b0.fr;go_wp2;go_ret3;rw[V.out];exact⟨_,rfl,hh,λ_=>⟨g,Y,L,M,rfl,cT,he⟩⟩
     ·have ic:¬(x:Int)=0:=ω;have V:Hid (R=([],0,2)):=ad (by rw[A.out,af trivial,cl.out,br hx];rfl);clear A;go_wp2;go_ret3;rw[V.out];exact⟨_,rfl,bu,λh=>by cases h⟩
def RG(most:Nat)(b:Z0):(⟨0,0⟩:Cs).int b most=((az most b).1,⟨(az most b).2.1,(az most b).2.2⟩):=by
 unfold Cs.int Cs.val Cs.step;by_cases h:(az most b).2.2=0;·simp[h]
 ·have:=QT _ _ h;simp[h,this.1,this.2.1]
def NB(e m:Nat)(r:Z0)(A:r.length<=1000000)(h:(jK e m r).2.2=0):(jK e m r).2.1<=1000001:=by
 unfold jK at *;split at h;·simp at h
 ·rename_i o;rw[ae o];split at h
  ·rename_i d;rw[af d];have D:=Hg e _ r m 0 _ 0 0 [] ω d;split at h;·rename_i z;rw[af z];show(_+7) / 8<=_;omega
   ·simp at h
  ·rename_i d;exact absurd h d
def rk(w:World)(g base:Nat)(d:List Nat):Prop:=∃K e h,K<=14/\kD w 320 base g K e h (d.map (· / 2^K)) (d.map (· % 2^K))
def rk.fr{w w':World}{g base:Nat}{e:List Nat}(h:rk w g base e)(d:Fr w w'):rk w' g base e:=by
 obtain⟨K,m,o,z,hP⟩:=h;exact⟨K,m,o,z,d.heap hP.at0,hP.hi.fr d,hP.lo.fr d,hP.lt⟩
def XG(d:Nat)(hb:d<=20000)(v:Value)(b:Z0)(w:World)(K:ah w eB v b)(Z:b.length<=1000000):Calls Tryz.prog 174 #[N d,v] w λe w'=>∃pv,e=.returned (.tuple #[pv,N (fu d b).2.1,.int .i64 ((fu d b).2.2:Int)])/\Fr w w'/\((fu d b).2.2=0->∃g base,pv=.pointer (some ⟨g,0,none⟩)/\w.heap.size<=g/\rk w' g base (fu d b).1):=by
 have L:=ad (qm v b w K Z);have U:=ad (λB base W (h:aD W 224 B base b 0 0)=>sn d ω B base ⟨0,0⟩ b W h Z);rw[RG]at U;have ak:=ad (λB base n V W h=>ld B base n V b W h);have ap:=ad (λB base n V W h=>vX B base n V b W h);have a4:=ad (λm v r W A h2 K Z=>Tf d m hb A h2 v r W K Z);have z:Hid (fu d b=_):=Tk d b;have av:=nz d b;have HS:=ad K;obtain⟨a0,cc,rfl,_⟩:=K.shape;clear K;generalize fu d b=R at *;have b1:¬(d:Int)<0:=ω
 have b2:¬(20000:Int)<d:=ω
 by_cases J:(az d b).2.2=0
 ·rw[af J]at z;rw[J]at U;obtain⟨bv,a1,a5⟩:=av J;clear J av;generalize (az d b).2.1=at_,(az d b).1=n at *;by_cases hn:n=0;·rw[af hn]at z;subst hn;go_in;go_wp2_with fail;apply L.z;rintro e D ⟨B,rfl,hC,X,hB⟩;have a7:B<D.heap.size:=(by obtain⟨⟨v,A,_⟩,_⟩:=hC;exact(aR.1 A).1);have M:=ad (U.out B _ D hC);clear L;go_wp2_with fail;apply M.z;rintro e o ⟨rfl,F,Y⟩;have G:Fr w o:=((X.chg (λb=>b=B)).trans Y λ_ _ h=>h).fr (λk hk e=>by omega);have O:=ad (ak.out B _ _ _ o F);go_wp2_with fail;apply O.z;rintro e w3 ⟨rfl,rfl⟩;have bb:Fr o (o.alloc (.cells #[.int .i64 0,.slice none 0 0,.slice none 0 0] 320)):=(Fr.refl o).alloc _;have bx:(o.alloc (.cells #[.int .i64 0,.slice none 0 0,.slice none 0 0] 320)).heap[o.heap.size]?=some (.cells #[.int .i64 0,.slice none 0 0,.slice none 0 0] 320 (0,0)):=aB _ _ _ rfl;have ab:=ad (ap.out B _ _ _ _ (F.fr bb));go_wp2_with fail;generalize o.alloc (.cells #[.int .i64 0,.slice none 0 0,.slice none 0 0] 320)=w4 at *;apply ab.z;rintro e w5 ⟨rfl,rfl⟩;have ac:=G.trans bb;have bc:=G.size;go_wp2;go_ret3;rw[z.out];exact⟨_,rfl,ac,λ_=>⟨o.heap.size,o.heap.size+1,rfl,bc,0,_,_,ω,bx,Ow.nil,Ow.nil,ω⟩⟩
  ·rw[ae hn]at z;have n1:¬(n:Int)=0:=ω;obtain⟨f1,f2,cm,bd⟩:=lK eB 30 Tryz.underlying30 HS.out at_ a1;have b3:=ad bd;have b4:(b.drop at_).length=b.length-at_:=aN ..;have bf:=ad (λW (hf:Fr w W)=>a4.out n _ (b.drop at_) W ω a5 (b3.out.fr hf) ω);have b6:=ad a1;have b7:Hid ((jK d n (b.drop at_)).2.2=0->(jK d n (b.drop at_)).2.1<=1000001):=λh=>NB d n _ ω h;have b8:Hid (Nat.log2 (d / n)<=14):=(by have cn:1<=d / n:=Nat.div_pos a5 ω;have cp:d / n<=20000:=ay (kF _ _) hb;exact wn ((Nat.log2_lt ω).2 ω));clear bd b4 a4 hn bv a1;generalize jK d n (b.drop at_)=Q,b.length-at_=bl at *;go_in;go_wp2_with fail;apply L.z;rintro e D ⟨B,rfl,hC,X,hB⟩;have a7:B<D.heap.size:=(by obtain⟨⟨v,A,_⟩,_⟩:=hC;exact(aR.1 A).1);have M:=ad (U.out B _ D hC);clear L;go_wp2_with fail;apply M.z;rintro e o ⟨rfl,F,Y⟩;have G:Fr w o:=((X.chg (λb=>b=B)).trans Y λ_ _ h=>h).fr (λk hk e=>by omega);have O:=ad (ak.out B _ _ _ o F);go_wp2_with fail;apply O.z;rintro e w3 ⟨rfl,rfl⟩;have ab:=ad (ap.out B _ _ _ _ F);go_wp2_with fail;apply ab.z;rintro e w5 ⟨rfl,rfl⟩;have bk:=ad (bf.out o G);go_wp2_with fail;apply bk.z;rintro e w6 ⟨pv,rfl,bm,a2⟩;have bA:=ad (ap.out B _ _ _ _ (F.fr bm));have ac:=G.trans bm;have bc:=G.size;clear ab bk bf O M;by_cases I:Q.2.2=0;·rw[af I]at z;obtain⟨g,base,hv,lv,rfl,cs,hP⟩:=a2 I;have HL:Hid (rk w6 g base Q.1):=⟨_,hv,lv,b8.out,hP⟩;have ct:=b7.out I;rw[I]at *;clear a2 hP I;generalize Q.2.1=tk at *;have cu:IntKind.i64.wrap ((at_:Int)+tk)=((at_+tk:Nat):Int):=(by rw[ax _ (by have:=b6.out;omega)];simp);go_wp2_with fail;apply bA.z;rintro e w7 ⟨rfl,rfl⟩;go_wp2;go_ret3;rw[z.out];exact⟨_,rfl,ac,λ_=>⟨g,base,rfl,ω,HL.out⟩⟩
   ·rw[ae I]at z;have c0:¬(Q.2.2:Int)=0:=ω;have HQ:=ad I;clear a2 I;generalize Q.2.2=V at *;go_wp2;go_ret3;rw[z.out];exact⟨_,rfl,ac,λh=>absurd h HQ.out⟩
 ·rw[ae J]at z;have A:¬((az d b).2.2:Int)=0:=ω;have H0:=ad J;clear av J;generalize (az d b).2.1=at_,(az d b).1=n,(az d b).2.2=V at *;go_in;go_wp2_with fail;apply L.z;rintro e D ⟨B,rfl,hC,X,hB⟩;have a7:B<D.heap.size:=(by obtain⟨⟨v,A,_⟩,_⟩:=hC;exact(aR.1 A).1);have M:=ad (U.out B _ D hC);clear L;go_wp2_with fail;apply M.z;rintro e o ⟨rfl,F,Y⟩;have G:Fr w o:=((X.chg (λb=>b=B)).trans Y λ_ _ h=>h).fr (λk hk e=>by omega);have O:=ad (ak.out B _ _ _ o F);go_wp2_with fail;apply O.z;rintro e w3 ⟨rfl,rfl⟩;go_wp2;go_ret3;rw[z.out];exact⟨_,rfl,G,λh=>absurd h H0.out⟩
def JH(g base:Nat)(d:List Nat)(w:World)(h:rk w g base d):Calls Tryz.prog 175 #[.pointer (some ⟨g,0,none⟩)] w λe w'=>e=.returned (N d.length)/\w=w':=by
 obtain⟨K,A,D,F,hP⟩:=h;obtain⟨o,z,m⟩:=hP.hi.shape';rw[cy]at m;subst m;have G:w.cell? ⟨g,1,none⟩=some (.slice o d.length z):=by rw[aK hP.at0];rfl
 clear hP;go_in;go_wp2;go_ret;exact⟨rfl,rfl⟩
def Tg(g base i:Nat)(d:List Nat)(w:World)(h:rk w g base d)(z:i<d.length)(R:d[i]<=20000):Calls Tryz.prog 216 #[.pointer (some ⟨g,0,none⟩),N i] w λe w'=>e=.returned (N d[i])/\Qt w w':=by
 obtain⟨K,Y,Z,U,hP⟩:=h;obtain⟨A,D,p1,F,o⟩:=hP.hi.see.cell1 N rfl i (by rw[cy];exact z);obtain⟨G,I,p2,J,c2⟩:=hP.lo.see.cell1 (λn:Nat=>Value.int .u16 (n:Int)) rfl i (by rw[cy];exact z);rw[cy]at F J;rw[fK]at o c2;subst F J;have d0:w.cell? ⟨g,0,none⟩=some (N K):=by rw[aK hP.at0];rfl
 have d1:w.cell? ⟨g,1,none⟩=some (.slice (some ⟨A,D,none⟩) d.length p1):=by rw[aK hP.at0];rfl
 have d2:w.cell? ⟨g,2,none⟩=some (.slice (some ⟨G,I,none⟩) d.length p2):=by rw[aK hP.at0];rfl
 have f1:w.cell? ⟨A,D+i,none⟩=some (N (d[i] / 2^K)):=o;have f2:w.cell? ⟨G,I+i,none⟩=some (.int .u16 ((d[i]%2^K:Nat):Int)):=c2;have L:=lh K;have M:d[i]%2^K<2^K:=jB _ L;have O:d[i] / 2^K<=10000000:=by have:=kF d[i] (2^K);omega
 have Q:Hid (d[i] / 2^K*2^K+d[i]%2^K=d[i]):=by show _=_;rw[dX];exact ul _ _
 obtain⟨w1,V,_⟩:=Ei (d[i] / 2^K) K (d[i]%2^K) U O M;have X:d[i]%2^K<=d[i]:=Nat.mod_le _ _;clear o c2 hP L M;generalize d[i]=x at *;generalize x / 2^K=q,x%2^K=m at *;rw[Q.out]at V;generalize q*2^K=y at *;have w3:IntKind.i64.wrap (m:Int)=(m:Int):=ax _ ω;have i1:(0:Int)<=i:=ω
 have i2:(i:Int)<d.length:=ω
 have k0:¬(K:Int)<0:=ω
 clear Q O X R;go_in;go_wp2;go_quiet (fail);go_wp2;go_ret;exact⟨rfl,Qt.drewN _ _⟩
def XH(g base:Nat)(d:List Nat)(w:World)(h:rk w g base d)(F:∀x∈d,x<=20000)(hn:d.length<=20000):Calls Tryz.prog 176 #[.pointer (some ⟨g,0,none⟩)] w λe w'=>∃v,e=.returned v/\Ow w' w.heap.size eJ v d/\Fr w w':=by
 have G:=ad (JH g base d w h);have M:=ad (λi (m:i<d.length) W (o:Fr w W)=>Tg g base i d W (h.fr o) m (F _ (bJ m)));have O:Hid (∀i (m:i<d.length),d.take (i+1)=d.take i++[d[i]]):=λi m=>f8 m;have Q:Hid (∀i,(d.take i).length<=20000):=λi=>by rw[aA];omega
 clear h F;go_in;go_wp2_with fail;apply G.z;rintro e w1 ⟨rfl,rfl⟩;clear G;go_wp2;go_loopw [3,7] (λR A wr=>∃i:Nat,i<=d.length/\A=N i/\Ow wr w.heap.size eJ R (d.take i)/\Fr w wr) (λ_ A _=>d.length-(intOf A).toNat);case atStart=>exact⟨0,ar _,rfl,by rw[lj];exact Ow.nil,Fr.refl _⟩
 case round=>
  obtain⟨i,m,rfl,z,o⟩:=hrel;by_cases I:i<d.length
  ·have U:=ad (M.out i I wr o);have V:=ad (O.out i I);have X:=ad (Q.out i);have i1:(i:Int)<d.length:=ω;generalize d[i]=x at *;generalize d.take i=Y at *;have Z:Hid (Y.length+[x].length<=2147483648):=(by have:=X.out;show _<=_;simp;omega);have HO:=ad z;clear z;go_wp2_with fail;apply U.z;rintro e w2 ⟨rfl,J⟩;have K:=HO.out.fr J.fr;have D:=o.trans J.fr;go_wp2_with (at_builtin;refine cW eJ rfl (.tmp 10) (.tmp 16) 56 rfl Tryz.underlying56 w.heap.size rfl K [x] _ _ _ rfl rfl rfl Z.out D.size ?_);intro v' w4 L;go_wp2;go_roundw;case rel=>exact⟨i+1,ω,γ,by rw[V.out];exact L.own,L.below K D (al _) D.size⟩
   case measure=>exact μ
  ·obtain rfl:i=d.length:=ω;have ap:¬((d.length:Int)<d.length):=ω;rw[dY]at z;obtain⟨va,vc,rfl⟩:=z.shape';go_wp2;go_ret;exact⟨_,rfl,z,o⟩
