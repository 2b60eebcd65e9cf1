/- Parts of the proof of ArchEnds: E5 Ci Cj. -/
import Derived.Test.YtfpijnhhdfoohaaGreatDoorM12
import Derived.Test.YtfpijnhhdfoohaaGreatDoorShelf
import Derived.Lib.ItoaNum
import Derived.Test.YtfpijnhhdfoohaaGreatDoorM10
set_option linter.unusedVariables false
set_option linter.unusedSectionVars false
set_option linter.unusedSimpArgs false
set_option maxHeartbeats 8000000
set_option maxRecDepth 100000
namespace Go.Proofs.YtfpijnhhdfoohaaGreatDoor
open Go.RowKit Go.Fk
theorem Ei(q:Nat)(e:1<=q)(d:q<2 ^ 64):Lib.bitLen q=Nat.log2 q+1:=by
 obtain⟨a,b,c⟩:=Lib.bitLenAux_bounds 64 q d (by omega);show Lib.bitLenAux 64 q=_;generalize Lib.bitLenAux 64 q=k at *;obtain⟨j,rfl⟩:∃ j,k=j+1:=⟨k - 1,by omega⟩;rw [LZ q j (by simpa using b) c]
theorem NR(d n:Nat)(z:d<=20000)(I:1<=n)(B:n<=d)(w:World) :
  Calls Tryz.prog 147 #[N d,N n] w fun e D=>e=.returned (N (Nat.log2 (d / n)))/\Fr w D:=by
 have F:1<=d / n:=Nat.div_pos B (by omega);have J:d / n<=20000:=az (lR _ _) z;have K:(d:Int).tdiv n=((d / n:Nat):Int):=by rw [Int.tdiv_eq_ediv_of_nonneg (by omega)];exact(Int.natCast_ediv _ _).symm
 have L:(d:Int) / n=((d / n:Nat):Int):=(Int.natCast_ediv _ _).symm;have M:((n:Int) == 0)=false:=by simp;omega
 have O:n≠0:=by omega
 have o:=Ei (d / n) F (by omega);generalize d / n=q at *;have h:=Tryz.bits_Len (q:Int) w (by omega) (by omega);rw [Int.toNat_natCast,o]at h;have G:=ad h;have Q:Nat.log2 q<=14:=by refine vt ((Nat.log2_lt (by omega)).2 ?_);omega
 clear o h;generalize Nat.log2 q=m at *;go_enter Tryz.func147, Tryz.ntmps147;go_wp2_with fail;refine G.out.mono ?_;rintro e R ⟨rfl,rfl⟩;go_wp2_with fail;go_ret;exact⟨by first | rfl | go_num,Fr.refl _⟩
def iz(d m:Nat)(r:List UInt8):List Nat × Nat × Nat:=
 if 8*r.length<m*Nat.log2 (d / m)then([],0,1)
 else if (dI d (Nat.log2 (d / m)) r m 0 (m * Nat.log2 (d / m)) 0 0 []).2.2 = 0 then
  (if uj r (dI d (Nat.log2 (d / m)) r m 0 (m*Nat.log2 (d / m)) 0 0 []).2.1 then((dI d (Nat.log2 (d / m)) r m 0 (m*Nat.log2 (d / m)) 0 0 []).1,((dI d (Nat.log2 (d / m)) r m 0 (m*Nat.log2 (d / m)) 0 0 []).2.1+7) / 8,0)else([],0,2))
 else([],0,(dI d (Nat.log2 (d / m)) r m 0 (m*Nat.log2 (d / m)) 0 0 []).2.2)
theorem NZ(d:Nat)(b:List UInt8):dX d b=if(ay d b).2.2=0 then(if(ay d b).1=0 then([],(ay d b).2.1,0)else if(iz d (ay d b).1 (b.drop (ay d b).2.1)).2.2=0 then((iz d (ay d b).1 (b.drop (ay d b).2.1)).1,(ay d b).2.1+(iz d (ay d b).1 (b.drop (ay d b).2.1)).2.1,0)else([],0,(iz d (ay d b).1 (b.drop (ay d b).2.1)).2.2))else([],0,(ay d b).2.2):=by
 unfold dX iz;split
 · split;· rfl
   · split;· simp
     · split
       · split;· simp
         · simp
       · rename_i h;simp only [ae h]
 · rfl
theorem K6(a b:Nat)(d:a<9223372036854775808)(e:b<9223372036854775808):bits .or .i64 (a:Int) (b:Int)=((a ||| b:Nat):Int):=by
 have h:a ||| b<2 ^ 63:=vo (by omega) (by omega);show IntKind.i64.wrap ((BitVec.ofInt 64 (a:Int) ||| BitVec.ofInt 64 (b:Int)).toNat:Int)=_;rw [BitVec.toNat_or,ek 64 a (by omega),ek 64 b (by omega),iJ _ (by omega)]
theorem AQ(h k x:Nat)(d:k<=14)(e:h<=10000000)(m:x<2 ^ k):IntKind.i64.wrap ((h:Int)*2 ^ k)=((h*2 ^ k:Nat):Int)/\bits .or .i64 ((h*2 ^ k:Nat):Int) (x:Int)=((h*2 ^ k+x:Nat):Int)/\h*2 ^ k+x<=200000000000:=by
 have o:(2:Nat) ^ k<=2 ^ 14:=ep (by omega) d;have q:h*2 ^ k<=10000000*16384:=bJ e o;refine⟨?_,?_,by omega⟩;· rw [show(h:Int)*2 ^ k=((h*2 ^ k:Nat):Int) by simp];exact aw _ (by omega)
 · rw [K6 _ _ (by omega) (by omega)];congr 1;rw [Nat.or_comm,ut _ _ _ m,Nat.add_comm]
theorem Od(e w:Nat)(r:List UInt8)(m i a d o:Nat)(q:List Nat)(h:i<m):dI e w r (m - i) i a d o q=if(du r a).2.2=0 then(if(d+(du r a).1)*2 ^ w+Fk.aI r (w*i) w<o then([],0,2)else if e<=(d+(du r a).1)*2 ^ w+Fk.aI r (w*i) w then([],0,8)else dI e w r (m - (i+1)) (i+1) (du r a).2.1 (d+(du r a).1) ((d+(du r a).1)*2 ^ w+Fk.aI r (w*i) w+1) (q++[(d+(du r a).1)*2 ^ w+Fk.aI r (w*i) w]))else([],0,1):=by
 rw [show m - i=(m - (i+1))+1 by omega,dI]
theorem Gg(l:List UInt8)(a:Nat)(h:¬(du l a).2.2=0):(du l a).2.2=1:=by
 unfold du at *
 cases d:ir l (8*l.length - a) a with
 | none=>rfl
 | some i=>rw [d]at h;exact absurd rfl h
theorem L6(n a:Nat)(d:n % 8=0)(h:a<=n):(n - a) % 8=(8 - a % 8) % 8/\n / 8 - (n - a) / 8=(a+7) / 8:=by omega
theorem dC.chg{w d:World}{B base n a:Nat}{l:List UInt8}{G:Nat->Prop}(h:dC w B base l n a)(e:ah G w d)(o:¬G B)(q:∀ v,Ow w base eB v l->∀ k,v.ownBlock=some k->¬G k):dC d B base l n a:=by
 obtain⟨⟨v,z,m⟩,A,D⟩:=h;exact⟨⟨v,e.heap z o,m.chg e (q v m)⟩,A,D⟩
theorem dC.box{w:World}{B base n a:Nat}{l:List UInt8}(h:dC w B base l n a):∃ d,w.heap[B]?=some (.cells d 400 (0,0)):=by obtain⟨⟨v,e,_⟩,_⟩:=h;exact⟨_,e⟩
theorem dC.beside{w o:World}{B base n a b g K:Nat}{l:List UInt8}{q z:Value}{A D:List Nat}(h:dC w B base l n a)(hP:iW w 348 b g K q z A D)(F:B≠g)(G:B<b)
  (hc:ah (fun k=>k=g\/q.ownBlock=some k\/z.ownBlock=some k) w o):dC o B base l n a:=by
 refine h.chg hc (fun e=>?_) (fun v m k d e=>?_)
 · rcases e with e | e | e;· exact F e
   · have:=(hP.hi.lt _ e).1;omega
   · have:=(hP.lo.lt _ e).1;omega
 · rcases e with e | e | e;· exact m.ne_cells hP.at0 (by decide) (by rw [d,e])
   · rcases jg m hP.hi (by decide)with h | h;· rw [h]at d;cases d
     · exact h (d.trans e.symm)
   · rcases jg m hP.lo (by decide)with h | h;· rw [h]at d;cases d
     · exact h (d.trans e.symm)
theorem LU{w o:World}{c b g K:Nat}{u q z:Value}{A B L:List Nat}(m:Ow w c eU u L)(hP:iW w 348 b g K q z A B)(D:∀ k,u.ownBlock=some k->k<b)
  (hc:ah (fun k=>k=g\/q.ownBlock=some k\/z.ownBlock=some k) w o):Ow o c eU u L:=by
 refine m.chg hc fun k d e=>?_;rcases e with e | e | e;· exact m.ne_cells hP.at0 (by decide) (by rw [d,e])
 · rcases jg m hP.hi (by decide)with h | h;· rw [h]at d;cases d
   · exact h (d.trans e.symm)
 · have:=(hP.lo.lt _ e).1;have:=D k d;omega
theorem iW.beside{w m:World}{B b g K:Nat}{o q:Value}{z A:List Nat}(hP:iW w 348 b g K o q z A)(D:B≠g)(F:B<b)(d:ah (fun k=>k=B) w m):iW m 348 b g K o q z A:=
 ⟨d.heap hP.at0 (fun e=>D e.symm),hP.hi.chg d (fun k h e=>by have:=(hP.hi.lt k h).1;have e:k=B:=e;omega),hP.lo.chg d (fun k h e=>by have:=(hP.lo.lt k h).1;have e:k=B:=e;omega),hP.lt⟩
theorem NT (o m : Nat) (hb : o ≤ 20000) (fb : 1 ≤ m) (cv : m ≤ o) (v : Value) (l : List UInt8) (w : World) (hs : ai w eB v l) (hl : l.length ≤ 1000000) :
    Calls Tryz.prog 238 #[N o,N m,v] w fun e w'=>∃ pv,e=.returned (.tuple #[pv,N (iz o m l).2.1,.int .i64 ((iz o m l).2.2:Int)])/\Fr w w'/\((iz o m l).2.2=0->∃ g base J L,pv=.pointer (some ⟨g,0,none⟩)/\w.heap.size<=g/\iW w' 348 base g (Nat.log2 (o / m)) J L ((iz o m l).1.map (· / 2 ^ Nat.log2 (o / m))) ((iz o m l).1.map (· % 2 ^ Nat.log2 (o / m)))):=by
  have c5:=ad (SA v l w hs hl);have c6:=ad (fun W=>NR o m hb fb cv W);have c7:=ad (fun B base n k W h G fc hB=>LS B base n m k l W h hl G (by omega) fc hB);have fh:=ad (fun B base n a W h=>PM B base n a l W h hl);have fk:=ad (fun B base n a k W h G=>EL B base n a k l W h hl G);have b3:=ad (fun B base n a W h=>pZ B base n a l W h hl);have HAdd:=ad (@Kv);have fl:=ad (fun a ha=>zY l a ha);have z:Hid (iz o m l=if 8*l.length<m*Nat.log2 (o / m)then([],0,1)else if(dI o (Nat.log2 (o / m)) l m 0 (m*Nat.log2 (o / m)) 0 0 []).2.2=0 then(if uj l (dI o (Nat.log2 (o / m)) l m 0 (m*Nat.log2 (o / m)) 0 0 []).2.1 then((dI o (Nat.log2 (o / m)) l m 0 (m*Nat.log2 (o / m)) 0 0 []).1,((dI o (Nat.log2 (o / m)) l m 0 (m*Nat.log2 (o / m)) 0 0 []).2.1+7) / 8,0)else([],0,2))else([],0,(dI o (Nat.log2 (o / m)) l m 0 (m*Nat.log2 (o / m)) 0 0 []).2.2)):=rfl;have fn:1<=o / m:=Nat.div_pos cv (by omega);have fr:o / m<=20000:=az (lR _ _) hb;have ba:Nat.log2 (o / m)<=14:=(by refine vt ((Nat.log2_lt (by omega)).2 ?_);omega);generalize Nat.log2 (o / m)=K at *;generalize iz o m l=R at *;clear fn fr;obtain⟨a0,hn,rfl,_⟩:=hs.shape;clear hs;go_enter Tryz.func238, Tryz.ntmps238;go_wp2_with fail;refine(c5.out).mono ?_;rintro e w1 ⟨D,rfl,b5,b6,ho⟩;have hq:D<w1.heap.size:=(by obtain⟨cs,h⟩:=b5.box;exact(aM.1 h).1);clear c5;go_wp2_with fail;refine(c6.out w1).mono ?_;rintro e I ⟨rfl,bb⟩;have bc:(I.alloc (.cells #[N K,.slice none 0 0,.slice none 0 0] 348)).heap[I.heap.size]?=some (.cells #[N K,.slice none 0 0,.slice none 0 0] 348 (0,0)):=a9 _ _ _ rfl;have b7:Fr I (I.alloc (.cells #[N K,.slice none 0 0,.slice none 0 0] 348)):=(Fr.refl I).alloc _;have c8:(I.alloc (.cells #[N K,.slice none 0 0,.slice none 0 0] 348)).heap.size=I.heap.size+1:=(by simp);have c9:(I.alloc (.cells #[N K,.slice none 0 0,.slice none 0 0] 348)).cell? ⟨I.heap.size,0,none⟩=some (N K):=(by rw [aA bc];rfl);have cA:=bb.size;have f0:=b6.size;have cB:=(b5.fr bb).fr b7;clear b5 c6;go_wp2_with fail;generalize I.alloc (.cells #[N K,.slice none 0 0,.slice none 0 0] 348)=W0 at *;have b9:=(b6.trans bb).trans b7;obtain⟨g,hg⟩:∃ g,g=I.heap.size:=⟨_,rfl⟩;rw [<- hg]at bc c9 c8 cA ⊢;have cF:=ad (c7.out D w.heap.size (8*l.length) K W0 cB ba (by omega) (by omega));refine(cF.out).mono ?_;rintro e w3 ⟨u,rfl,aj,bA⟩;clear c7 cF;by_cases bB:8*l.length<m*K;· rw [ag bB]at z ⊢;have cG:=aj bB;clear aj bA;go_wp2_with fail;go_ret3;rw [z.out];exact⟨_,rfl,b9.trans cG.fr,fun h=>by cases h⟩
  · rw [ae bB]at z ⊢;obtain⟨bd,cL,bf⟩:=bA (by omega);have bk:D≠g:=(by omega);have cN:=bf.heap bc (fun e=>bk e.symm);have hr:=bf.size;have ht:g<W0.heap.size:=(by omega);have cR:iW w3 348 w3.heap.size g K (.slice none 0 0) (.slice none 0 0) [] []:=⟨cN,Ow.nil,Ow.nil,by omega⟩;have cT:Fr w w3:=(b9.chg (fun b=>b=D)).trans bf (fun _ _ h=>h) |>.fr (fun k G e=>by omega);have f1:∀ k,u.ownBlock=some k->k<w3.heap.size:=fun k G=>(bd.lt k G).2;have bL:=ad (Co l K m);have f2:=ad (Cp l K m);obtain⟨ua,uc,hu⟩:=bd.shape';rw [bL.out]at hu;subst hu;have bR:D<w3.heap.size:=(by omega);have dc:w.heap.size<=g:=(by omega);have HS:=ad (Od o K l m);have f6:=ad (fun i=>nD l (K*i) K);clear aj bA bc c9 c8 cA f0 cB b7 b9 cN bf hg b6 bb;generalize di:w3.heap.size=X at *;have f7:=ad di;clear di;obtain⟨E0,bT⟩:∃ E0,E0=dI o K l m 0 (m*K) 0 0 []:=⟨_,rfl⟩;rw [<- bT]at z;have dj:Hid (E0=dI o K l (m - 0) 0 (m*K) 0 0 []):=bT;clear bT;have f9:m*K<=8*l.length:=(by omega);have hw:=ad f9;generalize m*K=mK at *;go_wp2_with fail;go_loopw [13,14,47] (fun fC wv iv wr=>∃ (i av lo a:Nat) (J L:Value) (q:List Nat),i<=m/\iv=N i/\fC=N av/\wv=.int .i64 ((lo:Int) - 1)/\av<=20000/\lo<=20000/\q.length=i/\dC wr D w.heap.size l (8*l.length) a/\iW wr 348 X g K J L (q.map (· / 2 ^ K)) (q.map (· % 2 ^ K))/\Ow wr W0.heap.size eU (.slice ua m uc) (mo l K m)/\Fr w wr/\X<=wr.heap.size/\Hid (E0=dI o K l (m - i) i a av lo q)) (fun _ _ iv _=>m - (intOf iv).toNat);case atStart=>exact⟨0,0,0,mK,_,_,[],an _,rfl,rfl,rfl,by omega,by omega,rfl,cL,cR,bd,cT,fO f7.out.symm,dj.out⟩
    case round=>
      clear cL cR bd cT dj;obtain⟨i,av,lo,a,J,L,q,hi,rfl,rfl,rfl,h0,h3,h4,hC,hP,hO,hf,hz,HE⟩:=hrel;by_cases dr:i<m
      · have cc:i<(mo l K m).length:=(by rw [bL.out];exact dr);obtain⟨b,fP,cp,ds,c0⟩:=hO.see.cell1 (fun n:Nat=>Value.int .u16 (n:Int)) rfl i cc;rw [bL.out]at ds;cases ds;have d0:wr.cell? ⟨b,fP+i,none⟩=some (.int .u16 ((Fk.aI l (K*i) K:Nat):Int)):=(by rw [<- f2.out i cc];exact c0);have d1:=ad (HS.out i a av lo q dr);have d2:=f6.out i;have h8:=fl.out a hC.le;have d3:=ad (fh.out D w.heap.size (8*l.length) a wr hC);have i1:(0:Int)<=i:=(by omega);have i2:(i:Int)<m:=(by omega);have A:Hid (E0=_):=HE.out.trans d1.out;have fQ:Hid (¬(du l a).2.2=0->(du l a).2.2=1):=fun h=>Gg l a h;clear c0 HE d1 cc;generalize Fk.aI l (K*i) K=x at *;generalize (du l a).1=d at *;generalize (du l a).2.1=a2 at *;generalize (du l a).2.2=er at *;have HC:=ad hC;have O:=ad hP;have HO:=ad hO;clear hC hP hO;go_wp2_with fail;refine(d3.out).mono ?_;rintro e w4 ⟨rfl,d5,a7⟩;have bs:=O.out.beside bk bR a7;have d6 := HO.out.chg a7 (fun k G e => by
          obtain ⟨cs, h5⟩ := HC.out.box
          exact HO.out.ne_cells h5 (by decide) (by rw [G, show k = D from e]))
        have a5:Fr w w4:=((hf.chg (fun b=>b=D)).trans a7 fun _ _ h=>h).fr (fun k G e=>by omega);have d7:=az hz a7.size;clear d3 HC O HO a7;by_cases aC:er=0
        · rw [ag aC]at A;subst aC;obtain⟨Q,bu⟩:∃ Q,Q=av+d:=⟨_,rfl⟩;have gb:Q<=10000000:=(by omega);have w0:IntKind.i64.wrap ((av:Int)+d)=(Q:Int):=(by rw [aw _ (by omega),bu];simp);rw [<- bu]at A;have hG:=ad bu;clear bu;obtain⟨w1,I,d8⟩:=AQ Q K x ba gb d2;have HQ:=ad d8;have hH:¬(K:Int)<0:=(by omega);have w5:IntKind.i64.wrap (x:Int)=(x:Int):=aw _ (by have:(2:Nat) ^ K<=2 ^ 14:=ep (by omega) ba;omega);have c1:w4.cell? ⟨g,0,none⟩=some (N K):=(by rw [aA bs.at0];rfl);obtain⟨F,cj⟩:∃ F,F=Q*2 ^ K+x:=⟨_,rfl⟩;rw [<- cj]at I A HQ;have ck:Q<=F:=(by have hp:=mC K;have:=Nat.le_mul_of_pos_right Q hp;omega);have hJ:=ad cj;clear cj d8 d2;generalize Q*2 ^ K=y at *;have hQ:=HQ.out;by_cases dE:F<lo;· rw [ag dE]at A;have U:Hid (R=([],0,2)):=(by show _=_;rw [z.out,A.out,ae (by decide)]);have k1:(F:Int)<=(lo:Int) - 1:=(by omega);clear A z ck;go_wp2_with fail;go_ret3;rw [U.out];exact⟨_,rfl,a5,fun h=>by cases h⟩
          · rw [ae dE]at A;have k1:¬(F:Int)<=(lo:Int) - 1:=(by omega);by_cases ec:o<=F;· rw [ag ec]at A;have U:Hid (R=([],0,8)):=(by show _=_;rw [z.out,A.out,ae (by decide)]);have k2:(o:Int)<=F:=(by omega);clear A z ck;go_wp2_with fail;go_ret3;rw [U.out];exact⟨_,rfl,a5,fun h=>by cases h⟩
            · rw [ae ec]at A;have k2:¬(o:Int)<=F:=(by omega);have HA:=ad (HAdd.out F K (by omega) ba X g J L (q.map (· / 2 ^ K)) (q.map (· % 2 ^ K)) w4 bs (by rw [eN];omega) (by rw [eN];omega) d7);have es:=ad d5;have Y:=ad bs;have ev:=ad d6;have gg:Q<=20000:=(by omega);clear d5 bs d6 ck;go_wp2_with fail;refine(HA.out).mono ?_;rintro e w5 ⟨rfl,e0,e1,Z,aa⟩;have cl:=es.out.beside Y.out bk bR aa;have gi:=LU ev.out Y.out f1 aa;have gs:=az d7 aa.size;have e2:=fun k (h:J.ownBlock=some k)=>(Y.out.hi.lt k h).1;have e3:=fun k (h:L.ownBlock=some k)=>(Y.out.lo.lt k h).1;have hK:=Y.out.lt;have bv : Fr w w5 := ((a5.chg (fun k => k = g ∨ J.ownBlock = some k ∨ L.ownBlock = some k)).trans aa fun _ _ h => h).fr (fun k G e => by
                rcases e with e | e | e;· omega
                · have := e2 k e; omega
                · have := e3 k e; omega)
              have gv:Hid (iW w5 348 X g K e0 e1 ((q++[F]).map (· / 2 ^ K)) ((q++[F]).map (· % 2 ^ K))):=(by show iW _ _ _ _ _ _ _ _ _;rw [gp,gp];exact Z);clear HA aa e2 e3 Y es ev Z;go_wp2_with fail;go_roundw;case rel=>exact⟨i+1,Q,F+1,a2,e0,e1,q++[F],by omega,by go_num,rfl,by simp,gg,by omega,by simp;omega,cl,gv.out,gi,bv,gs,A.out⟩
              case measure=>simp [intOf];omega
        · rw [ae aC]at A;have hL:¬(er:Int)=0:=(by omega);have U:Hid (R=([],0,er)):=(by have h1:=fQ.out aC;show _=_;rw [z.out,A.out,ae (by decide),h1]);clear A z;go_wp2_with fail;go_ret3;rw [U.out];exact⟨_,rfl,a5,fun h=>absurd h aC⟩
      · obtain rfl:i=m:=(by omega);have hM:¬((i:Int)<i):=(by omega);have e4:Hid (E0=(q,a,0)):=(by show _=_;rw [HE.out,gu];rfl);rw [e4.out]at z;have g1:=hC.le;obtain⟨g2,g3⟩:=L6 (8*l.length) a (by omega) g1;have cm:=ad (fun W (h:Fr wr W)=>b3.out D w.heap.size (8*l.length) a W (hC.fr h));have cn:Hid (uj l a=decide (Fk.aI l a ((8 - a % 8) % 8)=0)):=rfl;have hR:((((8*l.length:Nat):Int) - a).tmod 8=(((8 - a % 8) % 8:Nat):Int)):=(by rw [Int.tmod_eq_emod_of_nonneg (by omega)];omega);have hS:((8*l.length - a) / 8)<=l.length:=(by omega);have hT:((((8*l.length:Nat):Int) - a) / 8=(((8*l.length - a) / 8:Nat):Int)):=(by omega);have g4:Hid (∀ M:Nat,M=a+(8 - a % 8) % 8->(((8*l.length:Nat):Int) - (M:Int)) / 8=(((8*l.length - a) / 8:Nat):Int)):=fun M h=>(by omega);have e5:l.length - (8*l.length - a) / 8=(a+7) / 8:=(by omega);have g5:=ad e5;have HG:=ad (fun W (h:Fr wr W) k G=>fk.out D w.heap.size (8*l.length) a k W (hC.fr h) G);have O:=ad hP;have e7:a+(8 - a % 8) % 8<=8*l.length:=(by omega);have e8:=ad e7;clear HE e4 g2 g3 e5 e7 hO hC hP;generalize g7:(8 - a % 8) % 8=rs at *;have hU:rs<8:=(by omega);clear g7;generalize g8:8*l.length=n8 at *;have hV:IntKind.i64.wrap ((n8:Int) - a)=(n8:Int) - a:=aw _ (by omega);clear g8;have hW:IntKind.i64.wrap (rs:Int)=(rs:Int):=aw _ (by omega);generalize (n8 - a) / 8=qt at *;have hY:IntKind.i64.wrap (qt:Int)=(qt:Int):=aw _ (by omega);have hZ:IntKind.i64.wrap ((l.length:Int) - qt)=(((a+7) / 8:Nat):Int):=(by rw [aw _ (by omega)];have:=g5.out;omega);generalize (a+7) / 8=tk at *;go_wp2_with fail;refine(cm.out wr (Fr.refl _)).mono ?_;rintro e w4 ⟨rfl,V⟩;by_cases eL:rs=0;· subst eL;have U:Hid (R=(q,tk,0)):=(by show _=_;rw [z.out,ag trivial,cn.out];rfl);have g9:=ad (cm.out w4 V.fr);clear z;go_wp2_with fail;refine(g9.out).mono ?_;rintro e w5 ⟨rfl,bx⟩;have gO:=hf.trans (V.fr.trans bx.fr);have Z:iW w5 348 X g K J L (q.map (· / 2 ^ K)) (q.map (· % 2 ^ K)):=⟨(V.fr.trans bx.fr).heap O.out.at0,O.out.hi.fr (V.fr.trans bx.fr),O.out.lo.fr (V.fr.trans bx.fr),O.out.lt⟩;go_wp2_with fail;go_ret3;rw [U.out];exact⟨_,rfl,gO,fun _=>⟨g,X,J,L,rfl,dc,Z⟩⟩
        · have k1:(0:Int)<rs:=(by omega);have aj:¬n8<a+rs:=(by have:=e8.out;omega);have b0:=ad (HG.out w4 V.fr rs (by omega));rw [ae aj,ae aj,ae aj]at b0;obtain⟨M,ct⟩:∃ M,M=a+rs:=⟨_,rfl⟩;rw [<- ct]at b0;have cG:=g4.out M ct;have ia:M<=n8:=(by have:=e8.out;omega);have hc:=ad (fun W (h:dC W D w.heap.size l n8 M)=>b3.out D w.heap.size n8 M W h);have ic:IntKind.i64.wrap ((n8:Int) - M)=(n8:Int) - M:=aw _ (by omega);clear ct;have Y:=ad (show iW w4 348 X g K J L (q.map (· / 2 ^ K)) (q.map (· % 2 ^ K))from⟨V.fr.heap O.out.at0,O.out.hi.fr V.fr,O.out.lo.fr V.fr,O.out.lt⟩);have a5:=hf.trans V.fr;clear HG cm b3 aj eL;generalize Fk.aI l a rs=x at *;go_wp2_with fail;refine(b0.out).mono ?_;rintro e w5 ⟨rfl,cl,aa⟩;have Z:=Y.out.beside bk bR aa;have bv:Fr w w5:=((a5.chg (fun b=>b=D)).trans aa fun _ _ h=>h).fr (fun k G e=>by omega);clear b0 Y aa;by_cases hx:x=0;· subst hx;have U:Hid (R=(q,tk,0)):=(by show _=_;rw [z.out,ag trivial,cn.out];rfl);have hd:=ad (hc.out w5 cl);clear z;go_wp2_with fail;refine(hd.out).mono ?_;rintro e w6 ⟨rfl,b1⟩;have hh:iW w6 348 X g K J L (q.map (· / 2 ^ K)) (q.map (· % 2 ^ K)):=⟨b1.fr.heap Z.at0,Z.hi.fr b1.fr,Z.lo.fr b1.fr,Z.lt⟩;have hj:=bv.trans b1.fr;go_wp2_with fail;go_ret3;rw [U.out];exact⟨_,rfl,hj,fun _=>⟨g,X,J,L,rfl,dc,hh⟩⟩
          · have ih:¬(x:Int)=0:=(by omega);have U:Hid (R=([],0,2)):=(by show _=_;rw [z.out,ag trivial,cn.out,aX hx];rfl);clear z;go_wp2_with fail;go_ret3;rw [U.out];exact⟨_,rfl,bv,fun h=>by cases h⟩
theorem MJ(d:Nat)(b:List UInt8):(⟨0,0⟩:Cs).int b d=((ay d b).1,⟨(ay d b).2.1,(ay d b).2.2⟩):=by
 unfold Cs.int Cs.val Cs.step;by_cases h:(ay d b).2.2=0;· simp [h]
 · have:=Mm _ _ h;simp [h,this.1,this.2.1]
theorem Jl(e m:Nat)(r:List UInt8)(z:r.length<=1000000)(h:(iz e m r).2.2=0):(iz e m r).2.1<=1000001:=by
 unfold iz at *;split at h;· simp at h
 · rename_i o;rw [ae o];split at h
   · rename_i d;rw [ag d];have A:=Dm e _ r m 0 _ 0 0 [] (by omega) d;split at h;· rename_i q;rw [ag q];show(_+7) / 8<=_;omega
     · simp at h
   · rename_i d;exact absurd h d
def oO(w:World)(g base:Nat)(d:List Nat):Prop:=∃ K e h,K<=14/\iW w 348 base g K e h (d.map (· / 2 ^ K)) (d.map (· % 2 ^ K))
theorem oO.fr{w e:World}{g base:Nat}{m:List Nat}(h:oO w g base m)(d:Fr w e):oO e g base m:=by
 obtain⟨K,o,q,z,hP⟩:=h;exact⟨K,o,q,z,d.heap hP.at0,hP.hi.fr d,hP.lo.fr d,hP.lt⟩
theorem Sy(d:Nat)(hb:d<=20000)(v:Value)(b:List UInt8)(w:World)(K:ai w eB v b)(Z:b.length<=1000000) :
  Calls Tryz.prog 204 #[N d,v] w fun e w'=>∃ pv,e=.returned (.tuple #[pv,N (dX d b).2.1,.int .i64 ((dX d b).2.2:Int)])/\Fr w w'/\((dX d b).2.2=0->∃ g base,pv=.pointer (some ⟨g,0,none⟩)/\w.heap.size<=g/\oO w' g base (dX d b).1):=by
 have L:=ad (m8 v b w K Z);have U:=ad (fun B base W (h:ar W 130 B base b 0 0)=>nR d (by omega) B base ⟨0,0⟩ b W h Z);rw [MJ]at U;have ak:=ad (fun B base n V W h=>iE B base n V b W h);have ap:=ad (fun B base n V W h=>qb B base n V b W h);have a5:=ad (fun m v r W A h2 K Z=>NT d m hb A h2 v r W K Z);have z:Hid (dX d b=_):=NZ d b;have av:=lH d b;have HS:=ad K;obtain⟨a0,ch,rfl,_⟩:=K.shape;clear K;generalize dX d b=R at *;have b1:¬(d:Int)<0:=by omega
 have b2:¬(20000:Int)<d:=by omega
 by_cases J:(ay d b).2.2=0
 · rw [ag J]at z;rw [J]at U;obtain⟨b0,a1,a6⟩:=av J;clear J av;generalize (ay d b).1=n at *;generalize (ay d b).2.1=q at *;by_cases hn:n=0;· rw [ag hn]at z;subst hn;go_enter Tryz.func204, Tryz.ntmps204;go_wp2_with fail;refine(L.out).mono ?_;rintro e D ⟨B,rfl,hC,X,hB⟩;have aC:B<D.heap.size:=(by obtain⟨⟨v,A,_⟩,_⟩:=hC;exact(aM.1 A).1);have M:=ad (U.out B _ D hC);clear L;go_wp2_with fail;refine(M.out).mono ?_;rintro e o ⟨rfl,F,Y⟩;have G:Fr w o:=((X.chg (fun b=>b=B)).trans Y fun _ _ h=>h).fr (fun k hk e=>by omega);have O:=ad (ak.out B _ _ _ o F);go_wp2_with fail;refine(O.out).mono ?_;rintro e w3 ⟨rfl,rfl⟩;have bc:Fr o (o.alloc (.cells #[.int .i64 0,.slice none 0 0,.slice none 0 0] 348)):=(Fr.refl o).alloc _;have b3:(o.alloc (.cells #[.int .i64 0,.slice none 0 0,.slice none 0 0] 348)).heap[o.heap.size]?=some (.cells #[.int .i64 0,.slice none 0 0,.slice none 0 0] 348 (0,0)):=a9 _ _ _ rfl;have ab:=ad (ap.out B _ _ _ _ (F.fr bc));go_wp2_with fail;generalize o.alloc (.cells #[.int .i64 0,.slice none 0 0,.slice none 0 0] 348)=w4 at *;refine(ab.out).mono ?_;rintro e w5 ⟨rfl,rfl⟩;have ac:=G.trans bc;have bd:=G.size;go_wp2_with fail;go_ret3;rw [z.out];exact⟨_,rfl,ac,fun _=>⟨o.heap.size,o.heap.size+1,rfl,bd,0,_,_,by omega,b3,Ow.nil,Ow.nil,by omega⟩⟩
   · rw [ae hn]at z;have n1:¬(n:Int)=0:=(by omega);obtain⟨f1,f2,cp,bf⟩:=iy eB 22 Tryz.underlying22 HS.out q a1;have b5:=ad bf;have b6:(b.drop q).length=b.length - q:=aU ..;have bk:=ad (fun W (hf:Fr w W)=>a5.out n _ (b.drop q) W (by omega) a6 (b5.out.fr hf) (by omega));have b8:=ad a1;have b9:Hid ((iz d n (b.drop q)).2.2=0->(iz d n (b.drop q)).2.1<=1000001):=fun h=>Jl d n _ (by omega) h;have bA:Hid (Nat.log2 (d / n)<=14):=(by have cq:1<=d / n:=Nat.div_pos a6 (by omega);have cs:d / n<=20000:=az (lR _ _) hb;exact vt ((Nat.log2_lt (by omega)).2 (by omega)));clear bf b6 a5 hn b0 a1;generalize b.length - q=bl at *;generalize iz d n (b.drop q)=Q at *;go_enter Tryz.func204, Tryz.ntmps204;go_wp2_with fail;refine(L.out).mono ?_;rintro e D ⟨B,rfl,hC,X,hB⟩;have aC:B<D.heap.size:=(by obtain⟨⟨v,A,_⟩,_⟩:=hC;exact(aM.1 A).1);have M:=ad (U.out B _ D hC);clear L;go_wp2_with fail;refine(M.out).mono ?_;rintro e o ⟨rfl,F,Y⟩;have G:Fr w o:=((X.chg (fun b=>b=B)).trans Y fun _ _ h=>h).fr (fun k hk e=>by omega);have O:=ad (ak.out B _ _ _ o F);go_wp2_with fail;refine(O.out).mono ?_;rintro e w3 ⟨rfl,rfl⟩;have ab:=ad (ap.out B _ _ _ _ F);go_wp2_with fail;refine(ab.out).mono ?_;rintro e w5 ⟨rfl,rfl⟩;have bm:=ad (bk.out o G);go_wp2_with fail;refine(bm.out).mono ?_;rintro e w6 ⟨pv,rfl,bs,a2⟩;have bL:=ad (ap.out B _ _ _ _ (F.fr bs));have ac:=G.trans bs;have bd:=G.size;clear ab bm bk O M;by_cases I:Q.2.2=0;· rw [ag I]at z;obtain⟨g,base,hv,lv,rfl,cu,hP⟩:=a2 I;have HL:Hid (oO w6 g base Q.1):=⟨_,hv,lv,bA.out,hP⟩;have cv:=b9.out I;rw [I]at *;clear a2 hP I;generalize Q.2.1=tk at *;have c0:IntKind.i64.wrap ((q:Int)+tk)=((q+tk:Nat):Int):=(by rw [aw _ (by have:=b8.out;omega)];simp);go_wp2_with fail;refine(bL.out).mono ?_;rintro e w7 ⟨rfl,rfl⟩;go_wp2_with fail;go_ret3;rw [z.out];exact⟨_,rfl,ac,fun _=>⟨g,base,rfl,by omega,HL.out⟩⟩
     · rw [ae I]at z;have c3:¬(Q.2.2:Int)=0:=(by omega);have HQ:=ad I;clear a2 I;generalize Q.2.2=V at *;go_wp2_with fail;go_ret3;rw [z.out];exact⟨_,rfl,ac,fun h=>absurd h HQ.out⟩
 · rw [ae J]at z;have A:¬((ay d b).2.2:Int)=0:=(by omega);have H0:=ad J;clear av J;generalize (ay d b).2.2=V at *;generalize (ay d b).1=n at *;generalize (ay d b).2.1=q at *;go_enter Tryz.func204, Tryz.ntmps204;go_wp2_with fail;refine(L.out).mono ?_;rintro e D ⟨B,rfl,hC,X,hB⟩;have aC:B<D.heap.size:=(by obtain⟨⟨v,A,_⟩,_⟩:=hC;exact(aM.1 A).1);have M:=ad (U.out B _ D hC);clear L;go_wp2_with fail;refine(M.out).mono ?_;rintro e o ⟨rfl,F,Y⟩;have G:Fr w o:=((X.chg (fun b=>b=B)).trans Y fun _ _ h=>h).fr (fun k hk e=>by omega);have O:=ad (ak.out B _ _ _ o F);go_wp2_with fail;refine(O.out).mono ?_;rintro e w3 ⟨rfl,rfl⟩;go_wp2_with fail;go_ret3;rw [z.out];exact⟨_,rfl,G,fun h=>absurd h H0.out⟩
theorem EP(g base:Nat)(d:List Nat)(w:World)(h:oO w g base d) :
  Calls Tryz.prog 205 #[.pointer (some ⟨g,0,none⟩)] w fun e o=>e=.returned (N d.length)/\w=o:=by
 obtain⟨K,A,B,D,hP⟩:=h;obtain⟨q,z,m⟩:=hP.hi.shape';rw [eN]at m;subst m;have F:w.cell? ⟨g,1,none⟩=some (.slice q d.length z):=by rw [aA hP.at0];rfl
 clear hP;go_enter Tryz.func205, Tryz.ntmps205;go_wp2_with fail;go_ret;exact⟨rfl,rfl⟩
theorem NU(g base i:Nat)(d:List Nat)(w:World)(h:oO w g base d)(z:i<d.length)(Q:d[i]<=20000) :
  Calls Tryz.prog 239 #[.pointer (some ⟨g,0,none⟩),N i] w fun e R=>e=.returned (N d[i])/\Qt w R:=by
 obtain⟨K,hv,lv,U,hP⟩:=h;obtain⟨A,B,V,D,o⟩:=hP.hi.see.cell1 N rfl i (by rw [eN];exact z);obtain⟨F,G,X,I,c2⟩:=hP.lo.see.cell1 (fun n:Nat=>Value.int .u16 (n:Int)) rfl i (by rw [eN];exact z);rw [eN]at D I;rw [jY]at o c2;subst D I;have d0:w.cell? ⟨g,0,none⟩=some (N K):=by rw [aA hP.at0];rfl
 have d1:w.cell? ⟨g,1,none⟩=some (.slice (some ⟨A,B,none⟩) d.length V):=by rw [aA hP.at0];rfl
 have d2:w.cell? ⟨g,2,none⟩=some (.slice (some ⟨F,G,none⟩) d.length X):=by rw [aA hP.at0];rfl
 have f1:w.cell? ⟨A,B+i,none⟩=some (N (d[i] / 2 ^ K)):=o;have f2:w.cell? ⟨F,G+i,none⟩=some (.int .u16 ((d[i] % 2 ^ K:Nat):Int)):=c2;have J:=mC K;have L:d[i] % 2 ^ K<2 ^ K:=kH _ J;have M:d[i] / 2 ^ K<=10000000:=by have:=lR d[i] (2 ^ K);omega
 have O:Hid (d[i] / 2 ^ K*2 ^ K+d[i] % 2 ^ K=d[i]):=by show _=_;rw [gw];exact tp _ _
 obtain⟨w1,Y,_⟩:=AQ (d[i] / 2 ^ K) K (d[i] % 2 ^ K) U M L;have Z:d[i] % 2 ^ K<=d[i]:=Nat.mod_le _ _;clear o c2 hP J L;generalize d[i]=x at *;generalize x % 2 ^ K=m at *;generalize x / 2 ^ K=q at *;rw [O.out]at Y;generalize q*2 ^ K=y at *;have w3:IntKind.i64.wrap (m:Int)=(m:Int):=aw _ (by omega);have i1:(0:Int)<=i:=by omega
 have i2:(i:Int)<d.length:=by omega
 have k0:¬(K:Int)<0:=by omega
 clear O M Z Q;go_enter Tryz.func239, Tryz.ntmps239;go_wp2_with fail;go_quiet (fail);go_wp2_with fail;go_ret;exact⟨rfl,Qt.drewN _ _⟩
theorem Sz(g base:Nat)(d:List Nat)(w:World)(h:oO w g base d)(B:∀ x∈d,x<=20000)(hn:d.length<=20000) :
  Calls Tryz.prog 206 #[.pointer (some ⟨g,0,none⟩)] w fun e D=>∃ v,e=.returned v/\Ow D w.heap.size eJ v d/\Fr w D:=by
 have F:=ad (EP g base d w h);have L:=ad (fun i (m:i<d.length) W (o:Fr w W)=>NU g base i d W (h.fr o) m (B _ (bX m)));have M:Hid (∀ i (m:i<d.length),d.take (i+1)=d.take i++[d[i]]):=fun i m=>gy m;have O:Hid (∀ i,(d.take i).length<=20000):=fun i=>by rw [aG];omega
 clear h B;go_enter Tryz.func206, Tryz.ntmps206;go_wp2_with fail;refine(F.out).mono ?_;rintro e w1 ⟨rfl,rfl⟩;clear F;go_wp2_with fail;go_loopw [3,7] (fun Q z wr=>∃ i:Nat,i<=d.length/\z=N i/\Ow wr w.heap.size eJ Q (d.take i)/\Fr w wr) (fun _ z _=>d.length - (intOf z).toNat);case atStart=>exact⟨0,an _,rfl,by rw [ld];exact Ow.nil,Fr.refl _⟩
 case round=>
  obtain⟨i,m,rfl,q,o⟩:=hrel;by_cases G:i<d.length
  · have R:=ad (L.out i G wr o);have U:=ad (M.out i G);have V:=ad (O.out i);have i1:(i:Int)<d.length:=(by omega);generalize d[i]=x at *;generalize d.take i=X at *;have Y:Hid (X.length+[x].length<=2147483648):=(by have:=V.out;show _<=_;simp;omega);have Z:=ad q;clear q;go_wp2_with fail;refine(R.out).mono ?_;rintro e w2 ⟨rfl,I⟩;have J:=Z.out.fr I.fr;have A:=o.trans I.fr;go_wp2_with (at_builtin;refine cW eJ rfl (.tmp 10) (.tmp 16) 60 rfl Tryz.underlying60 w.heap.size rfl J [x] _ _ _ rfl rfl rfl Y.out A.size ?_);intro v' w4 K;go_wp2_with fail;go_roundw;case rel=>exact⟨i+1,by omega,by go_num,by rw [U.out];exact K.own,K.below J A (am _) A.size⟩
    case measure=>simp [intOf];omega
  · obtain rfl:i=d.length:=(by omega);have ak:¬((d.length:Int)<d.length):=(by omega);rw [dO]at q;obtain⟨va,vc,rfl⟩:=q.shape';go_wp2_with fail;go_ret;exact⟨_,rfl,q,o⟩
end Go.Proofs.YtfpijnhhdfoohaaGreatDoor
