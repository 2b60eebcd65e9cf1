/- Lemmas for ThreeTurned. -/
import Derived.Test.YtndbpldeabnkbaaGreatDoorM30
import Derived.Test.YtndbpldeabnkbaaGreatDoorM15
set_option linter.all false
set_option maxHeartbeats 8000000
set_option maxRecDepth 100000
namespace Go.Proofs.YtndbpldeabnkbaaGreatDoor
open Go.RowKit Go.Fk
def qj(l:Z0):Z0:=64::l
def LQ(d:Nat)(z A:List Z0)(F:Nat->Prop)(x:Z0)(w:World)(h:lD d z ub A F w)(X:z.length<=1)(Y:A.length<=2000000000):Calls Tryz.prog 120 #[S x,.pointer (some ⟨d,0,none⟩)] w λe w'=>e=.returned (.tuple #[]) /\
   ∃m,lD d z ub (A++[x]) m w'/\ai F w w'/\(∀b,m b->F b\/w.heap.size<=b):=by
 obtain⟨O,o,D,K⟩:=h;have Z:=ag o 0 rfl;have aa:d<w.heap.size:=(aR.1 o).1;have G:=ad o;clear o;go_in;go_wp2_with (at_builtin;refine cW eS rfl (.tmp 3) (.tmp 5) 81 rfl Tryz.underlying81 (d+1) rfl D [ub x] _ _ _ rfl rfl rfl ?c1 ?c2 ?_);case c1=>simp;omega
 case c2=>omega
 intro v' L I;have Q:=D.ne_cells G.out δ;have M:=ad (I.chg'.heap G.out Q);have d1:L.cell? ⟨d,0,none⟩=some O:=by rw[aK M.out];rfl
 have e1:L.frozen? ⟨d,0,none⟩=false:=a8 M.out 0;obtain⟨a,n',ak,rfl⟩:=I.own.shape;go_wp2;go_end0;obtain⟨m,R,U,V⟩:=lD.put (g:=ub) (x:=x) G.out D (by rw[bG];exact I);refine⟨rfl,m,R,U.mono (λb _ J=>(K b).2 J),λb J=>(V b J).imp (λh=>(K b).2 h) id⟩
def LP(d:Nat):yN 120 #[.pointer (some ⟨d,0,none⟩)] (lD d [] ub):=
 ⟨λh e m=>h.loc e m,λh=>h.bd,λx h _ o=>LQ d [] _ _ x _ h σ o⟩
def LO(d:Nat)(z A:List Z0)(F:Nat->Prop)(x:Z0)(w:World)(h:lD d z qj A F w)(Y:z.length<=1000000)(Z:A.length<=2000000000)(hx:x.length<=24):Calls Tryz.prog 121 #[S x,.pointer (some ⟨d,0,none⟩)] w λe w'=>e=.returned (.tuple #[]) /\
   ∃m,lD d z qj (A++[x]) m w'/\ai F w w'/\(∀b,m b->F b\/w.heap.size<=b):=by
 obtain⟨O,o,D,K⟩:=h;have c0:=ag o 0 rfl;have ab:d<w.heap.size:=(aR.1 o).1;have G:=ad o;have Q:(⟨#[64]⟩:ByteArray)++(⟨x.toArray⟩:ByteArray)=⟨(64::x).toArray⟩:=by exact ByteArray.ext (by simp[ByteArray.data_append])
 clear o;have ac:¬(9223372036854775807:Int)<1+x.length:=ω
 go_in;go_wp2_with (at_builtin;refine cW eS rfl (.tmp 3) (.tmp 6) 81 rfl Tryz.underlying81 (d+1) rfl D [qj x] _ _ _ ?c0 rfl rfl ?c1 ?c2 ?_);case c0=>first | rfl | (simp[Q,qj];rfl)
 case c1=>omega
 case c2=>omega
 intro v' L I;have R:=D.ne_cells G.out δ;have M:=ad (I.chg'.heap G.out R);have d1:L.cell? ⟨d,0,none⟩=some O:=by rw[aK M.out];rfl
 have e1:L.frozen? ⟨d,0,none⟩=false:=a8 M.out 0;obtain⟨a,n',av,rfl⟩:=I.own.shape;go_wp2;go_end0;obtain⟨m,U,V,X⟩:=lD.put (g:=qj) (x:=x) G.out D (by rw[bG];exact I);refine⟨rfl,m,U,V.mono (λb _ J=>(K b).2 J),λb J=>(X b J).imp (λh=>(K b).2 h) id⟩
def LN(d:Nat)(e:List Z0)(m:e.length<=1000000):yN 121 #[.pointer (some ⟨d,0,none⟩)] (lD d e qj):=
 ⟨λh o z=>h.loc o z,λh=>h.bd,λx h A D=>LO d e _ _ x _ h m D A⟩
def LK(a b:Z0):d7 ((jt a++(jt b).map qj).mergeSort λx y=>decide (x<=y))=qF a b:=by
 refine Uo _ _ ?_ (List.mergeSort_perm _ _);have h:=List.pairwise_mergeSort (le:=λ(x y:Z0)=>decide (x<=y)) (λa b c d e=>by simp only[en]at *;exact List.le_trans d e) (λa b=>by simp only[wH,en];exact List.le_total a b) (jt a++(jt b).map qj);exact h.imp (λh=>by simpa using h)
def Wh(r:aq)(w:World)(h1:r.text.length<=1000000)(h2:r.source.length<=1000000):Calls Tryz.prog 72 #[qL r] w λe w'=>∃v,e=.returned v/\Ow w' w.heap.size eS v (qF r.text r.source)/\Fr w w':=by
 have bc:∀(K:Fn) (first M:Array Value) (w:World),(Instr.makeFunc K first M).run Tryz.prog w=.ok (.func K first M) w:=λ_ _ _ _=>rfl;have O:=ad (LK r.text r.source);have bd:=wS r.text;have bf:=wS r.source;generalize qF r.text r.source=T at *;go_in;go_wp2_with fail;have D:(w.alloc (.cells #[.int .u64 r.time.toNat,Fk.u8 r.level,S r.source,S r.text] 62)).heap.size=w.heap.size+1:=eW _ _;have F:Fr w ((w.alloc (.cells #[.int .u64 r.time.toNat,Fk.u8 r.level,S r.source,S r.text] 62)).alloc (.cells #[.slice none 0 0] 81)):=((Fr.refl w).alloc _).alloc _;have Q:((w.alloc (.cells #[.int .u64 r.time.toNat,Fk.u8 r.level,S r.source,S r.text] 62)).alloc (.cells #[.slice none 0 0] 81)).heap[w.heap.size]?=some (.cells #[.int .u64 r.time.toNat,Fk.u8 r.level,S r.source,S r.text] 62 (0,0)):=by rw[jk _ _ _ (by rw[D];omega)];exact aB _ _ _ rfl
 have R:((w.alloc (.cells #[.int .u64 r.time.toNat,Fk.u8 r.level,S r.source,S r.text] 62)).alloc (.cells #[.slice none 0 0] 81)).heap[w.heap.size+1]?=some (.cells #[.slice none 0 0] 81 (0,0)):=aB _ _ _ D.symm;refine(DZ (LP (w.heap.size+1)) (Hb Tryz.func120 (by kernel_rfl) rfl) r.text [] (λb=>b=w.heap.size+1) _ ?h (by simp;omega)).mono ?_;case h=>exact⟨_,R,Ow.nil,λb=>by simp[Value.ownBlock]⟩
 rintro e w1 ⟨rfl,F1,⟨U,V,o,bl⟩,G,bm⟩;have X:=G.heap Q ω;have I:Fr w w1:=ai.below F G F.size (λi e=>by omega);have k2:=ag X 2 rfl;have m:([]:List Z0)++(([]:List Z0)++jt r.text).map ub=jt r.text:=List.map_id _;rw[m]at o;clear m Q R F D G;go_wp2_with fail;refine(DZ (LN (w.heap.size+1) (jt r.text) ω) (Hb Tryz.func121 (by kernel_rfl) rfl) r.source [] (λb=>b=w.heap.size+1\/U.ownBlock=some b) _ ?h (by simp;omega)).mono ?_;case h=>exact⟨U,V,by simpa using o,λb=>Iff.rfl⟩
 rintro e Y ⟨rfl,F2,⟨Z,z,d,bs⟩,aa,bu⟩;have a2 : Fr w Y := ai.below I aa I.size (fun i e => by
   rcases e with e | e;·omega
   · have := (o.lt i e).1; omega)
 have m:([]:List Z0)++jt r.source=jt r.source:=rfl;rw[m]at d;obtain⟨L,J⟩:∃L,L=jt r.text++(jt r.source).map qj:=⟨_,rfl⟩;have bv:L.length<=2000000:=by rw[J];simp;omega
 rw[<- J]at d O;have bx:=ag z 0 rfl;have hH:=ad z;have ab:=ad (Wq Z L _ Y d ω);have a4:=d.ne_cells z δ;have ac:=d.lt;clear m J z o V aa k2 X I d;go_wp2_with fail;refine ab.out.mono ?_;rintro e w3 ⟨rfl,ak,ap⟩;have a5:=(nA ap).heap hH.out a4;have b0:=ag a5 0 rfl;have a6:Fr w w3:=a2.own ap (λk e=>by have:=(ac k e).1;omega);have av:=ad (Ws Z _ _ w3 ak (by rw[List.length_mergeSort];omega));rw[O.out]at av;clear ak ab;go_wp2_with fail;refine av.out.mono ?_;rintro e w4 ⟨v4,rfl,a7,aC⟩;go_wp2;go_ret;exact⟨_,rfl,a7.rebase ω,a6.own aC (λk e=>by have:=(ac k e).1;omega)⟩
def Yt(s:Z0)(i:Nat):Bool:=decide (0<i) && (match s[i-1]? with | some c=>kp c | none=>false)
def uL{w:World}{v:Value}{l:List Z0}(h:ah w eS v l)(k:Nat)(e:k<l.length):∃b d m,v=.slice (some ⟨b,d,none⟩) l.length m/\w.cell? ⟨b,d+k,none⟩=some (S l[k]):=h.cell1 S rfl k e
def uH(l:List Z0):Prop:=mR l/\(∀s∈l,1<=s.length/\s.length<=25)/\l.length<=1000000
def Ra{a b:Z0}(h:a<b):Op.bytesLess a b=true:=by rw[Go.Proofs.bytesLess_eq];exact bp h
def FV{a b:Z0}(h:¬a<b):Op.bytesLess a b=false:=by rw[Go.Proofs.bytesLess_eq];exact br h
def Hn(d s:Z0)(w:World)(o:1<=s.length)(z:s.length<=25)(m:d<s):Calls Tryz.prog 156 #[S d,S s] w λe w'=>e=.returned (.bool true)/\w=w':=by
 have A:=FV (λh=>s8 _ (List.lt_trans h m):¬s<d);have D:(s == d)=false:=by rw[wi];rintro rfl;exact s8 _ m
 have F:s.isEmpty=false:=by cases s <;> simp_all
 have G:(s == [])=false:=by cases s <;> simp_all
 have I:(s != [])=true:=by cases s <;> simp_all
 have J:(s.length:Int)<=25:=ω
 clear m;go_in;go_wp2;go_ret;exact⟨by first | rfl | simp,rfl⟩
def Tw(v:Value)(l:List Z0)(w:World)(G:ah w eS v l)(z:uH l):Calls Tryz.prog 110 #[v] w λe w'=>e=.returned (.bool true)/\w=w':=by
 obtain⟨I,J,hn⟩:=z;have M:=ad (λk z=>uL G k z);have O:=ad J;have K:=ad (λa s W A m Q=>Hn a s W A m Q);have R:Hid (∀k (h:k+1<l.length),l[k]<l[k+1]):=λk h=>rt.1 I k (k+1) ω h ω;obtain⟨a0,aj,rfl,ak,ap,av⟩:=G.shape;clear I J;go_in;go_wp2;go_loopw [3,8] (λU F wr=>∃(k:Nat) (d:Z0),k<=l.length/\F=N k/\U=S d/\Hid ((k=0/\d=[])\/∃j,∃h:j<l.length,k=j+1/\d=l[j])/\w=wr) (λ_ F _=>l.length-(intOf F).toNat);case atStart=>exact⟨0,[],ar _,rfl,rfl,.inl ⟨rfl,rfl⟩,rfl⟩
 case round=>
  obtain⟨k,d,z,rfl,rfl,V,rfl⟩:=hrel;by_cases D:k<l.length
  ·obtain⟨b,a1,a2,X,c0⟩:=M.out k D;cases X;have o:=O.out _ (bJ D);have L:d<l[k]:=by
    rcases V.out with⟨A,m⟩ | ⟨j,hj,A,m⟩
    ·subst m;cases Y:l[k]with
     | nil=>rw[Y]at o;simp at o
     | cons c x=>exact List.nil_lt_cons c x
    ·subst A m;exact R.out j D
   have Z:Hid ((k+1=0/\l[k]=[])\/∃j,∃h:j<l.length,k+1=j+1/\l[k]=l[j]):=.inr ⟨k,D,rfl,rfl⟩;have aa:=ad (K.out d l[k] w o.1 o.2 L);clear K o L;generalize l[k]=x at *;have i1:(0:Int)<=k:=ω;have i2:(k:Int)<l.length:=ω;go_wp2_with fail;refine aa.out.mono ?_;rintro e w1 ⟨rfl,rfl⟩;go_wp2_with fail;exact⟨⟨k+1,x,ω,γ,rfl,Z,by first | rfl | trivial⟩,by simp[intOf];omega⟩
  ·obtain rfl:k=l.length:=ω;have aC:¬(l.length:Int)<l.length:=ω;have ba:(l.length:Int)<=1048576:=ω;go_wp2;go_ret;exact⟨by first | rfl | simp,rfl⟩
def yB(a:Z0)(k:Nat)(d:k<a.length):∃x,a[k]=x/\(⟨a.toArray⟩:ByteArray)[k]'(by simpa [ByteArray.size] using d)=x:=⟨_,rfl,rfl⟩
def Qa(x y:UInt8)(h:¬x=y):((x.toNat:Int) == (y.toNat:Int))=false:=
 wi.2 λd=>h (eP.1 ω)
def Hh(a b:Z0)(V:a.length<=1000000000)(w:World):Calls Tryz.prog 158 #[S a,S b] w λe w'=>e=.returned (N (cQ a b))/\Fr w w':=by
 have I:=ad (Ew a b);generalize cQ a b=Z at *;go_in;go_wp2;go_loopw [5] (λJ wr=>∃k:Nat,k<=a.length/\k<=b.length/\J=N k/\Hid (∀i,i<k->a[i]?=b[i]?)/\Fr w wr) (λJ _=>a.length-(intOf J).toNat);case atStart=>exact⟨0,ar _,ar _,rfl,ad (λi h=>by omega),Fr.refl w⟩
 case round=>
  obtain⟨k,K,L,rfl,F,G⟩:=hrel;have X:(0:Int)<=k:=ω;by_cases m:k<a.length
  ·have M:(k:Int)<a.length:=ω;by_cases o:k<b.length
   ·have O:(k:Int)<b.length:=ω;by_cases d:a[k]=b[k]
    ·have Q:Hid (∀i,i<k+1->a[i]?=b[i]?):=λi Y=>by
       by_cases e:i=k;·subst e;rw[bj m,bj o,d]
       ·exact F.out i ω
     obtain⟨x,z,R⟩:=yB a k m;obtain⟨y,A,U⟩:=yB b k o;obtain rfl:x=y:=(by rw[<- z,<- A,d]);clear z A d;go_upto_region 2 with fail;go_quiet (fail);go_wp2_with fail;exact⟨⟨k+1,ω,ω,γ,Q,G.drewN _⟩,by simp[intOf];omega⟩
    ·have D:Hid (Z=k):=I.out k K L F.out (λ_ _=>by rw[bj m,bj o];simpa using d);obtain⟨x,z,R⟩:=yB a k m;obtain⟨y,A,U⟩:=yB b k o;have aa:=Qa x y (by rw[<- z,<- A];exact d);clear z A d;go_upto_region 2 with fail;go_quiet (fail);go_wp2;go_ret;exact⟨by rw[D.out];rfl,G.drewN _⟩
   ·have O:¬(k:Int)<b.length:=ω;have D:Hid (Z=k):=I.out k K L F.out (λ_ h=>absurd h o);go_upto_region 2 with fail;go_quiet (fail);go_wp2;go_ret;exact⟨by rw[D.out];rfl,G.drewN _⟩
  ·have M:¬(k:Int)<a.length:=ω;have D:Hid (Z=k):=I.out k K L F.out (λh _=>absurd h m);go_upto_region 2 with fail;go_quiet (fail);go_wp2;go_ret;exact⟨by rw[D.out];rfl,G.drewN _⟩
def MM(s:Z0)(n:Nat):(⟨s.toArray⟩:ByteArray).extract n s.length=⟨(s.drop n).toArray⟩:=Ta s n s.length (al _)
def Vc(v:Value)(l:List Z0)(w:World)(o:ah w eS v l)(J:l≠[])(A:∀s∈l,s.length<=25)(hn:l.length<=64):Calls Tryz.prog 112 #[v] w λe w'=>∃u,e=.returned u/\Ow w' w.heap.size eB u (aZ l)/\Fr w w':=by
 have Q:0<l.length:=zj.2 J;have R:=ad (λW (h:Fr w W) k D=>uL (o.fr h) k D);have U:=ad A;have V:=ad (λs (h:s.length<=1000000000) W=>Ji s h W);have ba:=ad (λn (h:n<18446744073709551616) W=>rf n h W);have bb:=ad (λa b h W=>Hh a b h W);have bc:=ad (λk X K=>Vn l k X K);have Y:Hid (∀k,(aZ (l.take k)).length<=64*45):=λk=>by have X:=qZ 25 ω (l.take k) (λs o=>A s (fZ o));have K:(l.take k).length<=64:=(by rw[aA];omega);have h3:(l.take k).length*(25+20)<=64*45:=bH K (al _);omega
 have bd:Hid (aZ (l.take 1)=ci l[0]):=by
  show _=_
  cases l with
  | nil=>exact absurd rfl J
  | cons x l=>simp[aZ,jR]
 have bf:Hid (aZ (l.take l.length)=aZ l):=by show _=_;rw[dY]
 obtain⟨b0,cl,cm,Z,bk⟩:=R.out w (Fr.refl w) 0 Q;rw[dq]at bk;obtain⟨a0,bm,d,cn,cp,bn⟩:=o.shape;obtain⟨fa,fc,aa,ab⟩:=lK eS 81 Tryz.underlying81 (by rw[d]at o;exact o) 1 ω;have cq:∀W,(Instr.slice 81 (.slice a0 l.length bm) (some (.int .i64 1)) none none).run Tryz.prog W=.ok (.slice fa (l.length-1) fc) W:=aa;have HF:=ad (λW (h:Fr w W) k D=>uL (ab.fr h) k D);have cs:l[0].length<=25:=A _ (bJ Q);have bx:=ad (V.out l[0] ω w);generalize l[0]=x0 at *;rw[d]at Z;cases Z;subst d;clear aa ab A o bn J;go_in;go_wp2_with fail;refine bx.out.mono ?_;rintro e w1 ⟨v1,rfl,L,aj⟩;rw[<- bd.out]at L;go_wp2;go_loopw [3,14] (λov M wr=>∃k:Nat,k+1<=l.length/\M=N k/\Ow wr w.heap.size eB ov (aZ (l.take (k+1)))/\Fr w wr) (λ_ M _=>l.length-(intOf M).toNat);case atStart=>exact⟨0,ω,rfl,L,aj⟩
 case round=>
  clear L aj;obtain⟨k,D,rfl,F,G⟩:=hrel;have cv:=Y.out (k+1);by_cases ak:k+1<l.length
  ·obtain⟨b,c1,c3,d,c0⟩:=R.out wr G k ω;cases d;have b2:(l.drop 1).length=l.length-1:=σ;obtain⟨b',c6,c7,d,d0⟩:=HF.out wr G k ω;rw[b2]at d;cases d;have I:(l.drop 1)[k]'ω=l[k+1]:=(by rw[s9];congr 1;omega);rw[I]at d0;have HN:=ad (bc.out (k+1) ω ak);have c8:=U.out _ (bJ (show k<l.length by omega));have cA:=U.out _ (bJ ak);have cB:=Y.out (k+2);have e2:k+1-1=k:=ω;simp only[e2]at HN;generalize aZ (l.take (k+1))=m at *;generalize av:aZ (l.take (k+1+1))=m2 at *;have b5:=ad av;clear av;generalize l[k]=x at *;generalize l[k+1]=y at *;have cF:=(uP x y).2;have b6:=ad (bb.out x y ω wr);generalize cQ x y=n at *;have cG:(y.drop n).length<=25:=(by simp;omega);have cL:=MM y n;have cN:=qE (y.drop n) ω;have b7:=cJ n ω;have b8:=ad (ba.out n ω);have b9:=ad (V.out (y.drop n) ω);have a1:=ad (λW v0 v1 v2 s0 s1 s2=>Jb W v0 v1 v2 m (ao n) (ci (y.drop n)) s0 s1 s2 ω);rw[<- HN.out]at a1;generalize y.drop n=z at *;have i1:(0:Int)<=k:=ω;have i2:(k:Int)<((l.length-1:Nat):Int):=ω;have i3:(k:Int)<l.length:=ω;have i4:(0:Int)<=n:=ω;have i5:(n:Int)<=y.length:=ω;obtain⟨oa,oc,rfl⟩:=F.shape';go_wp2_with fail;refine b6.out.mono ?_;rintro e w2 ⟨rfl,a3⟩;have ca:=F.fr a3;have dv:IntKind.u64.wrap (n:Int)=(n:Int):=dF _ ω;go_upto_region 6 with fail
   go_region_with
    ((first
      | (go_at_call 65; refine (b8.out _).mono ?_; rintro e w3 ⟨v3, rfl, a4, a5⟩; obtain ⟨q3, z3, cb⟩ := a4.shape'; subst cb)
      | (go_at_call 106; refine (b9.out _).mono ?_; rintro e w4 ⟨v4, rfl, a6, O⟩; obtain ⟨q4, z4, cc⟩ := a6.shape'; subst cc)
      | (go_at_call 42; refine (a1.out _ _ _ _ (ca.see.fr ((Fr.refl w2).drew.trans (a5.trans O))) (a4.see.fr O) a6.see).mono ?_; rintro e w5 ⟨v5, rfl, a7, cf⟩)))
   all_goals have aC:Fr w w4:=G.trans (a3.trans ((Fr.refl w2).drew.trans (a5.trans O)));obtain⟨q5,z5,rfl⟩:=a7.shape';go_wp2_with fail;exact⟨⟨k+1,ω,γ,by rw[b5.out];exact a7.rebase aC.size,aC.trans cf⟩,by simp[intOf];omega⟩
  ·obtain rfl:k=l.length-1:=ω;have b7:¬((l.length-1:Nat):Int)<((l.length-1:Nat):Int):=ω;have I:l.length-1+1=l.length:=ω;rw[I,bf.out]at F;clear I;go_wp2;go_ret;exact⟨_,rfl,F,G⟩
def TA(d s:Z0)(w:World):Calls Tryz.prog 156 #[S d,S s] w λe w'=>e=.returned (.bool (nX d s))/\w=w':=by
 by_cases h:1<=s.length/\s.length<=25/\d<s;·refine(Hn d s w h.1 h.2.1 h.2.2).mono ?_;rintro e w' ⟨rfl,rfl⟩;have z:¬s=[]:=(by intro e;rw[e]at h;exact absurd h.1 δ);refine⟨?_,rfl⟩;unfold nX;simp[z,h.2.1,h.2.2]
 ·have m:Hid (nX d s=false):=by
    show _=_;unfold nX
    cases s with
    | nil=>simp
    | cons c t=>simp at h ⊢;exact h
  by_cases F:s=[];·subst F;clear h;go_in;go_wp2;go_ret;exact⟨by rw[m.out];first | rfl | simp,rfl⟩
  ·have z:s.isEmpty=false:=(by cases s <;> simp_all);have L:(s == [])=false:=(by cases s <;> simp_all);have M:(s != [])=true:=(by cases s <;> simp_all);by_cases G:s.length<=25
   ·have I:(s.length:Int)<=25:=ω;have o:¬d<s:=λJ=>h ⟨by cases s <;> simp_all,G,J⟩;clear h;by_cases A:s=d;·subst A;clear o;have K:Op.bytesLess s s=false:=FV (s8 _);go_in;go_wp2;go_ret;exact⟨by rw[m.out];first | rfl | simp,rfl⟩
    ·have D:s<d:=by
       rcases Std.lt_trichotomy s d with h | h | h;·exact h
       ·exact absurd h A
       ·exact absurd h o
     have K:Op.bytesLess s d=true:=Ra D;clear o D;go_in;go_wp2;go_ret;exact⟨by rw[m.out];first | rfl | simp,rfl⟩
   ·have I:¬(s.length:Int)<=25:=ω;clear h;go_in;go_wp2;go_ret;exact⟨by rw[m.out];first | rfl | simp,rfl⟩
def Rz(a b:Z0):(⟨a.toArray⟩:ByteArray)++⟨b.toArray⟩=⟨(a++b).toArray⟩:=by
 apply ByteArray.ext;simp
def PN(d:Cs)(part e:Z0)(first:Bool)(h:(jw d part e first).2.er=0):(l7 d part e first).1<=e.length:=by
 unfold l7;split;·exact ar _
 ·show Cs.val _ _<=_;unfold Cs.val;split;·rename_i h;exact(nz _ _ h.2).2.2
  ·exact ar _
def PM(d:Cs)(part e:Z0)(first:Bool):(jw d part e first).1.length<=25:=by
 unfold jw Cs.text;split
 ·by_cases h:(fO 25 (List.drop (l7 d part e first).2.at_ part)).2.2=0;·exact(wU _ _ h).2.2
  ·rw[(Ld _ _ h).1];exact ar _
 ·exact ar _
def T9(B base:Nat)(d:Cs)(part o:Z0)(first:Bool)(w:World)(Z:aD w 224 B base part d.at_ d.er)(hl:part.length<=1000000)(hw:o.length<=1000):Calls Tryz.prog 214 #[.pointer (some ⟨B,0,none⟩),S o,.bool first] w λe w'=>∃u,e=.returned (S u)/\((jx d part o first).er=0->u=kN d part o first)/\aD w' 224 B base part (jx d part o first).at_ (jx d part o first).er/\ai (λb=>b=B) w w':=by
 have aa:=ad (sn o.length ω B base d part w Z hl);have bn:=ad (λs W (h:aD W 224 B base part s.at_ s.er)=>Cf 25 ω B base s part W h hl);have bs:=ad (λn er W h=>ld B base n er part W h);have bv:=ad (λs W (h:aD W 224 B base part s.at_ s.er)=>vW 2 B base s part W h);have K:Hid (l7 d part o first=if first then(0,d)else d.int part o.length):=rfl;have a3:Hid (jw d part o first=(l7 d part o first).2.text part 25):=rfl;have HC:Hid (jx d part o first=if(jw d part o first).2.er=0/\nT d part o first=false then⟨(jw d part o first).2.at_,2⟩else(jw d part o first).2):=rfl;have HS:Hid (kN d part o first=o.take (l7 d part o first).1++(jw d part o first).1):=rfl;have HO:Hid (nT d part o first=(decide (¬(jw d part o first).1=[]) && nX o (kN d part o first) && (first || decide (cQ o (kN d part o first)=(l7 d part o first).1)))):=rfl;have aj:=ad (PN d part o first);have ak:=PM d part o first;generalize kN d part o first=s,nT d part o first=ok,jx d part o first=C at *;generalize hR:jw d part o first=R at *;obtain⟨rest,z⟩:=R;have a5:Hid ((l7 d part o first).2.text part 25=(rest,z)):=a3.out.symm;clear hR a3;obtain⟨M,hM⟩:∃M,M=l7 d part o first:=⟨_,rfl⟩;rw[<- hM]at K a5 HO aj;have av:Hid (s=o.take M.1++rest):=by rw[hM];exact HS.out
 have a6:=ad Z;obtain⟨m,I⟩:=M;clear hM;have a0:=ad (bn.out I);rw[a5.out]at a0;clear Z HS;go_in;go_upto_if 11 with fail;go_cut [7]from 12 to 16 (λnv L=>nv=N m/\aD L 224 B base part I.at_ I.er/\ai (λb=>b=B) w L)
 case first=>
  cases first;·have A:Hid (d.int part o.length=(m,I)):=K.out.symm;rw[A.out]at aa;go_wp2_with fail;apply aa.z;rintro e w1 ⟨rfl,O,Q⟩;go_wp2;go_meet;exact⟨rfl,O,Q⟩
  ·have A:(m,I)=(0,d):=K.out;cases A;go_wp2;go_meet;exact⟨rfl,a6.out,ai.refl _ _⟩
 case rest=>
  obtain⟨rfl,O,Q⟩:=hcut;have a7:=ad (a0.out wc O);clear a0 aa a6 K O;go_wp2_with fail;apply a7.z;rintro e F ⟨rfl,U,aC⟩;have a1:=Q.trans aC λ_ _ h=>h;have V:=ad (bs.out _ _ F U);clear Q aC a7;by_cases G:z.er=0
  ·have ba:=aj.out G;rw[G]at V;have b1:=SZ o m;have b2:(⟨(o.take m).toArray⟩:ByteArray)++⟨rest.toArray⟩=⟨s.toArray⟩:=(by rw[Rz,av.out]);have b3:s.length<=1025:=(by rw[av.out,am,aA];have:rest.length<=25:=ak;omega);have m1:(m:Int)<=o.length:=(by have:m<=o.length:=ba;omega);have m0:(0:Int)<=m:=ω;have b6:rest.length<=25:=ak;have X:=ad (λW=>TA o s W);have bb:=ad (λW=>Hh o s ω W);have Y:Hid (ok=(decide (¬rest=[]) && nX o s && (first || decide (cQ o s=m)))):=HO.out;have HE:=ad G;clear G ba ak HO aj av;generalize cQ o s=sm,nX o s=my at *;go_wp2_with fail;apply V.z;rintro e w3 ⟨rfl,rfl⟩;go_upto_region 8 with fail;clear V b1 b2 m1 m0 b3 b6;go_cut [44]from 26 to 44 (λcv L=>cv=.bool (!ok)/\Fr F L)
   case first=>
    by_cases A:rest=[];·have D:Hid (ok=false):=ad (by rw[Y.out,A];rfl);subst A;go_wp2;go_meet;exact⟨by rw[D.out];rfl,Fr.refl _⟩
    ·have cc:rest.isEmpty=false:=(by cases rest <;> simp_all);have cf:(rest == [])=false:=(by cases rest <;> simp_all);have ch:(rest != [])=true:=(by cases rest <;> simp_all);cases my;·have D:Hid (ok=false):=(by show _=_;rw[Y.out];simp);go_wp2_with fail;refine(X.out F).mono ?_;rintro e w4 ⟨rfl,rfl⟩;go_wp2;go_meet;exact⟨by rw[D.out];rfl,Fr.refl _⟩
     ·cases first;·have D:Hid (ok=decide (sm=m)):=(by show _=_;rw[Y.out];simp[A]);have bd:((sm:Int) != m) = !(decide (sm=m)):=(by rw[zq];simp;omega);have bA:=ad bd;clear bd;go_wp2_with fail;refine(X.out F).mono ?_;rintro e w4 ⟨rfl,rfl⟩;go_wp2_with fail;refine(bb.out F).mono ?_;rintro e w5 ⟨rfl,bB⟩;go_wp2;go_meet;exact⟨by rw[D.out,<- bA.out],bB⟩
      ·have D:Hid (ok=true):=(by show _=_;rw[Y.out];simp[A]);go_wp2_with fail;refine(X.out F).mono ?_;rintro e w4 ⟨rfl,rfl⟩;go_wp2;go_meet;exact⟨by first | (rw[D.out];done) | (rw[D.out];rfl),Fr.refl _⟩
   case rest=>
    obtain⟨rfl,bf⟩:=hcut;have bk:=U.fr bf;have bl:=a1.trans (bf.chg (λb=>b=B)) λ_ _ h=>h;have bm:=ad (bv.out z wc bk);clear U a1 X bb;cases ok;·have J:Hid (C=⟨z.at_,2⟩):=ad (by rw[HC.out,af ⟨HE.out,rfl⟩]);have h4:Hid (z.fail 2=⟨z.at_,2⟩):=(by show _=_;unfold Cs.fail;rw[af HE.out]);rw[h4.out]at bm;go_wp2_with fail;apply bm.z;rintro e w4 ⟨rfl,bR,bT⟩;go_wp2;go_ret;rw[J.out];exact⟨s,rfl,λ_=>rfl,bR,bl.trans bT λ_ _ h=>h⟩
    ·have J:Hid (C=z):=ad (by rw[HC.out,ae (λh=>by cases h.2)]);go_wp2;go_ret;rw[J.out];exact⟨s,rfl,λ_=>rfl,bk,bl⟩
  ·have J:Hid (C=z):=ad (by rw[HC.out,ae (λh=>G h.1)]);have ck:¬(z.er:Int)=0:=ω;go_wp2_with fail;apply V.z;rintro e w3 ⟨rfl,rfl⟩;go_wp2;go_ret;rw[J.out];exact⟨[],rfl,λh=>absurd h G,U,a1⟩
def t6{a b:Option Nat}(h:a=none\/a≠b):b=none\/b≠a:=by
 cases b with
 | none=>exact .inl rfl
 | some k=>
  refine .inr λe=>?_;rcases h with h | h;·rw[h]at e;cases e
  ·exact h e.symm
structure me (w:World) (g base size:Nat) (t hs:List Z0):Prop where
 h:∃tv hv,w.heap[g]?=some (.cells #[tv,N size,hv] 270 (0,0))/\Ow w base eS tv t/\Ow w base eS hv hs/\(tv.ownBlock=none\/tv.ownBlock≠hv.ownBlock)
 lt:g<base
def me.fr{w w':World}{g base size:Nat}{t e:List Z0}(h:me w g base size t e)(d:Fr w w'):me w' g base size t e:=by
 obtain⟨⟨m,o,z,A,D,F⟩,G⟩:=h;exact⟨⟨m,o,d.heap z,A.fr d,D.fr d,F⟩,G⟩
def me.beside{w w':World}{B g base size:Nat}{t o:List Z0}{G:Array Value}{T:TypeId}{f:Nat × Nat}(h:me w g base size t o)(z:w.heap[B]?=some (.cells G T f))(A:T≠9)(I:B≠g)(d:ai (λk=>k=B) w w'):me w' g base size t o:=by
 obtain⟨⟨J,K,L,D,F,M⟩,O⟩:=h;exact⟨⟨J,K,d.heap L (λe=>I e.symm),D.chg d (λk m e=>D.ne_cells z A (by rw[m,show k=B from e])),F.chg d (λk m e=>F.ne_cells z A (by rw[m,show k=B from e])),M⟩,O⟩
def Gn(l:List Z0)(h:0<l.length):l.getLastD []=l[l.length-1]:=by
 rw[List.getLastD_eq_getLast?,List.getLast?_eq_getElem?,bj ω];rfl
def Ro(l:List Z0)(h:∀x∈l,x.length<=25):(l.getLastD []).length<=25:=by
 rcases kE l.length with d | d;·rw[kd d];exact ar _
 ·rw[Gn l d];exact h _ (bJ _)
def Fs(d:Cs)(part e:Z0)(first:Bool)(h:(jx d part e first).er=0):(kN d part e first).length<=25:=by
 unfold jx at h;split at h;·cases h
 ·rename_i o;have m:nT d part e first=true:=by
   cases z:nT d part e first;·exact absurd ⟨h,z⟩ o
   ·rfl
  unfold nT nX at m;simp only[fL,en]at m;exact m.1.2.1.2
def SU(part:Z0)(n i:Nat)(d:Cs)(t:List Z0)(h:i<n):gM part (n-i) i d t=if(jx d part (t.getLastD []) (decide (i=0))).er=0 then gM part (n-(i+1)) (i+1) (jx d part (t.getLastD []) (decide (i=0))) (t++[kN d part (t.getLastD []) (decide (i=0))])else(t,(jx d part (t.getLastD []) (decide (i=0))).er):=by
 rw[show n-i=(n-(i+1))+1 by omega,gM]
def SS(g base size n:Nat)(v:Value)(part:Z0)(K Y:List Z0)(w:World)(hD:me w g base size K Y)(m:ah w eB v part)(hl:part.length<=1000000)(hn:n<=100000)(ht:∀x∈K,x.length<=25)(bm:K.length<=100000000)(ap:Y.length<=100000000)(hb:base<=w.heap.size):Calls Tryz.prog 173 #[.pointer (some ⟨g,0,none⟩),v,N n] w λe w'=>e=.returned (.int .i64 ((gM part n 0 ⟨0,0⟩ K).2:Int))/\(∃m,m.length<=Y.length+1/\me w' g base size (gM part n 0 ⟨0,0⟩ K).1 m)/\ai (λk=>k=g\/base<=k) w w':=by
 have bB:=ad (qm v part w m hl);have cE:=ad (λB base d cF first W h hw=>T9 B base d part cF first W h hl hw);have cL:=ad (λB base n er W h=>ld B base n er part W h);have cR:=ad (λB base s W h=>JG B base s part W h);obtain⟨F,hF⟩:∃F,F=gM part n 0 ⟨0,0⟩ K:=⟨_,rfl⟩;rw[<- hF];have HF:Hid (F=gM part (n-0) 0 ⟨0,0⟩ K):=hF;clear hF;have cT:=ad (SU part n);have O:=hD.lt;obtain⟨a0,fr,rfl,_⟩:=m.shape;clear m;go_in;go_wp2_with fail;apply bB.z;rintro e w1 ⟨B,rfl,hC,a3,hB⟩;have bR:=hD.fr a3;have a4:B≠g:=ω
 have dc:base<=w1.heap.size:=ay hb a3.size;have fv:base<=B:=ω
 clear bB hD;go_wp2;go_loopw [15] (λiv wr=>∃(i:Nat) (d:Cs) (t m:List Z0),i<=n/\iv=N i/\Hid (d.er=0)/\Hid (∀x∈t,x.length<=25)/\t.length<=100000000+i/\m.length<=Y.length+1/\Hid (i=0->m.length<=Y.length)/\me wr g base size t m/\aD wr 224 B w.heap.size part d.at_ d.er/\ai (λk=>k=g\/base<=k) w wr/\base<=wr.heap.size/\Hid (F=gM part (n-i) i d t)) (λiv _=>n-(intOf iv).toNat);case atStart=>exact⟨0,⟨0,0⟩,K,Y,ar _,rfl,rfl,ht,ω,ω,λ_=>al _,bR,hC,a3.chg _,dc,HF.out⟩
 case round=>
  clear bR hC a3 HF;obtain⟨i,d,t,m,hi,rfl,f1,bT,bm,ap,di,hD,hC,bs,hz,Z⟩:=hrel;obtain⟨tv,hv,L,z,hH,ab⟩:=hD.h;obtain⟨ta,tc,rfl⟩:=z.shape';have c0:=ag L 0 rfl;by_cases d0:i<n
  ·have i1:(i:Int)<n:=ω;have ac:=ad (cT.out i d t d0);have d1:=Ro t bT.out;have bv:=ad hC;have cb:=ad z.see;clear hC;go_upto_if 24 with fail;go_cut [9]from 25 to 39 (λwv wx=>wv=S (t.getLastD [])/\Qt wr wx)
   case first=>
    by_cases d5:0<t.length;·obtain⟨b5,o5,p5,d6,e5⟩:=cb.out.cell1 (λs:Z0=>S s) rfl (t.length-1) ω;rw[<- Gn t d5]at e5;cases d6;have l0:(0:Int)<t.length:=ω;have l1:=ax ((t.length:Int)-1) ω;have l2:(0:Int)<=(t.length:Int)-1:=ω;have l3:((t.length:Int)-1).toNat=t.length-1:=ω;have l4:(t.length:Int)-1<t.length:=ω;generalize t.getLastD []=ls at *;clear z L;go_wp2;go_quiet (fail);go_wp2;go_meet;exact⟨rfl,Qt.drewN _ _⟩
    ·have dT:t=[]:=kd ω;subst dT;go_wp2;go_meet;exact⟨rfl,Qt.refl _⟩
   case rest=>
    obtain⟨rfl,hq⟩:=hcut;have aj:=hq.fr;have ef:decide ((i:Int)=0)=decide (i=0):=(by rw[zq];simp);have bx:=ad (cE.out B _ d (t.getLastD []) (decide (i=0)) wc (bv.out.fr aj) ω);have el:=ad (Fs d part (t.getLastD []) (decide (i=0)));generalize jx d part (t.getLastD []) (decide (i=0))=G at *;generalize kN d part (t.getLastD []) (decide (i=0))=s at *;generalize t.getLastD []=ls at *;have cf:=hD.fr aj;have ch:=bs.trans (aj.chg (λk=>k=g\/base<=k)) λ_ _ h=>h;have eq:=ay hz aj.size;obtain⟨es,a6⟩:=(bv.out.fr aj).cbox;have HH:=ad ap;have cj:=ad bm;clear hD bs hz L z hH ab c0 bv cb d1 aj ap bm;rw[<- ef]at bx;go_wp2_with fail;apply bx.z;rintro e w5 ⟨A,rfl,b1,a7,Q⟩;have ak:=cf.beside a6 δ a4 Q;have av:=ch.trans (G':=λk=>k=B) Q λk _ e=>.inr (by have e:k=B:=e;omega);have cl:=ay eq Q.size;have aC:=ad (cL.out B _ _ _ w5 a7);clear bx cf ch a6 Q;by_cases R:G.er=0
    ·rw[af R]at ac;obtain rfl:=b1 R;rw[R]at aC;have cm:Hid (F=gM part (n-(i+1)) (i+1) G (t++[A])):=Z.out.trans ac.out;have cn:Hid (∀x∈t++[A],x.length<=25):=λx hx=>by
      rcases jD.1 hx with h | h;·exact bT.out x h
      ·rw[ow.1 h];exact el.out R
     have cp:=ad R;obtain⟨tv,hv,L,z,hH,ab⟩:=ak.h;obtain⟨ta,tc,rfl⟩:=z.shape';have c0:=ag L 0 rfl;have e0:Hid (t.length+[A].length<=2147483648):=(by have:=cj.out;show _<=_;simp;omega);have O:=ak.lt;clear Z ac R b1 ak;go_wp2_with fail;apply aC.z;rintro e w6 ⟨rfl,rfl⟩;go_wp2_with (at_builtin;refine cW eS rfl (.tmp 54) (.tmp 56) 81 rfl Tryz.underlying81 base rfl z [A] _ _ _ rfl rfl rfl e0.out cl ?_);intro v7 M o;obtain⟨I,J,cq⟩:=o.own.shape';rw[show(t++[A]).length=t.length+1 from by simp]at cq;subst cq;have ba:=o.chg'.heap L (λe=>by have:=(z.lt _ e).1;omega);have e3:=ag ba 0 rfl;have e4:=a8 ba 0;have cs:=o.other hH (t6 ab);have bb:=t6 (o.apart hH (t6 ab));have ct:=a7.app z o δ δ;have cu:ai (λk=>k=g\/base<=k) w M:=av.trans o.chg' λk _ e=>.inr (z.lt k e).1;have cv:=ay cl o.size;have D:=a9 M ⟨g,0,none⟩ (.slice I (t.length+1) J);have c1:=aJ ba 0 (.slice I (t.length+1) J);have bc:=eu (i:=0) (u:=.slice I (t.length+1) J) o.own O;have U:=eu (i:=0) (u:=.slice I (t.length+1) J) cs O;have b2:aD (M.setCell ⟨g,0,none⟩ (.slice I (t.length+1) J)) 224 B w.heap.size part G.at_ G.er:=(by obtain⟨⟨x,h1,h2⟩,h3⟩:=ct;exact⟨⟨x,D.heap h1 a4,h2.chg D (λk hk e=>h2.ne_cells ba δ (by rw[hk,show k=g from e]))⟩,h3⟩);have b7:ai (λk=>k=g\/base<=k) w (M.setCell ⟨g,0,none⟩ (.slice I (t.length+1) J)):=cu.trans D λk _ e=>.inl e;have bd:base<=(M.setCell ⟨g,0,none⟩ (.slice I (t.length+1) J)).heap.size:=ay cv D.size;have e2:=cj.out;have c3:Hid ((t++[A]).length<=100000000+(i+1)):=(by show _<=_;simp;omega);have bf:(M.setCell ⟨g,0,none⟩ (.slice I (t.length+1) J)).heap[g]?=some (.cells #[.slice I (t.length+1) J,N size,hv] 270 (0,0)):=c1;have fQ:(M.setCell ⟨g,0,none⟩ (.slice I (t.length+1) J)).cell? ⟨g,2,none⟩=some hv:=(by rw[aK bf];rfl);clear c1 D ct cu cv cs o a7 av hH z ab aC c0 L e2;by_cases b8:i=0
     ·have k0:(i:Int)=0:=ω;have k1:((i:Int) == 0)=true:=(by rw[beq_iff_eq];exact k0);have fS:=ad b8;have ap:=HH.out;have ga:=di.out b8;have e8:Hid (m.length+[A].length<=2147483648):=(by show _<=_;simp;omega);obtain⟨ha,gc,rfl⟩:=U.shape';clear b8 k0;go_wp2_with (at_builtin;refine cW eS rfl (.tmp 67) (.tmp 69) 81 rfl Tryz.underlying81 base rfl U [A] _ _ _ rfl rfl (show Value.slice (some ⟨M.heap.size,0,none⟩) 1 1=_ by simp[World.setCell]) e8.out bd ?_);intro v9 w9 o;obtain⟨V,X,c4⟩:=o.own.shape';rw[show(m++[A]).length=m.length+1 from by simp]at c4;subst c4;have bl:=o.chg'.heap bf (λe=>by have:=(U.lt _ e).1;omega);have e5:=ag bl 2 rfl;have e6:=a8 bl 2;have c5:=o.other bc bb;have e9:=o.apart bc bb;have c6:=b2.app U o δ δ;have c7:ai (λk=>k=g\/base<=k) w w9:=b7.trans o.chg' λk _ e=>.inr (U.lt k e).1;have c8:=ay bd o.size;have D:=a9 w9 ⟨g,2,none⟩ (.slice V (m.length+1) X);have eL:=aJ bl 2 (.slice V (m.length+1) X);have fa:=eu (i:=2) (u:=.slice V (m.length+1) X) c5 O;have fb:=eu (i:=2) (u:=.slice V (m.length+1) X) o.own O;have fc:aD (w9.setCell ⟨g,2,none⟩ (.slice V (m.length+1) X)) 224 B w.heap.size part G.at_ G.er:=(by obtain⟨⟨x,h1,h2⟩,h3⟩:=c6;exact⟨⟨x,D.heap h1 a4,h2.chg D (λk hk e=>h2.ne_cells bl δ (by rw[hk,show k=g from e]))⟩,h3⟩);have fe:ai (λk=>k=g\/base<=k) w (w9.setCell ⟨g,2,none⟩ (.slice V (m.length+1) X)):=c7.trans D λk _ e=>.inl e;have fh:base<=(w9.setCell ⟨g,2,none⟩ (.slice V (m.length+1) X)).heap.size:=ay c8 D.size;clear D c6 c7 c8 c5 o b2 b7 bd bc U bb bf;go_wp2;go_roundw;case rel=>exact⟨i+1,G,t++[A],m++[A],ω,γ,cp.out,cn.out,c3.out,by rw[am];show m.length+1<=_;omega,λh=>by omega,⟨⟨_,_,eL,fa,fb,e9⟩,O⟩,fc,fe,fh,cm.out⟩
      case measure=>exact μ
     ·have k0:¬(i:Int)=0:=ω;have k1:((i:Int) == 0)=false:=(by rw[wi];exact k0);go_wp2;go_roundw;case rel=>exact⟨i+1,G,t++[A],m,ω,γ,cp.out,cn.out,c3.out,HH.out,λh=>by omega,⟨⟨_,hv,bf,bc,U,bb⟩,O⟩,b2,b7,bd,cm.out⟩
      case measure=>exact μ
    ·rw[ae R]at ac;have gi:¬(G.er:Int)=0:=ω;have b9:Hid (F=(t,G.er)):=Z.out.trans ac.out;clear Z ac b1;go_wp2_with fail;apply aC.z;rintro e w6 ⟨rfl,rfl⟩;go_wp2;go_ret;rw[b9.out];exact⟨rfl,⟨m,HH.out,ak⟩,av⟩
  ·obtain rfl:i=n:=ω;have gs:¬((i:Int)<i):=ω;have b9:Hid (F=(t,(d.fin part).er)):=ad (by rw[Z.out,fY];rfl);have fk:=ad (cR.out B _ d wr hC);obtain⟨es,a6⟩:=hC.cbox;have HD:=ad hD;clear Z z hH ab hD L;go_wp2_with fail;apply fk.z;rintro e w5 ⟨rfl,a7,Q⟩;have ak:=HD.out.beside a6 δ a4 Q;have av:=bs.trans (G':=λk=>k=B) Q λk _ e=>.inr (by have e:k=B:=e;omega);go_wp2;go_ret;rw[b9.out];exact⟨rfl,⟨m,ap,ak⟩,av⟩
def GU(part:Z0)(k:Nat):∀(i:Nat) (d:Cs) (t:List Z0),(∀x∈t,x.length<=25)->(∀x∈(gM part k i d t).1,x.length<=25)/\(gM part k i d t).1.length<=t.length+k:=by
 induction k with
 | zero=>intro i d t h;exact⟨h,al _⟩
 | succ k o=>
  intro i d t h;rw[gM];split
  ·rename_i z;have m := o (i + 1) (jx d part (t.getLastD []) (decide (i = 0))) (t ++ [kN d part (t.getLastD []) (decide (i = 0))]) (fun x e => by
     rcases jD.1 e with e | e;·exact h x e
     · rw[ow.1 e]; exact Fs _ _ _ _ z)
   rw[am]at m;simp only[kH]at m;exact⟨m.1,ω⟩
  ·exact⟨h,by show t.length<=_;omega⟩
def LV(s:Cs)(l:Z0)(k:Nat):(s.take l k).1.length<=l.length:=by
 unfold Cs.take;split
 ·split;·exact ar _
  ·rw[aA,aN];omega
 ·exact ar _
def TP(b:Z0)(size n:Nat)(l:List Nat)(i:Nat)(s:Cs)(t:List Z0)(h:i<l.length):gN b size n (l.drop i) i s t=if(s.take b l[i]).2.er=0 then(if(gM (s.take b l[i]).1 (min size (n-i*size)) 0 ⟨0,0⟩ t).2=0 then gN b size n (l.drop (i+1)) (i+1) (s.take b l[i]).2 (gM (s.take b l[i]).1 (min size (n-i*size)) 0 ⟨0,0⟩ t).1 else([],(s.take b l[i]).2,(gM (s.take b l[i]).1 (min size (n-i*size)) 0 ⟨0,0⟩ t).2))else([],(s.take b l[i]).2,(s.take b l[i]).2.er):=by
 rw[gE h,gN]
def aD.under{w w':World}{B base n d g:Nat}{T:TypeId}{l:Z0}(h:aD w T B base l n d)(F:B<g)(m:ai (λk=>k=g\/g+1<=k) w w'):aD w' T B base l n d:=by
 obtain⟨⟨x,z,o⟩,A⟩:=h;exact⟨⟨x,m.heap z (λe=>by omega),o.chg m (λk D e=>by have:=o.top k D;omega)⟩,A⟩
def Mg(b:Z0)(k:Nat)(s:Cs)(l:List Nat)(h:¬s.er=0):iu b k s l=(l,s):=by
 cases k with
 | zero=>rfl
 | succ k=>rw[iu,ae h]
def Dz(b:Z0)(k:Nat):∀(s:Cs) (l:List Nat),(iu b k s l).1.length<=l.length+k:=by
 induction k with
 | zero=>intro s l;exact al _
 | succ k d=>
  intro s l;rw[iu];split;·have:=d (s.int b 2000).2 (l++[(s.int b 2000).1]);simp at this;omega
  ·show l.length<=_;omega
def UM(n size j:Nat)(h:1<=size):j<(n+size-1) / size↔j*size<n:=by
 rw[Nat.lt_iff_add_one_le,ui ω,jW];omega
def XJ(size:Nat)(h1:1<=size)(h2:size<=64)(v:Value)(b:Z0)(w:World)(z:ah w eB v b)(hl:b.length<=1000000):Calls Tryz.prog 137 #[N size,v] w λe w'=>∃pv,e=.returned (.tuple #[pv,N (dn size b).2.1,.int .i64 ((dn size b).2.2:Int)])/\Fr w w'/\((dn size b).2.2=0->∃g base z,pv=.pointer (some ⟨g,0,none⟩)/\w.heap.size<=g/\me w' g base size (dn size b).1 z):=by
 have cj:=ad (qm v b w z hl);have bs:=ad (λmost hm B base s W h=>sn most hm B base s b W h hl);have bu:=ad (λB base n er W h=>ld B base n er b W h);have d0:=ad (λB base n er W h=>vX B base n er b W h);have d1:=ad (λB base k s W h hb=>Ch B base k s b W h hl hb);have HR:Hid (dn size b=if(gN b size (ey b).1 (iu b (((ey b).1+size-1) / size) (ey b).2 []).1 0 (iu b (((ey b).1+size-1) / size) (ey b).2 []).2 []).2.2=0 then((gN b size (ey b).1 (iu b (((ey b).1+size-1) / size) (ey b).2 []).1 0 (iu b (((ey b).1+size-1) / size) (ey b).2 []).2 []).1,(gN b size (ey b).1 (iu b (((ey b).1+size-1) / size) (ey b).2 []).1 0 (iu b (((ey b).1+size-1) / size) (ey b).2 []).2 []).2.1.at_,0)else([],0,(gN b size (ey b).1 (iu b (((ey b).1+size-1) / size) (ey b).2 []).1 0 (iu b (((ey b).1+size-1) / size) (ey b).2 []).2 []).2.2)):=rfl;have HN:Hid (ey b=(⟨0,0⟩:Cs).int b 1048576):=rfl;have bx:(ey b).1<=1048576:=by
  show Cs.val _ _<=_;unfold Cs.val;split;·rename_i h;exact(nz _ _ h.2).2.2
  ·exact ar _
 generalize dn size b=R at *;generalize d3:ey b=DN at *;obtain⟨n,s0⟩:=DN;have hn:n<=1048576:=bx;have hK:=Dz b ((n+size-1) / size) s0 [];have cn:=UM n size;obtain⟨Z,hZ⟩:∃Z,Z=iu b ((n+size-1) / size-0) s0 []:=⟨_,rfl⟩;have b1:Hid (R=if(gN b size n Z.1 0 Z.2 []).2.2=0 then((gN b size n Z.1 0 Z.2 []).1,(gN b size n Z.1 0 Z.2 []).2.1.at_,0)else([],0,(gN b size n Z.1 0 Z.2 []).2.2)):=by rw[hZ];exact HR.out
 have b2:Z.1.length<=(n+size-1) / size:=by rw[hZ];simpa using hK
 have HZ:=ad hZ;have b3:=ad (cn · h1);have fv:(n+size-1) / size<=1048640:=ay (kF _ _) ω;clear hZ hK cn bx HR d3;generalize (n+size-1) / size=K at *;have z1:¬(size:Int)<1:=ω
 have z2:¬(64:Int)<size:=ω
 obtain⟨a0,f3,rfl,_⟩:=z.shape;clear z;go_in;go_wp2_with fail;apply cj.z;rintro e M ⟨B,rfl,hC,cq,hB⟩;have b4:=ad (bs.out 1048576 ω B _ ⟨0,0⟩ M hC);rw[<- HN.out]at b4;have f5:=hC.lt;have d5:=cq.size;clear cj hC;go_wp2_with fail;apply b4.z;rintro e w2 ⟨rfl,cs,b6⟩;have ct:Fr w w2:=((cq.chg (λb=>b=B)).trans b6 λ_ _ h=>h).fr (λk hk e=>by omega);have dE:=b6.size;clear b4 b6;go_upto_block 0 with fail;go_cut [9,10]from 28 to 44 (λzv _ wx=>∃(l:List Nat) (s:Cs),Z=(l,s)/\Ow wx M.heap.size eJ zv l/\aD wx 224 B w.heap.size b s.at_ s.er/\Fr w wx/\M.heap.size<=wx.heap.size)
 case first=>
  go_wp2;go_loopw [9,10] (λzv av wr=>∃(j G:Nat) (s:Cs) (l:List Nat),j<=K/\l.length=j/\av=N G/\G<=n+64/\Hid (G=j*size)/\Ow wr M.heap.size eJ zv l/\aD wr 224 B w.heap.size b s.at_ s.er/\Fr w wr/\M.heap.size<=wr.heap.size/\Hid (Z=iu b (K-j) s l)) (λ_ av _=>n-(intOf av).toNat);case atStart=>exact⟨0,0,s0,[],ar _,rfl,rfl,ω,by show 0=_;simp,Ow.nil,cs,ct,dE,HZ.out⟩
  case round=>
   clear cs ct HZ;obtain⟨j,G,s,l,hj,a2,rfl,f6,b9,m,hC,A,O,Y⟩:=hrel;have cu:=ad a2;obtain⟨za,zc,cv⟩:=m.shape';rw[a2]at cv;subst cv;clear a2;have bb:=ad (bu.out B _ s.at_ s.er wr hC);by_cases bc:G<n
   ·have i1:(G:Int)<n:=ω;have bL:j<K:=(b3.out j).2 (by rw[<- b9.out];exact bc);by_cases d:s.er=0
    ·have a3:Hid (Z=iu b (K-(j+1)) (s.int b 2000).2 (l++[(s.int b 2000).1])):=ad (by rw[Y.out,show K-j=(K-(j+1))+1 by omega,iu,af d]);have HI:=ad (bs.out 2000 ω B _ s wr hC);rw[d]at bb;have dT:Hid (l.length+[(s.int b 2000).1].length<=2147483648):=(by have:=cu.out;show _<=_;simp;omega);obtain⟨ec,aa⟩:=hC.cbox;have Q:=ad m;have ef:G+size<=n+64:=ω;have el:Hid (G+size=(j+1)*size):=ad (by rw[b9.out,jW]);clear m hC d Y;generalize (s.int b 2000).2=o,(s.int b 2000).1=x at *;go_wp2_with fail;apply bb.z;rintro e U ⟨rfl,rfl⟩;go_wp2_with fail;apply HI.z;rintro e U ⟨rfl,a4,I⟩;have ab:=Q.out.chg I (λi hi e=>Q.out.ne_cells aa δ (by rw[hi,show i=B from e]));have a5:Fr w U:=((A.chg (λb=>b=B)).trans I λ_ _ h=>h).fr (λk hk e=>by omega);have a6:=ay O I.size;clear bb HI Q aa I;go_wp2_with (at_builtin;refine cW eJ rfl (.tmp 39) (.tmp 42) 56 rfl Tryz.underlying56 M.heap.size rfl ab [x] _ _ _ rfl rfl rfl dT.out a6 ?_);intro v4 w4 bd;have eq:=a4.app ab bd δ δ;have es:=bd.below ab a5 d5 a5.size;have ev:=ay a6 bd.size;have a2:=cu.out;go_wp2;go_roundw;case rel=>exact⟨j+1,G+size,o,l++[x],ω,by rw[am,a2];rfl,γ,ef,el.out,bd.own,eq,es,ev,a3.out⟩
     case measure=>exact μ
    ·have a3:Hid (Z=(l,s)):=ad (by rw[Y.out,Mg _ _ _ _ d]);have c4:¬(s.er:Int)=0:=ω;clear Y;go_wp2_with fail;apply bb.z;rintro e U ⟨rfl,rfl⟩;go_wp2;go_meet;exact⟨l,s,a3.out,m,hC,A,O⟩
   ·have bL:j=K:=by
      rcases mV j K with h | h;·have:=(b3.out j).1 h;rw[<- b9.out]at this;omega
      ·omega
    have a3:Hid (Z=(l,s)):=ad (by rw[Y.out,bL,fY];rfl);have i1:¬(G:Int)<n:=ω;clear Y bL hj;go_wp2;go_meet;exact⟨l,s,a3.out,m,hC,A,O⟩
 case rest=>
  obtain⟨l,s,c5,m,hC,A,O⟩:=hcut;rw[c5]at b1 b2;have f9:l.length<=K:=b2;obtain⟨za,zc,rfl⟩:=m.shape';have e0:∀k,(Value.slice za l.length zc).ownBlock=some k->k<wc.heap.size:=λk hk=>(m.lt k hk).2;have c6:(wc.alloc (.cells #[.slice none 0 0,N size,.slice none 0 0] 270)).heap[wc.heap.size]?=some (.cells #[.slice none 0 0,N size,.slice none 0 0] 270 (0,0)):=aB _ _ _ rfl;have bf:Fr wc (wc.alloc (.cells #[.slice none 0 0,N size,.slice none 0 0] 270)):=(Fr.refl wc).alloc _;have c7:wc.heap.size+1<=(wc.alloc (.cells #[.slice none 0 0,N size,.slice none 0 0] 270)).heap.size:=σ;have e1:B<wc.heap.size:=hC.lt;have e2:w.heap.size<=wc.heap.size:=A.size;have c8:=m.fr bf;have cA:=hC.fr bf;have cB:=A.trans bf;obtain⟨D,bR⟩:∃D,D=gN b size n (l.drop 0) 0 s []:=⟨_,rfl⟩;have J:Hid (R=if D.2.2=0 then(D.1,D.2.1.at_,0)else([],0,D.2.2)):=(by rw[bR];exact b1.out);have HD:=ad bR;clear bR b1 c5 b2 m hC A O HN bs;go_wp2_with fail;generalize wc.alloc (.cells #[.slice none 0 0,N size,.slice none 0 0] 270)=W0 at *;generalize wc.heap.size=g at *;have cF:me W0 g (g+1) size [] []:=⟨⟨_,_,c6,Ow.nil,Ow.nil,.inl rfl⟩,ω⟩;go_loopw [49] (λiv wr=>∃(i:Nat) (s:Cs) (t z:List Z0),i<=l.length/\iv=N i/\Hid (∀x∈t,x.length<=25)/\t.length<=i*64/\z.length<=i/\me wr g (g+1) size t z/\Ow wr M.heap.size eJ (.slice za l.length zc) l/\aD wr 224 B w.heap.size b s.at_ s.er/\Fr w wr/\g+1<=wr.heap.size/\Hid (D=gN b size n (l.drop i) i s t)) (λiv _=>l.length-(intOf iv).toNat);case atStart=>exact⟨0,s,[],[],ar _,rfl,(show ∀x∈([]:List Z0),x.length<=25 from λx hx=>(iU hx).elim),ar _,ar _,cF,c8,cA,cB,c7,HD.out⟩
  case round=>
   clear cF c8 cA cB c7 HD c6 bf;obtain⟨i,s,t,z,hi,rfl,cG,fB,fC,hD,m,hC,A,O,ac⟩:=hrel;by_cases bc:i<l.length
   ·have cL:=(b3.out i).1 ω;have V:=ad (TP b size n l i s t bc);obtain⟨b5,o5,p5,e9,e5⟩:=m.see.cell1 N rfl i bc;cases e9;have e6:wr.cell? ⟨b5,o5+i,none⟩=some (N l[i]):=e5;have cR:=ad (d1.out B _ l[i] s wr hC ω);have fN:=LV s b l[i];have cT:min size (n-i*size)<=64:=ω;have ca:=ad (λpart=>GU part (min size (n-i*size)) 0 ⟨0,0⟩ t cG.out);obtain⟨q,hq⟩:∃q,q=i*size:=⟨_,rfl⟩;rw[<- hq]at cL V cT ca;have fP:IntKind.i64.wrap ((i:Int)*size)=(q:Int):=(by rw[show(i:Int)*size=((i*size:Nat):Int) by simp,hq];exact ax _ ω);have fQ:IntKind.i64.wrap ((n:Int)-q)=((n-q:Nat):Int):=(by rw[ax _ ω];omega);have fS:=ad hq;clear hq;obtain⟨ec,aa⟩:=hC.cbox;have i1:(0:Int)<=i:=ω;have i2:(i:Int)<l.length:=ω;have Q:=ad m;have da:=ad hD;clear e5 m hC hD;generalize (s.take b l[i]).1=part at *;generalize (s.take b l[i]).2=o at *;generalize l[i]=k at *;go_wp2_with fail;apply cR.z;rintro e U ⟨pv,rfl,cb,a4,I⟩;have dc:=da.out.beside aa δ ω I;have ab:=Q.out.chg I (λj hj e=>Q.out.ne_cells aa δ (by rw[hj,show j=B from e]));have a5:Fr w U:=((A.chg (λb=>b=B)).trans I λ_ _ h=>h).fr (λk hk e=>by omega);have a6:=ay O I.size;have L:=ad (bu.out B _ o.at_ o.er U a4);obtain⟨pa,pc,rfl⟩:=cb.shape';clear cR Q da aa I e6;by_cases d:o.er=0
    ·rw[af d]at V;rw[d]at L;have cc:=ad (SS g (g+1) size (min size (n-q)) _ part t z U dc cb.see ω ω cG.out ω ω a6);have cf:=ca.out part;obtain⟨mm,di⟩:∃mm,mm=min size (n-q):=⟨_,rfl⟩;rw[<- di]at V cc cf cT;have ge:=ad d;generalize n-q=ns at *;have gg:min (size:Int) (ns:Int)=(mm:Int):=ω;generalize gM part mm 0 ⟨0,0⟩ t=F at *;have aj:=ad (ac.out.trans V.out);clear ac V ca d di cL;go_wp2_with fail;apply L.z;rintro e w4 ⟨rfl,rfl⟩;go_wp2_with fail;apply cc.z;rintro e w5 ⟨rfl,⟨fc,gi,fe⟩,a7⟩;have fh:=a4.under e1 a7;have fk:=ab.chg a7 (λj hj e=>by have:=e0 j hj;omega);have dj:Fr w w5:=((a5.chg (λk=>k=g\/g+1<=k)).trans a7 λ_ _ h=>h).fr (λk hk e=>by omega);have fl:=ay a6 a7.size;clear L cc dc ab cb a4 a7;by_cases hF:F.2=0
     ·have ak:Hid (D=gN b size n (l.drop (i+1)) (i+1) o F.1):=ad (by rw[aj.out,af hF]);have ch:((F.2:Nat):Int)=0:=ω;rw[ch];clear hF ch aj;go_wp2;go_roundw;case rel=>exact⟨i+1,o,F.1,fc,ω,γ,cf.1,by have:=cf.2;omega,ω,fe,fk,fh,dj,fl,ak.out⟩
      case measure=>exact μ
     ·have ak:Hid (D=([],o,F.2)):=ad (by rw[aj.out,ae hF]);have X:Hid (R=([],0,F.2)):=ad (by rw[J.out,ak.out,ae hF]);have ch:¬(F.2:Int)=0:=ω;have fm:=ad hF;clear aj J hF;go_wp2;go_ret3;rw[X.out];exact⟨_,rfl,dj,λh=>absurd h fm.out⟩
    ·have aj:Hid (D=([],o,o.er)):=ad (by rw[ac.out,V.out,ae d]);have X:Hid (R=([],0,o.er)):=ad (by rw[J.out,aj.out,ae d]);have c4:¬(o.er:Int)=0:=ω;clear ac V J;go_wp2_with fail;apply L.z;rintro e w4 ⟨rfl,rfl⟩;go_wp2;go_ret3;rw[X.out];exact⟨_,rfl,a5,λh=>absurd h d⟩
   ·obtain rfl:i=l.length:=ω;have bx:¬((l.length:Int)<l.length):=ω;have ak:Hid (D=(t,s,s.er)):=ad (by rw[ac.out,nL,gN]);have L:=ad (bu.out B _ s.at_ s.er wr hC);have fn:=ad (d0.out B _ s.at_ s.er wr hC);clear ac m hC;by_cases d:s.er=0;·have X:Hid (R=(t,s.at_,0)):=ad (by rw[J.out,ak.out,af d]);rw[d]at L;clear J d;go_wp2_with fail;apply L.z;rintro e w4 ⟨rfl,rfl⟩;go_wp2_with fail;apply fn.z;rintro e w4 ⟨rfl,rfl⟩;go_wp2;go_ret3;rw[X.out];exact⟨_,rfl,A,λ_=>⟨g,g+1,z,rfl,e2,hD⟩⟩
    ·have X:Hid (R=([],0,s.er)):=ad (by rw[J.out,ak.out,ae d]);have c4:¬(s.er:Int)=0:=ω;clear J;go_wp2_with fail;apply L.z;rintro e w4 ⟨rfl,rfl⟩;go_wp2;go_ret3;rw[X.out];exact⟨_,rfl,A,λh=>absurd h d⟩
