/- Parts of the proof of ArchEnds: S1 S2 S3 S4 S5 S6 S7 L1 L2. -/
import Derived.Test.YtfpijnhhdfoohaaGreatDoorM03
import Derived.Test.YtfpijnhhdfoohaaGreatDoorM11
import Derived.Test.YtfpijnhhdfoohaaGreatDoorM00
set_option linter.unusedVariables false
set_option linter.unusedSectionVars false
set_option linter.unusedSimpArgs false
set_option maxHeartbeats 8000000
set_option maxRecDepth 100000
namespace Go.Fk
abbrev awQd:=@Go.IntWalk.i64_in
abbrev aLQc:=@Go.bodyPost_ret
abbrev btQc:=@decide_eq_true
abbrev euQb:=@Go.IntWalk.u64_in
abbrev mHQb:=@Go.Calls.quiet_of
end Go.Fk
namespace Go.Proofs.YtfpijnhhdfoohaaGreatDoor
open Go.RowKit Go.Fk
def DJ(w:World)(g n cap:Nat)(f:Nat->Nat):Prop:=Ow w 0 eJ (.slice (some ⟨g,0,none⟩) n cap) ((List.range n).map f)
section
variable {w w':World} {g n cap:Nat} {f f':Nat->Nat}
theorem DJ.cell(h:DJ w g n cap f)(p:Nat)(d:p<n):w.cell? ⟨g,p,none⟩=some (N (f p)):=by
 have:=(Ow.cellAt h (fun n:Nat=>N n) rfl p (by simpa using d)).1;simpa using this
theorem DJ.frozen(h:DJ w g n cap f)(p:Nat)(d:p<n):w.frozen? ⟨g,p,none⟩=false:=(Ow.cellAt h (fun n:Nat=>N n) rfl p (by simpa using d)).2
theorem DJ.caps(h:DJ w g n cap f):n<=cap/\cap<=maxLen:=by
 obtain⟨_,_,m,o,d,e,q,z⟩:=Ow.parts h;rw [eN,mD]at d;exact⟨d,e⟩
theorem IF(n:Nat)(f:Nat->Nat)(i x:Nat):((List.range n).map f).set i x=(List.range n).map (fun p=>if p=i then x else f p):=by
 apply qjQb;intro j;by_cases d:j<n
 · by_cases e:i=j;· subst e;rw [List.getElem?_set_self (by simpa using d)];simp [d]
   · rw [List.getElem?_set_ne e];simp [d,fy e]
 · rw [io (by simp;omega),io (by simp;omega)]
theorem DJ.set(h:DJ w g n cap f)(i:Nat)(d:i<n)(x:Nat):DJ (w.setCell ⟨g,i,none⟩ (N x)) g n cap (fun p=>if p=i then x else f p):=by
 have:=Ow.set h (fun n:Nat=>N n) rfl i (by simpa using d) x (N x) rfl;unfold DJ;rw [<- IF];exact this
theorem DJ.congr(h:DJ w g n cap f)(d:∀ p,p<n->f' p=f p):DJ w g n cap f':=by
 unfold DJ at *;rw [jA (fun p e=>d p (eD.1 e))];exact h
theorem DJ.swap(h:DJ w g n cap f)(i j:Nat)(d:i<n)(e:j<n):DJ ((w.setCell ⟨g,i,none⟩ (N (f j))).setCell ⟨g,j,none⟩ (N (f i))) g n cap (jD f i j):=
 ((h.set i d (f j)).set j e (f i)).congr fun p _=>rfl
theorem DJ.fr(h:DJ w g n cap f)(d:Fr w w'):DJ w' g n cap f:=Ow.fr h d
end
theorem tR(w:World)(g i j:Nat)(u v:Value):ah (fun k=>k=g) w ((w.setCell ⟨g,i,none⟩ u).setCell ⟨g,j,none⟩ v):=(ao w ⟨g,i,none⟩ u).trans (ao _ ⟨g,j,none⟩ v) (fun _ _ h=>h)
def jO(a b:Nat):Int:=if a<b then -1 else if b<a then 1 else 0
theorem uI(a b:Nat):(jO a b<0)=(a<b):=by unfold jO;split <;> (try split) <;> simp <;> omega
structure nT (k:Nat) (caps:Array Value) (g:Nat) (key:Nat->Nat) (ok:Nat->Prop) (I:World->Prop):Prop where
 ent:∀ args w,(callFunc k args).run Tryz.prog w=.ok (.enter k args) w
 stay:∀ {w w'},I w->ah (fun b=>b=g) w w'->I w'
 call:∀ {w} (x y:Nat),I w->ok x->ok y->Calls Tryz.prog k (#[N x,N y]++caps) w fun e w'=>e=.returned (.int .i64 (jO (key x) (key y)))/\∃ m,w'=w.drewN m
theorem nT.fr{k:Nat}{d:Array Value}{g:Nat}{key:Nat->Nat}{e:Nat->Prop}{I:World->Prop}(h:nT k d g key e I){w w':World}(m:I w)(o:Fr w w'):I w':=h.stay m (o.chg _)
theorem MC(x:Nat)(w:World):Calls Tryz.prog 273 #[.int .u32 (x:Int)] w fun e w'=>e=.returned (.bool false)/\w=w':=by
 go_enter Tryz.func273, Tryz.ntmps273;go_wp2_with fail;go_ret;exact⟨by simp,rfl⟩
theorem Pb(x y:Nat)(w:World):Calls Tryz.prog 247 #[.int .u32 (x:Int),.int .u32 (y:Int)] w fun e w'=>e=.returned (.int .i64 (jO x y))/\w=w':=by
 have m:=ad (fun x W=>MC x W);rcases nX x y with h | h | h;· have d:jO x y=-1:=(by unfold jO;rw [ag h]);rw [d];go_enter Tryz.func247, Tryz.ntmps247;go_wp2_with (first | (go_at_call 273;refine(m.out _ _).mono ?_;rintro e w' ⟨rfl,rfl⟩));go_ret;exact⟨rfl,rfl⟩
 · have d:jO x y=0:=(by unfold jO;rw [ae (by omega),ae (by omega)]);have o:¬x<y:=(by omega);have q:¬y<x:=(by omega);rw [d];go_enter Tryz.func247, Tryz.ntmps247;go_wp2_with (first | (go_at_call 273;refine(m.out _ _).mono ?_;rintro e w' ⟨rfl,rfl⟩));go_ret;exact⟨rfl,rfl⟩
 · have d:jO x y=1:=(by unfold jO;rw [ae (by omega),ag h]);have o:¬x<y:=(by omega);rw [d];go_enter Tryz.func247, Tryz.ntmps247;go_wp2_with (first | (go_at_call 273;refine(m.out _ _).mono ?_;rintro e w' ⟨rfl,rfl⟩));go_ret;exact⟨rfl,rfl⟩
theorem Ii(a b m:Nat)(D:Value)(g n cap:Nat)(f:Nat->Nat)(w:World)(q:DJ w g n cap f)(L:a+m<=b)(M:b+m<=n)(O:n<=1000000000) :
  Calls Tryz.prog 296 #[.slice (some ⟨g,0,none⟩) n cap,N a,N b,N m,D] w fun e w'=>e=.returned (.tuple #[])/\DJ w' g n cap (iL f a b m)/\ah (fun k=>k=g) w w':=by
 obtain⟨Q,F⟩:=q.caps;unfold maxLen at F;go_enter Tryz.func296, Tryz.ntmps296;go_wp2_with fail;go_loopw [10] (fun z wr=>∃ i:Nat,i<=m/\z=N i/\DJ wr g n cap (iL f a b i)/\ah (fun k=>k=g) w wr) (fun z _=>m - (intOf z).toNat);case atStart=>exact⟨0,an _,rfl,q.congr fun p _=>Ig f a b p,ah.refl _ w⟩
 case round=>
  clear q;obtain⟨i,R,rfl,d,B⟩:=hrel;by_cases U:i<m
  · have V:(i:Int)<m:=(by omega);have X:=d.cell (a+i) (by omega);have c2:=d.cell (b+i) (by omega);have Y:=d.frozen (a+i) (by omega);have G:=d.frozen (b+i) (by omega);have I:=ad (d.swap (a+i) (b+i) (by omega) (by omega));have Z:IntKind.i64.wrap ((a:Int)+i)=((a+i:Nat):Int):=(by rw [awQd _ (by omega)];omega);have aa:IntKind.i64.wrap ((b:Int)+i)=((b+i:Nat):Int):=(by rw [awQd _ (by omega)];omega);have i1:(0:Int)<=((a+i:Nat):Int):=(by omega);have i2:((a+i:Nat):Int)<n:=(by omega);have i3:(0:Int)<=((b+i:Nat):Int):=(by omega);have i4:((b+i:Nat):Int)<n:=(by omega);have i5:a+i<n:=(by omega);have i6:b+i<n:=(by omega);have J:=ad (fun p=>Ih f a b i p (by omega));generalize iL f a b i=K at *;generalize a0:a+i=A at *;generalize a1:b+i=o at *;have a2:A≠o:=(by omega);have a3:(wr.drew.setCell ⟨g,A,none⟩ (N (K o))).frozen? ⟨g,o,none⟩=false:=(by rw [World.frozen?_setCell];exact G);go_upto_region 3 with fail;go_region;all_goals go_wp2_with fail
    all_goals go_roundw
    case rel=>exact⟨i+1,by omega,by go_num,(I.out.congr fun p _=>(J.out p).symm).fr (Fr.drew (Fr.refl _)),B.trans ((tR wr g A o _ _).trans ((Fr.drew (Fr.refl _)).chg (fun k=>k=g)) (fun _ _ h=>h)) (fun _ _ h=>h)⟩
    case measure=>simp [intOf];omega
  · obtain rfl:i=m:=(by omega);have a4:¬((i:Int)<i):=(by omega);go_wp2_with fail;go_end0;exact⟨rfl,d,B⟩
theorem MO(key d h:Nat->Nat)(a j i:Nat)(q:a<=j)(z:j<=i)(m:bD key d a i)(A:∀ p,h p=kR d j i p)(B:∀ p,j<=p->p<i->bp key (d i) (d p))(D:∀ p,a<=p->p<i->d p<d i)(G:j=a\/¬key (d i)<key (d (j - 1))):bD key h a (i+1):=by
 refine(CK key d a j i m q z (fun p F I=>?_) B).congr fun p _ _=>A p;have o:bp key (d (j - 1)) (d i):=by have:=D (j - 1) (by omega) (by omega);unfold bp;omega
 by_cases e:p=j - 1;· rw [e];exact o
 · exact ki (m p (j - 1) F (by omega) (by omega)) o
theorem MN(f d:Nat->Nat)(a i b:Nat)(e:cw f d a i)(h:∀ p q,a<=p->p<q->q<b->f p<f q)(m:i<b)(F:a<=i):∀ p,a<=p->p<i->d p<d i:=by
 intro p o z;obtain⟨q,A,B,D⟩:=e.mem p o z;rw [D,e.1 i (by omega)];exact h q i A B m
theorem MM {k : Nat} {a0 : Array Value} {g : Nat} {key : Nat → Nat} {J : Nat → Prop} {I : World → Prop} (U : nT k a0 g key J I) (a b n cap : Nat) (f : Nat → Nat) (w : World) (hd : DJ w g n cap f) (hI : I w) (cb : a ≤ b) (hb : b ≤ n) (hn : n ≤ 1000000000)
    (hok:∀ p,a<=p->p<b->J (f p)) (hup:∀ p q,a<=p->p<q->q<b->f p<f q) :
    Calls Tryz.prog 287 #[.slice (some ⟨g,0,none⟩) n cap,N a,N b,.func (.func k) #[] a0] w fun e w'=>e=.returned (.tuple #[])/\∃ f',DJ w' g n cap f'/\cw f f' a b/\bD key f' a b/\ah (fun k=>k=g) w w':=by
  obtain⟨V,bx⟩:=hd.caps;unfold maxLen at bx;have ch:=U.ent;have X:=ad U;clear U;have cj:IntKind.i64.wrap ((a:Int)+1)=((a+1:Nat):Int):=(by rw [awQd _ (by omega)];omega);go_enter Tryz.func287, Tryz.ntmps287;go_wp2_with fail;go_loopw [8] (fun Y wr=>∃ (i:Nat) (d:Nat->Nat),Y=N i/\a+1<=i/\(i<=b\/i=a+1)/\DJ wr g n cap d/\Hid (cw f d a (min i b))/\Hid (bD key d a (min i b))/\ah (fun k=>k=g) w wr) (fun Y _=>b - (intOf Y).toNat);case atStart=>exact⟨a+1,f,rfl,am _,.inr rfl,hd,cw.refl _ _ _,fun i j K Z h3=>by omega,ah.refl _ w⟩
  case round=>
    obtain⟨i,d,rfl,ck,cl,aa,D,L,A⟩:=hrel;by_cases a3:i<b
    · have b0:(i:Int)<b:=(by omega);rw [gx (by omega)]at D L;go_wp2_with fail;generalize wr=wo at *;go_loopw [9] (fun jv wr=>∃ (j:Nat) (o:Nat->Nat),jv=N j/\a<=j/\j<=i/\DJ wr g n cap o/\Hid (∀ p,o p=kR d j i p)/\Hid (∀ p,j<=p->p<i->bp key (d i) (d p))/\Hid (cw d o a (i+1))/\ah (fun k=>k=g) w wr) (fun jv _=>(intOf jv).toNat);case atStart=>exact⟨i,d,rfl,by omega,am _,aa,fun p=>by unfold kR;rw [wI d i (i+1) p (by omega)],fun p K Z=>by omega,cw.refl _ _ _,A⟩
      case round=>
        clear aa A;obtain⟨j,o,rfl,b1,a4,B,F,M,ac,A⟩:=hrel;have b2:=ad (MN f d a i b D.out hup a3 (by omega));have O:=ad (fun b3=>MO key d o a j i b1 a4 L.out F.out M.out b2.out b3);have a5:Hid (cw f o a (i+1)):=(D.out.widen (am _) (by omega) (by omega)).trans ac.out;have cn:IntKind.i64.wrap ((i:Int)+1)=((i+1:Nat):Int):=(by rw [awQd _ (by omega)];omega);by_cases cp:a<j
        · have a6:(a:Int)<j:=(by omega);have cq:decide ((a:Int)<j)=true:=btQc a6;have cs:IntKind.i64.wrap ((j:Int) - 1)=((j - 1:Nat):Int):=(by rw [awQd _ (by omega)];omega);have e1:o j=d i:=(by rw [F.out];unfold kR aK;rw [ag (by omega)];congr 1;omega);have e2:o (j - 1)=d (j - 1):=(by rw [F.out];unfold kR aK;rw [ae (by omega),ae (by omega)]);have c1:=B.cell j (by omega);have c2:=B.cell (j - 1) (by omega);have z1:=B.frozen j (by omega);have z2:=B.frozen (j - 1) (by omega);have Q:=ad (B.swap j (j - 1) (by omega) (by omega));rw [e1]at c1 Q;rw [e2]at c2 Q;have bc:J (d i):=(by rw [D.out.1 i (by omega)];exact hok i (by omega) a3);have bd:J (d (j - 1)):=(by obtain⟨q,h3,h4,h5⟩:=D.out.mem (j - 1) (by omega) (by omega);rw [h5];exact hok q h3 (by omega));have HC:=ad (fun m=>X.out.call (d i) (d (j - 1)) (X.out.fr (X.out.stay hI A) ((Fr.refl wr).drewN m)) bc bd);have bk:Hid (∀ p,jD o j (j - 1) p=kR d (j - 1) i p):=fun p=>(by have:=Bd d i j p a4 (by omega);have e:o=aK d j i (i+1):=funext fun p=>F.out p;rw [e];exact this);have b5:Hid (key (d i)<key (d (j - 1))->∀ p,j - 1<=p->p<i->bp key (d i) (d p)):=fun h p K Z=>by
            by_cases e:p=j - 1;· rw [e];exact .inl h
            · exact M.out p (by omega) Z
          have b6:Hid (cw d (jD o j (j - 1)) a (i+1)):=(by have K:cw d (aK d (j - 1) i (i+1)) a (i+1):=(ue d (j - 1) i (i+1) (by omega) (by omega)).widen (by omega) (by omega) (am _);exact K.congr bk.out);have bl:=uI (key (d i)) (key (d (j - 1)));have b7:Hid (¬key (d i)<key (d (j - 1))->bD key o a (i+1)):=fun h=>O.out (.inr h);clear e1 e2 bc bd F M ac O;generalize hx:d i=x at *;generalize hy:d (j - 1)=y at *;generalize bu:j - 1=z at *;have HX:=ad hx;have HY:=ad hy;clear hx hy;have i1:(0:Int)<=j:=(by omega);have i2:(j:Int)<n:=(by omega);have i3:(0:Int)<=z:=(by omega);have i4:(z:Int)<n:=(by omega);have i5:j<n:=(by omega);have i6:z<n:=(by omega);have c9:j≠z:=(by omega);have cA:z<j:=(by omega);have cB:a<=z:=(by omega);have cE:z≠j:=(by omega);have HJ:=ad bu;clear bu;generalize b8:jO (key x) (key y)=cv at *;have cG:decide (cv<0)=decide (key x<key y):=(by simp [bl]);generalize bA:key x=kx at *;generalize bB:key y=ky at *;clear bl b8 bA bB;go_upto_region 4 with fail;go_quiet ((exact mHQb (HC.out _)));have G:=(Fr.refl wr).drewN nq;have V:=A.trans (G.chg (fun k=>k=g)) (fun _ _ h=>h);have bL:=B.fr G;replace c1:=G.cell c1;replace c2:=G.cell c2;have cL:(wr.drewN nq).frozen? ⟨g,j,none⟩=false:=z1;have cN:(wr.drewN nq).frozen? ⟨g,z,none⟩=false:=z2;have bR:Hid (DJ (((wr.drewN nq).setCell ⟨g,j,none⟩ (N y)).setCell ⟨g,z,none⟩ (N x)) g n cap (jD o j z)):=Q.out.fr ((Fr.refl _).drewN nq);clear Q z1 z2 B A G HC;generalize wr.drewN nq=w1 at *;by_cases R:kx<ky
          · have ca:decide (kx<ky)=true:=btQc R;go_upto_region 6 with fail;go_region;all_goals go_wp2_with fail
            all_goals go_roundw
            case rel=>exact⟨z,jD o j z,rfl,by omega,by omega,bR.out.fr (Fr.drew (Fr.refl _)),bk,b5.out R,b6,V.trans ((tR w1 g j z _ _).trans ((Fr.drew (Fr.refl _)).chg (fun k=>k=g)) (fun _ _ h=>h)) (fun _ _ h=>h)⟩
            case measure=>simp [intOf];omega
          · have ca:decide (kx<ky)=false:=aX R;have av:=ad (b7.out R);go_wp2_with fail;go_roundw;case rel=>exact⟨i+1,o,by go_num,by omega,.inl (by omega),bL,by rw [gx (by omega)];exact a5,by rw [gx (by omega)];exact av,V⟩
            case measure=>simp [intOf];omega
        · obtain rfl:j=a:=(by omega);have a6:¬(j:Int)<j:=(by omega);have av:=ad (O.out (.inl rfl));clear O F M ac;go_upto_region 4 with fail;go_quiet (fail);go_wp2_with fail;go_roundw;case rel=>exact⟨i+1,o,by go_num,by omega,.inl (by omega),B.fr ((Fr.refl _).drewN _),by rw [gx (by omega)];exact a5,by rw [gx (by omega)];exact av,A.trans (((Fr.refl _).drewN _).chg (fun k=>k=g)) (fun _ _ h=>h)⟩
          case measure=>simp [intOf];omega
    · have b0:¬(i:Int)<b:=(by omega);rw [Nat.min_eq_right (by omega)]at D L;go_wp2_with fail;go_end0;exact⟨rfl,d,aa,D.out,L.out,A⟩
theorem Jq (a m b : Nat) (L : Value) (g n cap : Nat) (f : Nat → Nat) (w : World) (o : DJ w g n cap f) (a1 : a < m) (a2 : m < b) (hb : b ≤ n) (R : n ≤ 1000000000) :
    Calls Tryz.prog 294 #[.slice (some ⟨g,0,none⟩) n cap,N a,N m,N b,L] w fun e w'=>e=.returned (.tuple #[])/\DJ w' g n cap (aK f a m b)/\ah (fun k=>k=g) w w':=by
  have F:=ad (fun a b k f w (h:DJ w g n cap f) (U:a+k<=b) (V:b+k<=n)=>Ii a b k L g n cap f w h U V R);have a4:IntKind.i64.wrap ((m:Int) - a)=((m - a:Nat):Int):=(by rw [awQd _ (by omega)];omega);have a5:IntKind.i64.wrap ((b:Int) - m)=((b - m:Nat):Int):=(by rw [awQd _ (by omega)];omega);go_enter Tryz.func294, Tryz.ntmps294;go_wp2_with fail;go_loopw [10,11] (fun G I wr=>∃ (i j:Nat) (d:Nat->Nat),G=N i/\I=N j/\1<=i/\1<=j/\i<=m - a/\j<=b - m/\DJ wr g n cap d/\Hid (∀ p,aK d (m - i) m (m+j) p=aK f a m b p)/\ah (fun k=>k=g) w wr) (fun G I _=>(intOf G).toNat+(intOf I).toNat);case atStart=>exact⟨m - a,b - m,f,by first | rfl | go_num,by first | rfl | go_num,by omega,by omega,am _,am _,o,fun p=>by rw [show m - (m - a)=a by omega,show m+(b - m)=b by omega],ah.refl _ w⟩
  case round=>
    clear o;obtain⟨i,j,d,rfl,rfl,X,Y,Z,aa,o,J,K⟩:=hrel;have a6:IntKind.i64.wrap ((m:Int) - i)=((m - i:Nat):Int):=(by rw [awQd _ (by omega)];omega);rcases nX i j with h | h | h
    · have ab:((i:Int) == j)=false:=(by simp;omega);have ac:i≠j:=(by omega);have aj:¬(j:Int)<i:=(by omega);have a7:IntKind.i64.wrap ((m:Int)+j)=((m+j:Nat):Int):=(by rw [awQd _ (by omega)];omega);have aC:IntKind.i64.wrap (((m+j:Nat):Int) - i)=((m+j - i:Nat):Int):=(by rw [awQd _ (by omega)];omega);have ak:IntKind.i64.wrap ((j:Int) - i)=((j - i:Nat):Int):=(by rw [awQd _ (by omega)];omega);have q:=ad (F.out (m - i) (m+j - i) i d wr o (by omega) (by omega));have z:Hid (∀ p,aK (iL d (m - i) (m+j - i) i) (m - i) m (m+(j - i)) p=aK f a m b p):=fun p=>(by rw [Js d m i j p (by omega) h];exact J.out p);have A:1<=j - i/\j - i<j/\j - i<=b - m:=(by omega);generalize M:m - i=O at *;have ap:=ad M;clear M;generalize m+j - i=mj at *;generalize m+j=bb at *;generalize j - i=ji at *;go_wp2_with fail;refine q.out.mono ?_;rintro e Q ⟨rfl,B,D⟩;go_wp2_with fail;go_roundw;case rel=>exact⟨i,ji,_,rfl,rfl,X,A.1,Z,A.2.2,B,(by rw [ap.out];exact z),K.trans D (fun _ _ h=>h)⟩
      case measure=>simp [intOf];omega
    · subst h;have q:=ad (F.out (m - i) m i d wr o (by omega) (by omega));have z:Hid (∀ p,iL d (m - i) m i p=aK f a m b p):=fun p=>(by rw [Ju d m i p (by omega)];exact J.out p);generalize m - i=O at *;go_wp2_with fail;refine q.out.mono ?_;rintro e Q ⟨rfl,B,D⟩;go_wp2_with fail;go_end0;exact⟨rfl,B.congr fun p _=>(z.out p).symm,K.trans D (fun _ _ h=>h)⟩
    · have ab:((i:Int) == j)=false:=(by simp;omega);have ac:i≠j:=(by omega);have aj:(j:Int)<i:=(by omega);have ak:IntKind.i64.wrap ((i:Int) - j)=((i - j:Nat):Int):=(by rw [awQd _ (by omega)];omega);have q:=ad (F.out (m - i) m j d wr o (by omega) (by omega));have z:Hid (∀ p,aK (iL d (m - i) m j) (m - (i - j)) m (m+j) p=aK f a m b p):=fun p=>(by rw [Jt d m i j p (by omega) h];exact J.out p);have A:1<=i - j/\i - j<i/\i - j<=m - a:=(by omega);generalize m - i=O at *;generalize i - j=ij at *;go_wp2_with fail;refine q.out.mono ?_;rintro e Q ⟨rfl,B,D⟩;go_wp2_with fail;go_roundw;case rel=>exact⟨ij,j,_,rfl,rfl,A.1,Y,A.2.2,aa,B,z,K.trans D (fun _ _ h=>h)⟩
      case measure=>simp [intOf];omega
theorem ux(i j:Nat)(h:i+j<=4000000000):IntKind.i64.wrap ((i:Int)+j)=((i+j:Nat):Int)/\IntKind.u64.wrap ((i+j:Nat):Int)=((i+j:Nat):Int)/\((i+j:Nat):Int) / 2=(((i+j) / 2:Nat):Int)/\IntKind.i64.wrap (((i+j) / 2:Nat):Int)=(((i+j) / 2:Nat):Int):=by
  refine⟨?_,euQb _ (by omega),by omega,awQd _ (by omega)⟩;rw [awQd _ (by omega)];omega
theorem If {k : Nat} {ak : Array Value} {g : Nat} {key : Nat → Nat} {ok : Nat → Prop} {I : World → Prop} (M : nT k ak g key ok I) (a b n cap : Nat) (f : Nat → Nat) (w : World) (G : DJ w g n cap f) (hI : I w) (cb : a + 1 < b) (hb : b ≤ n) (hn : n ≤ 1000000000)
    (hok:∀ p,a<=p->p<b->ok (f p)) (hah:nj f a (a+1) b) (hs2:bD key f (a+1) b) :
    Calls Tryz.prog 288 #[.slice (some ⟨g,0,none⟩) n cap,N a,N (a+1),N b,.func (.func k) #[] ak] w fun e w'=>e=.returned (.tuple #[])/\∃ f',DJ w' g n cap f'/\cw f f' a b/\bD key f' a b/\ah (fun k=>k=g) w w':=by
  obtain⟨ch,bb⟩:=G.caps;unfold maxLen at bb;have cj:=M.ent;have HK:=ad M;have a1:=ad hok;have bc:=ad hah;have O:=ad hs2;clear M hok hah hs2;have bd:(((a+1:Nat):Int) - a == 1)=true:=(by simp;omega);have a2:((a+1:Nat):Int) - a=1:=(by omega);have bf:IntKind.i64.wrap (((a+1:Nat):Int) - a)=1:=(by rw [a2];exact awQd _ (by omega));obtain⟨m,Q⟩:∃ m,m=a+1:=⟨_,rfl⟩;rw [<- Q]at bd a2 bf ⊢;have z:=ad Q;have ck:a<m:=(by omega);have cl:m<b:=(by omega);clear Q;go_enter Tryz.func288, Tryz.ntmps288;go_wp2_with fail;go_loopw [10,11] (fun R U wr=>∃ (i j:Nat),R=N i/\U=N j/\m<=i/\i<=j/\j<=b/\Hid (∀ p,m<=p->p<i->bp key (f p) (f a))/\Hid (∀ p,j<=p->p<b->bp key (f a) (f p))/\∃ q,wr=w.drewN q) (fun R U _=>(intOf U).toNat - (intOf R).toNat);case atStart=>exact⟨m,b,rfl,rfl,am _,by omega,am _,fun p D A=>by omega,fun p D A=>by omega,0,rfl⟩
  case round=>
    obtain⟨i,j,rfl,rfl,hi,cm,V,X,Y,q,rfl⟩:=hrel;by_cases cn:i<j
    · have bl:(i:Int)<j:=(by omega);obtain⟨D,A,h3,h4⟩:=ux i j (by omega);have bm:i<=(i+j) / 2:=(by omega);have cs:(i+j) / 2<j:=(by omega);generalize (i+j) / 2=h at *;generalize i+j=ij at *;have c1:=(G.fr ((Fr.refl w).drewN q)).cell h (by omega);have c2:=(G.fr ((Fr.refl w).drewN q)).cell a (by omega);have HC:=ad (fun r=>HK.out.call (f h) (f a) (HK.out.fr hI (((Fr.refl w).drewN q).drewN r)) (a1.out h (by omega) (by omega)) (a1.out a (by omega) (by omega)));have a3:=uI (key (f h)) (key (f a));generalize hW:w.drewN q=W at *;have HW:=ad hW;clear hW;have Z:=ad (yV (key:=key) bc.out (am a) (by omega) (show a+1<=h by have:=z.out;omega) (by omega));have bv:Hid (key (f h)<key (f a)->∀ p,m<=p->p<h+1->bp key (f p) (f a)):=fun e p D A=>by
        have F:=Z.out.1.1 e;by_cases c:p=h;· rw [c];exact F
        · exact ki (O.out p h (by have:=z.out;omega) (by omega) (by omega)) F
      have bx:Hid (¬key (f h)<key (f a)->∀ p,h<=p->p<b->bp key (f a) (f p)):=fun e p D A=>by
        have F:=Z.out.2.1 e;by_cases c:p=h;· rw [c];exact F
        · exact ki F (O.out h p (by have:=z.out;omega) (by omega) (by omega))
      have i1:(0:Int)<=h:=(by omega);have i2:(h:Int)<n:=(by omega);have i3:(0:Int)<=a:=(by omega);have i4:(a:Int)<n:=(by omega);have cu:IntKind.i64.wrap ((h:Int)+1)=((h+1:Nat):Int):=(by rw [awQd _ (by omega)];omega);clear Z;generalize J:f h=x at *;generalize K:f a=y at *;have HX:=ad J;have HY:=ad K;clear J K;generalize b4:jO (key x) (key y)=cv at *;have c4:decide (cv<0)=decide (key x<key y):=(by simp [a3]);generalize b6:key x=kx at *;generalize b7:key y=ky at *;clear a3 b4 b6 b7;go_upto_region 5 with fail;go_quiet ((exact mHQb (HC.out _)));by_cases L:kx<ky
      · have b8:decide (kx<ky)=true:=btQc L;go_wp2_with fail;go_roundw;case rel=>exact⟨h+1,j,by go_num,rfl,by omega,by omega,V,bv.out L,Y,q+nq,by rw [<- HW.out,nm]⟩
        case measure=>simp [intOf];omega
      · have b8:decide (kx<ky)=false:=aX L;go_wp2_with fail;go_roundw;case rel=>exact⟨i,h,rfl,rfl,hi,bm,by omega,X,bx.out L,q+nq,by rw [<- HW.out,nm]⟩
        case measure=>simp [intOf];omega
    · obtain rfl:i=j:=(by omega);have c5:¬((i:Int)<i):=(by omega);have a6:=G.fr ((Fr.refl w).drewN q);have a7:ah (fun k=>k=g) w (w.drewN q):=((Fr.refl w).drewN q).chg _;have b9:=ad (LB key f a b i O.out (by have:=z.out;omega) V (fun p D A=>X.out p (by have:=z.out;omega) A) Y.out);have bA:=ad ((ue f a (a+1) i (by omega) (by have:=z.out;omega)).widen (am a) (by have:=z.out;omega) V);have c6:IntKind.i64.wrap ((i:Int) - 1)=((i - 1:Nat):Int):=(by rw [awQd _ (by omega)];omega);clear X Y hI;generalize w.drewN q=wq at *;go_wp2_with fail;go_loopw [13] (fun kv wr=>∃ (c:Nat) (o:Nat->Nat),kv=N c/\a<=c/\c+1<=i/\DJ wr g n cap o/\Hid (∀ p,o p=aK f a (a+1) (c+1) p)/\ah (fun k=>k=g) w wr) (fun kv _=>i - (intOf kv).toNat);case atStart=>exact⟨a,f,rfl,am _,by omega,a6,fun p=>(Be f a (a+1) p).symm,a7⟩
      case round=>
        clear a6 a7;obtain⟨c,o,rfl,bB,c8,B,HF,hc⟩:=hrel;by_cases c9:c<i - 1
        · have bl:(c:Int)<((i - 1:Nat):Int):=(by omega);have cA:IntKind.i64.wrap ((c:Int)+1)=((c+1:Nat):Int):=(by rw [awQd _ (by omega)];omega);have c1:=B.cell c (by omega);have c2:=B.cell (c+1) (by omega);have z1:=B.frozen c (by omega);have z2:=B.frozen (c+1) (by omega);have bL:=ad (B.swap c (c+1) (by omega) (by omega));have bR:Hid (∀ p,jD o c (c+1) p=aK f a (a+1) (c+1+1) p):=fun p=>(by have e:o=aK f a (a+1) (c+1):=funext fun p=>HF.out p;rw [e];exact Jr f a c p bB);have i1:(0:Int)<=c:=(by omega);have i2:(c:Int)<n:=(by omega);have i5:c<n:=(by omega);have i6:c+1<n:=(by omega);have cL:c≠c+1:=(by omega);have cN:c+1≠c:=(by omega);have bT:c+1+1<=i:=(by omega);generalize J:o c=x at *;generalize K:o (c+1)=y at *;generalize ba:c+1=d at *;have ca:a<=d/\c<d:=(by omega);have i3:(0:Int)<=d:=(by omega);have i4:(d:Int)<n:=(by omega);have HD:=ad ba;clear J K ba HF;go_upto_region 11 with fail;go_region;all_goals go_wp2_with fail
          all_goals go_roundw
          case rel=>exact⟨d,jD o c d,rfl,ca.1,bT,bL.out.fr (Fr.drew (Fr.refl _)),bR,hc.trans ((tR wr g c d _ _).trans ((Fr.drew (Fr.refl _)).chg (fun k=>k=g)) (fun _ _ h=>h)) (fun _ _ h=>h)⟩
          case measure=>simp [intOf];omega
        · obtain rfl:i=c+1:=(by omega);have cT:¬((c:Int)<((c+1 - 1:Nat):Int)):=(by omega);go_wp2_with fail;refine aLQc (results_none rfl _ _ _) rfl ?_;have e:o=aK f a (a+1) (c+1):=funext fun p=>HF.out p;exact⟨rfl,o,B,by rw [e];exact bA.out,by rw [e];exact b9.out,hc⟩
theorem Ie {k : Nat} {av : Array Value} {g : Nat} {key : Nat → Nat} {ok : Nat → Prop} {I : World → Prop} (Q : nT k av g key ok I) (a m n cap : Nat) (f : Nat → Nat) (w : World) (G : DJ w g n cap f) (hI : I w) (cc : a + 1 < m) (hb : m + 1 ≤ n) (hn : n ≤ 1000000000)
    (hok:∀ p,a<=p->p<m+1->ok (f p)) (hah:nj f a m (m+1)) (hs1:bD key f a m) :
    Calls Tryz.prog 288 #[.slice (some ⟨g,0,none⟩) n cap,N a,N m,N (m+1),.func (.func k) #[] av] w fun e w'=>e=.returned (.tuple #[])/\∃ f',DJ w' g n cap f'/\cw f f' a (m+1)/\bD key f' a (m+1)/\ah (fun k=>k=g) w w':=by
  obtain⟨cj,bc⟩:=G.caps;unfold maxLen at bc;have ck:=Q.ent;have HK:=ad Q;have a3:=ad hok;have bd:=ad hah;have R:=ad hs1;clear Q hok hah hs1;have cl:(((m - a:Nat):Int) == 1)=false:=(by simp;omega);have cm:¬((m - a:Nat)=1):=(by omega);have cn:IntKind.i64.wrap ((m:Int) - a)=((m - a:Nat):Int):=(by rw [awQd _ (by omega)];omega);have bf:IntKind.i64.wrap (((m+1:Nat):Int) - m)=1:=(by rw [awQd _ (by omega)];omega);generalize m - a=ma at *;obtain⟨b,U⟩:∃ b,b=m+1:=⟨_,rfl⟩;rw [<- U]at bf ⊢;have HB:=ad U;have cq:m<b:=(by omega);have cs:b<=n:=(by omega);clear U;go_enter Tryz.func288, Tryz.ntmps288;go_wp2_with fail;go_loopw [14,15] (fun V X wr=>∃ (i j:Nat),V=N i/\X=N j/\a<=i/\i<=j/\j<=m/\Hid (∀ p,a<=p->p<i->bp key (f p) (f m))/\Hid (∀ p,j<=p->p<m->bp key (f m) (f p))/\∃ q,wr=w.drewN q) (fun V X _=>(intOf X).toNat - (intOf V).toNat);case atStart=>exact⟨a,m,rfl,rfl,am _,by omega,am _,fun p A J=>by omega,fun p A J=>by omega,0,rfl⟩
  case round=>
    obtain⟨i,j,rfl,rfl,Y,ct,K,Z,HH,q,rfl⟩:=hrel;by_cases cu:i<j
    · have bl:(i:Int)<j:=(by omega);obtain⟨A,J,h3,h4⟩:=ux i j (by omega);have bm:i<=(i+j) / 2:=(by omega);have c4:(i+j) / 2<j:=(by omega);generalize (i+j) / 2=h at *;generalize i+j=ij at *;have c1:=(G.fr ((Fr.refl w).drewN q)).cell h (by omega);have c2:=(G.fr ((Fr.refl w).drewN q)).cell m (by omega);have HC:=ad (fun r=>HK.out.call (f m) (f h) (HK.out.fr hI (((Fr.refl w).drewN q).drewN r)) (a3.out m (by omega) (by omega)) (a3.out h (by omega) (by omega)));have a4:=uI (key (f m)) (key (f h));generalize hW:w.drewN q=W at *;have HW:=ad hW;clear hW;have HA:=ad (yV (key:=key) bd.out (show a<=h by omega) (show h<m by omega) (am m) (by omega));have bv:Hid (¬key (f m)<key (f h)->∀ p,a<=p->p<h+1->bp key (f p) (f m)):=fun e p A J=>by
        have B:=HA.out.2.1 e;by_cases c:p=h;· rw [c];exact B
        · exact ki (R.out p h A (by omega) (by omega)) B
      have bx:Hid (key (f m)<key (f h)->∀ p,h<=p->p<m->bp key (f m) (f p)):=fun e p A J=>by
        have B:=HA.out.1.1 e;by_cases c:p=h;· rw [c];exact B
        · exact ki B (R.out h p (by omega) (by omega) (by omega))
      have i1:(0:Int)<=h:=(by omega);have i2:(h:Int)<n:=(by omega);have i3:(0:Int)<=m:=(by omega);have i4:(m:Int)<n:=(by omega);have c6:IntKind.i64.wrap ((h:Int)+1)=((h+1:Nat):Int):=(by rw [awQd _ (by omega)];omega);clear HA;generalize L:f m=x at *;generalize M:f h=y at *;have HX:=ad L;have HY:=ad M;clear L M;generalize b4:jO (key x) (key y)=cv at *;have b5:decide (cv<0)=decide (key x<key y):=(by simp [a4]);have c9:decide ((0:Int)<=cv) = !decide (key x<key y):=(by rw [<- b5];by_cases h:cv<0 <;> simp [h] <;> omega);generalize b6:key x=D at *;generalize b7:key y=F at *;clear a4 b4 b6 b7;go_upto_region 17 with fail;go_quiet ((exact mHQb (HC.out _)));by_cases O:D<F
      · have aj:decide (D<F)=true:=btQc O;have b8:decide (F<=D)=false:=aX (by omega);simp only [aj,Bool.not_true];go_wp2_with fail;go_roundw;case rel=>exact⟨i,h,rfl,rfl,Y,bm,by omega,Z,bx.out O,q+nq,by rw [<- HW.out,nm]⟩
        case measure=>simp [intOf];omega
      · have aj:decide (D<F)=false:=aX O;have b8:decide (F<=D)=true:=btQc (by omega);simp only [aj,Bool.not_false];go_wp2_with fail;go_roundw;case rel=>exact⟨h+1,j,by go_num,rfl,by omega,by omega,K,bv.out O,HH,q+nq,by rw [<- HW.out,nm]⟩
        case measure=>simp [intOf];omega
    · obtain rfl:i=j:=(by omega);have cA:¬((i:Int)<i):=(by omega);have a7:=G.fr ((Fr.refl w).drewN q);have aC:ah (fun k=>k=g) w (w.drewN q):=((Fr.refl w).drewN q).chg _;have b9:=ad (CK key f a i m R.out Y K Z.out HH.out);have bA:=ad ((ue f i m (m+1) K (by omega)).widen Y (by omega) (am _));clear Z HH hI;generalize w.drewN q=wq at *;go_wp2_with fail;go_loopw [17] (fun kv wr=>∃ (c:Nat) (o:Nat->Nat),kv=N c/\i<=c/\c<=m/\DJ wr g n cap o/\Hid (∀ p,o p=aK f c m (m+1) p)/\ah (fun k=>k=g) w wr) (fun kv _=>(intOf kv).toNat);case atStart=>exact⟨m,f,rfl,K,am _,a7,fun p=>(wI f m (m+1) p (by omega)).symm,aC⟩
      case round=>
        clear a7 aC;obtain⟨c,o,rfl,cE,bB,z,HF,hc⟩:=hrel;by_cases cF:i<c
        · have bl:(i:Int)<(c:Int):=(by omega);have cG:IntKind.i64.wrap ((c:Int) - 1)=((c - 1:Nat):Int):=(by rw [awQd _ (by omega)];omega);have c1:=z.cell c (by omega);have c2:=z.cell (c - 1) (by omega);have z1:=z.frozen c (by omega);have z2:=z.frozen (c - 1) (by omega);have bL:=ad (z.swap c (c - 1) (by omega) (by omega));have bR:Hid (∀ p,jD o c (c - 1) p=aK f (c - 1) m (m+1) p):=fun p=>(by have e:o=aK f c m (m+1):=funext fun p=>HF.out p;rw [e];exact Bd f m c p bB (by omega));have i1:(0:Int)<=c:=(by omega);have i2:(c:Int)<n:=(by omega);have i5:c<n:=(by omega);have bT:i<=c - 1/\c - 1<c/\c - 1<n/\c - 1<=m:=(by omega);generalize L:o c=x at *;generalize M:o (c - 1)=y at *;generalize bb:c - 1=d at *;obtain⟨d1,d2,d3,d4⟩:=bT;have dc:c≠d:=(by omega);have di:d≠c:=(by omega);have i3:(0:Int)<=d:=(by omega);have i4:(d:Int)<n:=(by omega);have HD:=ad bb;clear L M bb HF;go_upto_region 23 with fail;go_region;all_goals go_wp2_with fail
          all_goals go_roundw
          case rel=>exact⟨d,jD o c d,rfl,d1,d4,bL.out.fr (Fr.drew (Fr.refl _)),bR,hc.trans ((tR wr g c d _ _).trans ((Fr.drew (Fr.refl _)).chg (fun k=>k=g)) (fun _ _ h=>h)) (fun _ _ h=>h)⟩
          case measure=>simp [intOf];omega
        · obtain rfl:i=c:=(by omega);have dr:¬((i:Int)<(i:Int)):=(by omega);go_wp2_with fail;refine aLQc (results_none rfl _ _ _) rfl ?_;have e:o=aK f i m (m+1):=funext fun p=>HF.out p;rw [HB.out];exact⟨rfl,o,z,by rw [e];exact bA.out,by rw [e];exact b9.out,hc⟩
def yX(k:Nat)(d:Array Value)(g n cap:Nat)(key:Nat->Nat)(h:Nat->Prop)(I:World->Prop)(a m b:Nat):Prop:=
 ∀ (f : Nat → Nat) (w : World), DJ w g n cap f → I w → (∀ p, a ≤ p → p < b → h (f p)) → nj f a m b → bD key f a m → bD key f m b →
  Calls Tryz.prog 288 #[.slice (some ⟨g,0,none⟩) n cap,N a,N m,N b,.func (.func k) #[] d] w fun e w'=>e=.returned (.tuple #[])/\∃ f',DJ w' g n cap f'/\cw f f' a b/\bD key f' a b/\ah (fun k=>k=g) w w'
theorem Ic {k : Nat} {a6 : Array Value} {g : Nat} {key : Nat → Nat} {ok : Nat → Prop} {I : World → Prop} (hk : nT k a6 g key ok I) (a m b n cap : Nat) (gv : a + 1 < m) (g0 : m + 1 < b) (hb : b ≤ n) (hn : n ≤ 1000000000)
    (ih:∀ a' m' b',b' - a'<b - a->a'<m'->m'<b'->b'<=n->yX k a6 g n cap key ok I a' m' b'):yX k a6 g n cap key ok I a m b:=by
  intro f w hd hI ck cl cm Z;obtain⟨cn,b1⟩:=hd.caps;unfold maxLen at b1;have g1:=hk.ent;have HK:=ad hk;have b2:=ad ck;have b3:=ad cl;have aC:=ad cm;have ba:=ad Z;have cp:=ad ih;have bb:=ad hI;clear hk ck cl cm Z ih hI;have g2:(((m - a:Nat):Int) == 1)=false:=(by simp;omega);have g3:¬((m - a:Nat)=1):=(by omega);have g4:IntKind.i64.wrap ((m:Int) - a)=((m - a:Nat):Int):=(by rw [awQd _ (by omega)];omega);have g5:(((b - m:Nat):Int) == 1)=false:=(by simp;omega);have g7:¬((b - m:Nat)=1):=(by omega);have g8:IntKind.i64.wrap ((b:Int) - m)=((b - m:Nat):Int):=(by rw [awQd _ (by omega)];omega);generalize m - a=ma at *;generalize b - m=bm at *;obtain⟨e1,e2,e3,e4⟩:=ux a b (by omega);have dE:a<(a+b) / 2/\(a+b) / 2<b:=(by omega);obtain⟨d,cs⟩:∃ d,d=(a+b) / 2:=⟨_,rfl⟩;have dT:2*d<=a+b/\a+b<=2*d+1:=(by omega);rw [<- cs]at e3 e4 dE;clear cs;generalize a+b=ab at e1 e2 e3;have ct:IntKind.i64.wrap ((d:Int)+m)=((d+m:Nat):Int):=(by rw [awQd _ (by omega)];omega);have cu:IntKind.i64.wrap (((d+m:Nat):Int) - 1)=((d+m - 1:Nat):Int):=(by rw [awQd _ (by omega)];omega);obtain⟨o,ac⟩:∃ o,o=d+m:=⟨_,rfl⟩;rw [<- ac]at ct cu;go_enter Tryz.func288, Tryz.ntmps288;go_upto_if 140 with fail;go_cut [20,21]from 138 to 146 (fun sv rv J=>∃ B D:Nat,sv=N B/\rv=N D/\a<=B/\B<=D/\D<=m/\o - B<=b/\m<=o - D/\Hid (B=a\/o - B=b)/\Hid (D=m\/o - D=m)/\w=J)
  case first=>
    by_cases hc:d<m;· have ec:(d:Int)<m:=(by omega);have hf:IntKind.i64.wrap ((o:Int) - b)=((o - b:Nat):Int):=(by rw [awQd _ (by omega)];omega);have R:a<=o - b/\o - b<=d/\d<=m/\o - (o - b)<=b/\m<=o - d:=(by omega);have ef:Hid (o - b=a\/o - (o - b)=b):=.inr (by omega);have eq:Hid (d=m\/o - d=m):=.inr (by omega);have a3:=ad ac;clear ac;go_wp2_with fail;go_meet;exact⟨o - b,d,by have:=a3.out;first | rfl | (congr 1;omega),rfl,R.1,R.2.1,R.2.2.1,R.2.2.2.1,R.2.2.2.2,ef,eq,by first | rfl | trivial⟩
    · have ec:¬(d:Int)<m:=(by omega);have R:o - a<=b/\m<=o - m:=(by omega);clear ac;go_wp2_with fail;go_meet;exact⟨a,m,rfl,rfl,am _,by omega,am _,R.1,R.2,.inl rfl,.inl rfl,by first | rfl | trivial⟩
  case rest=>
    obtain⟨B,D,rfl,rfl,er,c0,c3,es,ev,HL,HH,rfl⟩:=hcut;have a3:=ad ac;have c6:∀ x,B<=x->x<D->m<=d+m - 1 - x/\d+m - 1 - x<b/\x<=d+m - 1:=fun x F G=>(by omega);have b4:=ad c6;have e0:2*d<=a+b/\m<=n/\d<=n:=(by omega);clear ac ct cu c6;go_wp2_with fail;go_loopw [20,21] (fun sv rv wr=>∃ (s r:Nat),sv=N s/\rv=N r/\B<=s/\s<=r/\r<=D/\Hid (∀ x,B<=x->x<s->bp key (f x) (f (d+m - 1 - x)))/\Hid (∀ x,r<=x->x<D->bp key (f (d+m - 1 - x)) (f x))/\∃ q,wr=w.drewN q) (fun sv rv _=>(intOf rv).toNat - (intOf sv).toNat);case atStart=>exact⟨B,D,rfl,rfl,am _,c0,am _,fun p F G=>by omega,fun p F G=>by omega,0,rfl⟩
    case round=>
      obtain⟨s,r,rfl,rfl,hs,e5,hr,HX,HY,q,rfl⟩:=hrel;by_cases e6:s<r
      · have hg:(s:Int)<r:=(by omega);obtain⟨j1,j2,j3,j4⟩:=ux s r (by omega);have e7:s<=(s+r) / 2:=(by omega);have hp:(s+r) / 2<r:=(by omega);generalize (s+r) / 2=c at *;generalize s+r=sr at *;obtain⟨p1,p2,p3⟩:=b4.out c (by omega) (by omega);have c1:=(hd.fr ((Fr.refl w).drewN q)).cell (d+m - 1 - c) (by omega);have c2:=(hd.fr ((Fr.refl w).drewN q)).cell c (by omega);have HC:=ad (fun r=>HK.out.call (f (d+m - 1 - c)) (f c) (HK.out.fr bb.out (((Fr.refl w).drewN q).drewN r)) (b2.out _ (by omega) (by omega)) (b2.out c (by omega) (by omega)));have c9:=uI (key (f (d+m - 1 - c))) (key (f c));have b7:=ad (IP key f a m b B D (d+m - 1) c aC.out ba.out er c3 b4.out (by omega) (by omega));have HA:=ad (yV (key:=key) b3.out (show a<=c by omega) (show c<m by omega) p1 p2);have fa:(d:Int)+m - 1 - c=((d+m - 1 - c:Nat):Int):=(by omega);have hv:IntKind.i64.wrap ((d:Int)+m - 1 - c)=((d+m - 1 - c:Nat):Int):=(by rw [fa];exact awQd _ (by omega));have hw:d+m - 1 - c<n:=(by omega);generalize hW:w.drewN q=W at *;have HW:=ad hW;clear hW;have fb:Hid (¬key (f (d+m - 1 - c))<key (f c)->∀ x,B<=x->x<c+1->bp key (f x) (f (d+m - 1 - x))):=fun e=>b7.out.1 (HA.out.2.1 e);have fc:Hid (key (f (d+m - 1 - c))<key (f c)->∀ x,c<=x->x<D->bp key (f (d+m - 1 - x)) (f x)):=fun e=>b7.out.2 (HA.out.1.1 e);have i1:(0:Int)<=c:=(by omega);have i2:(c:Int)<n:=(by omega);have i5:c<n:=(by omega);have h7:IntKind.i64.wrap ((c:Int)+1)=((c+1:Nat):Int):=(by rw [awQd _ (by omega)];omega);clear HA b7;have h8:(0:Int)<=((d+m - 1 - c:Nat):Int):=(by omega);have h9:((d+m - 1 - c:Nat):Int)<n:=(by omega);generalize d+m - 1 - c=pc at *;generalize hx:f pc=x at *;generalize hy:f c=y at *;have hA:=ad hx;have hB:=ad hy;clear hx hy;generalize fh:jO (key x) (key y)=cv at *;have hE:decide (cv<0)=decide (key x<key y):=(by simp [c9]);generalize fk:key x=kx at *;generalize fl:key y=ky at *;clear c9 fh fk fl;go_upto_region 35 with fail;go_quiet ((exact mHQb (HC.out _)));by_cases bc:kx<ky
        · have bB:decide (kx<ky)=true:=btQc bc;simp only [bB,Bool.not_true];go_wp2_with fail;go_roundw;case rel=>exact⟨s,c,rfl,rfl,hs,e7,by omega,HX,fc.out bc,q+nq,by rw [<- HW.out,nm]⟩
          case measure=>simp [intOf];omega
        · have bB:decide (kx<ky)=false:=aX bc;simp only [bB,Bool.not_false];go_wp2_with fail;go_roundw;case rel=>exact⟨c+1,r,by go_num,rfl,by omega,by omega,hr,fb.out bc,HY,q+nq,by rw [<- HW.out,nm]⟩
          case measure=>simp [intOf];omega
      · obtain rfl:s=r:=(by omega);have hG:¬((s:Int)<s):=(by omega);have bL:=hd.fr ((Fr.refl w).drewN q);have bT:ah (fun k=>k=g) w (w.drewN q):=((Fr.refl w).drewN q).chg _;have hH:=ad (HK.out.fr bb.out ((Fr.refl w).drewN q));obtain⟨e,he⟩:∃ e,e=d+m - s:=⟨_,rfl⟩;have fm:a<=s/\s<=m/\m<=e/\e<=b:=(by have:=a3.out;omega);have U:Hid (e+s=d+m):=(by show _=_;omega);have fn:Hid (a<s->e<b->bp key (f (s - 1)) (f e)):=fun F G=>by
          have hl:B<=s - 1:=by
            rcases HL.out with h | h;· omega
            · have:=a3.out;omega
          have:=HX.out (s - 1) hl (by omega);rw [show d+m - 1 - (s - 1)=e by omega]at this;exact this
        have fr:Hid (s<m->m<e->bp key (f (e - 1)) (f s)):=fun F G=>by
          have hl:s<D:=by
            rcases HH.out with h | h;· omega
            · have:=a3.out;omega
          have:=HY.out s (am _) hl;rw [show d+m - 1 - s=e - 1 by omega]at this;exact this
        obtain⟨L,V,M,O⟩:=fm;have fv:=ad (H7 L V M O U.out aC.out ba.out fn.out fr.out);have cL:=ad (Hy L V M O U.out aC.out);have cN:=ad (Hx L V M O U.out ba.out);have f0:=ad (Hw L V M O U.out aC.out);have f1:=ad (Hv L V M O U.out ba.out);have f4:=ad (Ia L V M O U.out b3.out);have f5:=ad (H8 L V M O U.out b3.out);have cR:=ad (ue f s m e V M);have cT:Hid (∀ p,a<=p->p<b->ok (aK f s m e p)):=fun p F G=>(by obtain⟨q,h3,h4,h5⟩:=(cR.out.widen L (by omega) O).mem p F G;rw [h5];exact b2.out q h3 h4);have hJ:IntKind.i64.wrap ((d:Int)+m - s)=(e:Int):=(by rw [awQd _ (by omega)];omega);have hK:s<=d/\d<=e:=(by have:=U.out;omega);have HE:=ad he;clear he es ev c0 hs hr e5 c3 e6 HX HY HL HH b4 e0 dT;generalize w.drewN q=wq at *;clear hd;go_upto_region 39 with fail;go_cut [185]from 178 to 185 (fun cv J=>cv=.bool (decide (s<m) && decide (m<e))/\wq=J)
        case first=>
          by_cases K:s<m
          · by_cases X:m<e;· have Y:(s:Int)<m:=(by omega);have a4:(m:Int)<e:=(by omega);go_wp2_with fail;go_meet;exact⟨by simp [K,X],rfl⟩
            · have Y:(s:Int)<m:=(by omega);have a4:¬(m:Int)<e:=(by omega);go_wp2_with fail;go_meet;exact⟨by simp [K,X],rfl⟩
          · have Y:¬(s:Int)<m:=(by omega);go_wp2_with fail;go_meet;exact⟨by simp [K],rfl⟩
        case rest=>
          obtain⟨rfl,rfl⟩:=hcut;have dc:=ad (fun(F:s<m) (G:m<e)=>Jq s m e (.func (.func k) #[] a6) g n cap f wq bL F G (by omega) hn);have di:Hid ((decide (s<m) && decide (m<e))=false->∀ p,aK f s m e p=f p):=fun h p=>by
            simp only [Bool.and_eq_false_iff,vj]at h;rcases h with h | h;· obtain rfl:s=m:=(by omega);exact wI f s e p M
            · obtain rfl:m=e:=(by omega);exact Be f s m p
          have cb:Hid ((decide (s<m) && decide (m<e))=true->s<m/\m<e):=fun h=>(by simpa using h);generalize (decide (s<m) && decide (m<e))=bR at *;go_upto_if 185 with fail;go_cut []from 186 to 191 (fun J=>DJ J g n cap (aK f s m e)/\ah (fun k=>k=g) w J)
          case first=>
            cases bR;· go_wp2_with fail;go_meet;exact⟨bL.congr fun p _=>di.out (by first | rfl | trivial) p,bT⟩
            · go_wp2_with fail;refine(dc.out (cb.out (by first | rfl | trivial)).1 (cb.out (by first | rfl | trivial)).2).mono ?_;rintro e' w1 ⟨rfl,a5,cn⟩;go_wp2_with fail;go_meet;exact⟨a5,bT.trans cn (fun _ _ h=>h)⟩
          case rest=>
            generalize cc:wc=wd at *;clear cc;obtain⟨a5,bd⟩:=hcut;clear dc di cb bT bL;have dv:=ad (HK.out.stay bb.out bd);go_upto_region 41 with fail;go_cut [199]from 192 to 199 (fun cv J=>cv=.bool (decide (a<s) && decide (s<d))/\wd=J)
            case first=>
              by_cases K:a<s
              · by_cases X:s<d;· have Y:(a:Int)<s:=(by omega);have a4:(s:Int)<d:=(by omega);go_wp2_with fail;go_meet;exact⟨by simp [K,X],rfl⟩
                · have Y:(a:Int)<s:=(by omega);have a4:¬(s:Int)<d:=(by omega);go_wp2_with fail;go_meet;exact⟨by simp [K,X],rfl⟩
              · have Y:¬(a:Int)<s:=(by omega);go_wp2_with fail;go_meet;exact⟨by simp [K],rfl⟩
            case rest=>
              obtain⟨rfl,rfl⟩:=hcut;have bf:=ad (fun(F:a<s) (G:s<d)=>cp.out a s d (by omega) F G (by omega) (aK f s m e) wd a5 dv.out (fun p x y=>cT.out p x (by omega)) f4.out cL.out cN.out);have bk:Hid ((decide (a<s) && decide (s<d))=false->bD key (aK f s m e) a d):=fun h=>by
                simp only [Bool.and_eq_false_iff,vj]at h;rcases h with h | h;· obtain rfl:a=s:=(by omega);exact cN.out
                · obtain rfl:s=d:=(by omega);exact cL.out
              have aj:Hid ((decide (a<s) && decide (s<d))=true->a<s/\s<d):=fun h=>(by simpa using h);generalize (decide (a<s) && decide (s<d))=fC at *;go_upto_if 199 with fail;go_cut []from 200 to 205 (fun J=>∃ A,DJ J g n cap A/\cw (aK f s m e) A a d/\bD key A a d/\ah (fun k=>k=g) w J)
              case first=>
                cases fC;· go_wp2_with fail;go_meet;exact⟨_,a5,cw.refl _ _ _,bk.out (by first | rfl | trivial),bd⟩
                · go_wp2_with fail;refine(bf.out (aj.out (by first | rfl | trivial)).1 (aj.out (by first | rfl | trivial)).2).mono ?_;rintro e' w1 ⟨rfl,A,bl,bs,Z,b1⟩;go_wp2_with fail;go_meet;exact⟨A,bl,bs,Z,bd.trans b1 (fun _ _ h=>h)⟩
              case rest=>
                generalize cc:wc=we at *;clear cc;obtain⟨A,bl,bs,Z,cf⟩:=hcut;clear bf bk aj a5;have fD:=ad (HK.out.stay bb.out cf);have ch:=ad bs;have fN:=ad Z;have ak:Hid (∀ p,d<=p->A p=aK f s m e p):=fun p h=>ch.out.1 p (.inr h);have fP:Hid (∀ p,d<=p->p<b->ok (A p)):=fun p F G=>(by rw [ak.out p F];exact cT.out p (by omega) G);have d1:=ad (f0.out.congr (g:=A) fun p h _=>ak.out p h);have d2:=ad (f1.out.congr (g:=A) fun p h _=>ak.out p (by omega));have fQ:Hid (nj A d e b):=fun p q x y z t=>(by rw [ak.out p x,ak.out q (by omega)];exact f5.out p q x y z t);clear bs Z bd dv;go_upto_region 43 with fail;go_cut [213]from 206 to 213 (fun cv J=>cv=.bool (decide (d<e) && decide (e<b))/\we=J)
                case first=>
                  by_cases K:d<e
                  · by_cases X:e<b;· have Y:(d:Int)<e:=(by omega);have a4:(e:Int)<b:=(by omega);go_wp2_with fail;go_meet;exact⟨by simp [K,X],rfl⟩
                    · have Y:(d:Int)<e:=(by omega);have a4:¬(e:Int)<b:=(by omega);go_wp2_with fail;go_meet;exact⟨by simp [K,X],rfl⟩
                  · have Y:¬(d:Int)<e:=(by omega);go_wp2_with fail;go_meet;exact⟨by simp [K],rfl⟩
                case rest=>
                  obtain⟨rfl,rfl⟩:=hcut;have bf:=ad (fun(F:d<e) (G:e<b)=>cp.out d e b (by omega) F G hb A we bl fD.out fP.out fQ.out d1.out d2.out);have bk:Hid ((decide (d<e) && decide (e<b))=false->bD key A d b):=fun h=>by
                    simp only [Bool.and_eq_false_iff,vj]at h;rcases h with h | h;· obtain rfl:d=e:=(by omega);exact d2.out
                    · obtain rfl:e=b:=(by omega);exact d1.out
                  have aj:Hid ((decide (d<e) && decide (e<b))=true->d<e/\e<b):=fun h=>(by simpa using h);generalize (decide (d<e) && decide (e<b))=fS at *;have d3:Hid (∀ Q,cw A Q d b->bD key Q d b->cw f Q a b/\bD key Q a b):=fun Q r3 q3=>by
                    refine⟨((cR.out.widen L (by omega) O).trans (ch.out.widen (am a) (by omega) (by omega))).trans (r3.widen (by omega) (by omega) (am b)),?_⟩;refine H6 key (aK f s m e) Q a d b (fN.out.congr fun p _ h=>r3.1 p (.inl h)) q3 (fun p x y=>?_) (fun p x y=>?_) fv.out;· rw [r3.1 p (.inl y)];exact ch.out.mem p x y
                    · obtain⟨q,x1,x2,x3⟩:=r3.mem p x y;exact⟨q,x1,x2,by rw [x3,ak.out q x1]⟩
                  cases fS;· go_wp2_with fail;go_end0;have:=d3.out A (cw.refl _ _ _) (bk.out (by first | rfl | trivial));exact⟨rfl,A,bl,this.1,this.2,cf⟩
                  · go_wp2_with fail;refine(bf.out (aj.out (by first | rfl | trivial)).1 (aj.out (by first | rfl | trivial)).2).mono ?_;rintro e' w1 ⟨rfl,Q,ge,gg,gi,gs⟩;go_wp2_with fail;go_end0;have:=d3.out Q gg gi;exact⟨rfl,Q,ge,this.1,this.2,cf.trans gs (fun _ _ h=>h)⟩
theorem Ib{k:Nat}{D:Array Value}{g:Nat}{key:Nat->Nat}{F:Nat->Prop}{I:World->Prop}(e:nT k D g key F I)(n cap:Nat)(h:n<=1000000000):∀ (c a m b:Nat),b - a<=c->a<m->m<b->b<=n->yX k D g n cap key F I a m b:=by
 intro c
 induction c with
 | zero=>intro a m b L M G d;omega
 | succ c O=>
  intro a m b L M G d;by_cases Q:m=a+1;· subst Q;intro f w o q A B J K;exact If e a b n cap f w o q G d h A B K
  · by_cases c2:b=m+1;· subst c2;intro f w o q A B J K;exact Ie e a m n cap f w o q (by omega) d h A B J
    · exact Ic e a m b n cap (by omega) (by omega) d h fun R U V x y z t=>O R U V (by omega) y z t
theorem I2 {k : Nat} {b0 : Array Value} {g : Nat} {key : Nat → Nat} {ok : Nat → Prop} {I : World → Prop} (hk : nT k b0 g key ok I) (n cap : Nat) (L : Nat → Nat) (w : World) (K : DJ w g n cap L) (hI : I w) (hn : n ≤ 1000000)
    (hok:∀ p,p<n->ok (L p)) (hup:∀ p q,p<q->q<n->L p<L q) :
    Calls Tryz.prog 272 #[.slice (some ⟨g,0,none⟩) n cap,N n,.func (.func k) #[] b0] w fun e w'=>e=.returned (.tuple #[])/\∃ f,DJ w' g n cap f/\cw L f 0 n/\bD key f 0 n/\ah (fun k=>k=g) w w':=by
  have b5:=ad (fun a b f w o A B h4 h5 h6=>MM hk a b n cap f w o A B h4 (by omega) h5 h6);have cn:=ad (fun a m b=>Ib hk n cap (by omega) (b - a) a m b (am _));have HK:=ad hk;have b8:=ad hok;have b9:=ad hup;clear hk hok hup;go_enter Tryz.func272, Tryz.ntmps272;go_wp2_with fail;go_loopw [7,8] (fun av bv wr=>∃ (t:Nat) (f:Nat->Nat),av=N (20*t)/\bv=N (20*t+20)/\20*t<=n/\DJ wr g n cap f/\Hid (fw key L f 20 n (20*t))/\Hid (∀ p,20*t<=p->f p=L p)/\ah (fun k=>k=g) w wr) (fun _ bv _=>n+21 - (intOf bv).toNat);case atStart=>exact⟨0,L,rfl,rfl,by omega,K,fw.start key L 20 n,fun _ _=>rfl,ah.refl _ w⟩
  case round=>
    clear K;obtain⟨t,f,rfl,rfl,ht,K,R,HF,D⟩:=hrel;have ba:=ad (HK.out.stay hI D);have U:=ad (fun b (o:20*t<=b) (A:b<=n)=>b5.out (20*t) b f wr K ba.out o A (fun p _ h=>R.out.okay b8.out p (by omega)) (fun p q B h4 h5=>by rw [HF.out p B,HF.out q (by omega)];exact b9.out p q h4 (by omega)));have M:=ad (fun f' b (O:cw f f' (20*t) b) (Q:bD key f' (20*t) b) o A B h4=>fw.step (by omega) R.out HF.out O Q o A B h4);by_cases bk:20*t+20<=n
    · have bA:((20*t+20:Nat):Int)<=n:=(by omega);have F:=ad (U.out (20*t+20) (by omega) bk);have G:=ad (fun f' O Q=>M.out f' (20*t+20) O Q (by omega) bk (am _) (.inl rfl));obtain⟨Y,bl⟩:∃ Y,Y=20*t+20:=⟨_,rfl⟩;obtain⟨a,ha⟩:∃ a,a=20*t:=⟨_,rfl⟩;rw [<- bl]at F G bk bA ⊢;rw [<- ha]at F G ⊢;have cp:IntKind.i64.wrap ((Y:Int)+20)=((Y+20:Nat):Int):=(by rw [awQd _ (by omega)];omega);have c4:n+21 - (Y+20)<n+21 - Y:=(by omega);have bb:=ad bl;have HA:=ad ha;clear ha bl U M ht R HF;go_wp2_with fail;refine F.out.mono ?_;rintro e w1 ⟨rfl,f',Z,aa,ab,ac⟩;have h9:=G.out f' aa ab;rw [show Y=20*(t+1) by have:=bb.out;omega]at h9;go_wp2_with fail;go_roundw;case rel=>exact⟨t+1,f',by have:=bb.out;show Value.int _ _=Value.int _ _;congr 1;omega,by have:=bb.out;show Value.int _ _=Value.int _ _;congr 1;omega,by have:=bb.out;omega,Z,h9.1,h9.2,D.trans ac (fun _ _ h=>h)⟩
      case measure=>simp [intOf];omega
    · have bA:¬((20*t+20:Nat):Int)<=n:=(by omega);have F:=ad (U.out n ht (am _));have G:=ad (fun f' O Q=>(M.out f' n O Q ht (am _) (by omega) (.inr rfl)).1);clear U M R HF;generalize 20*t+20=Y at *;generalize 20*t=a at *;go_wp2_with fail;refine F.out.mono ?_;rintro e w1 ⟨rfl,f1,Z,aa,ab,ac⟩;have bL:=ad (G.out f1 aa ab);have bR:=D.trans ac (fun _ _ h=>h);clear F G aa ab ac D K ba b5;go_wp2_with fail;go_loopw [6] (fun cv wr=>∃ (c:Nat) (f:Nat->Nat),cv=N c/\20<=c/\(c<=2*n\/c=20)/\DJ wr g n cap f/\Hid (fw key L f c n n)/\ah (fun k=>k=g) w wr) (fun cv _=>n - (intOf cv).toNat);case atStart=>exact⟨20,f1,rfl,am _,.inr rfl,Z,bL,bR⟩
      case round=>
        clear Z bL bR;obtain⟨c,f,rfl,c6,c7,K,R,D⟩:=hrel;by_cases c8:c<n
        · have cq:(c:Int)<n:=(by omega);have cs:IntKind.i64.wrap (2*(c:Int))=((2*c:Nat):Int):=(by rw [awQd _ (by omega)];omega);have ct:IntKind.i64.wrap ((c:Int)*2)=((2*c:Nat):Int):=(by rw [awQd _ (by omega)];omega);obtain⟨d,V⟩:∃ d,d=2*c:=⟨_,rfl⟩;rw [<- V]at cs ct;have bT:c<d/\d<=2*n/\d<=2000000:=(by omega);have c9:=ad V;have ca:=ad (R.out.double);rw [<- V]at ca;have bc:=ad (fun t b (o:d*t+c<=b) (A:b<=n) (B:b<=d*t+d)=>fw.parts (t:=t) (b:=b) (by omega) R.out b9.out (by rw [<- V];exact o) A (by rw [<- V];exact B));rw [<- V]at bc;have cb:=ad (fun t (o:n<=d*t+c)=>fw.rest (t:=t) (by omega) R.out (by rw [<- V];exact o));rw [<- V]at cb;clear V;go_wp2_with fail;generalize wr=wo at *;go_loopw [7,8] (fun av bv wr=>∃ (t:Nat) (g2:Nat->Nat),av=N (d*t)/\bv=N (d*t+d)/\d*t<=n/\DJ wr g n cap g2/\Hid (fw key L g2 d n (d*t))/\Hid (∀ p,d*t<=p->g2 p=f p)/\ah (fun k=>k=g) w wr) (fun _ bv _=>n+d+1 - (intOf bv).toNat);case atStart=>exact⟨0,f,by simp,by simp,by simp,K,by rw [Nat.mul_zero];exact ca.out,fun _ _=>rfl,D⟩
          case round=>
            clear K D;obtain⟨t,g2,rfl,rfl,ht,K,a7,X,D⟩:=hrel;have ba:=ad (HK.out.stay hI D)
            have U := ad (fun b (o : d * t + c ≤ b) (h0 : d * t + c < b) (A : b ≤ n) (B : b ≤ d * t + d) => cn.out (d * t) (d * t + c) b (by omega) h0 A g2 wr K ba.out (fun p _ h => a7.out.okay b8.out p (by omega))
              (by
                have := (bc.out t b o A B).1
                intro p q x y z u
                rw [X.out p x, X.out q (by omega)]; exact this p q x y z u)
              ((bc.out t b o A B).2.1.congr fun p x _ => X.out p x) ((bc.out t b o A B).2.2.congr fun p x _ => X.out p (by omega)))
            have M:=ad (fun g3 b (O:cw g2 g3 (d*t) b) (Q:bD key g3 (d*t) b) o A B h4=>fw.step (by omega) a7.out X.out O Q o A B h4);have ch:d*(t+1)=d*t+d:=Nat.mul_succ _ _;have ap:=ad ch;clear ch;by_cases bd:d*t+d<=n
            · have F:=ad (U.out (d*t+d) (by omega) (by omega) bd (am _));have G:=ad (fun f' O Q=>M.out f' (d*t+d) O Q (by omega) bd (am _) (.inl rfl));clear U M a7 X;obtain⟨b2,cj⟩:∃ b2,b2=d*t+d:=⟨_,rfl⟩;obtain⟨J,a0⟩:∃ J,J=d*t+c:=⟨_,rfl⟩;rw [<- cj]at F G bd ap ⊢;rw [<- a0]at F;have ck:IntKind.i64.wrap (((d*t:Nat):Int)+c)=(J:Int):=(by rw [awQd _ (by omega)];omega);have cp:IntKind.i64.wrap ((b2:Int)+d)=((b2+d:Nat):Int):=(by rw [awQd _ (by omega)];omega);have c0:(b2:Int)<=n:=(by omega);clear a0 cj ht;generalize d*t=a2 at *;go_wp2_with fail;refine F.out.mono ?_;rintro e w1 ⟨rfl,f',Z,aa,ab,ac⟩;have h9:=G.out f' aa ab;go_wp2_with fail;go_roundw;case rel=>exact⟨t+1,f',by rw [ap.out],by rw [ap.out];first | rfl | go_num,by rw [ap.out];exact bd,Z,by rw [ap.out];exact h9.1,by rw [ap.out];exact h9.2,D.trans ac (fun _ _ h=>h)⟩
              case measure=>simp [intOf];omega
            · have c0:¬((d*t+d:Nat):Int)<=n:=(by omega);by_cases bx:d*t+c<n
              · have F:=ad (U.out n (by omega) bx (am _) (by omega));have G:=ad (fun f' O Q=>(M.out f' n O Q ht (am _) (by omega) (.inr rfl)).1);clear U M a7 X ap;obtain⟨J,a0⟩:∃ J,J=d*t+c:=⟨_,rfl⟩;rw [<- a0]at F bx;have ck:IntKind.i64.wrap (((d*t:Nat):Int)+c)=(J:Int):=(by rw [awQd _ (by omega)];omega);have c1:(J:Int)<n:=(by omega);clear a0;generalize d*t+d=b2 at *;generalize d*t=a2 at *;go_wp2_with fail;refine F.out.mono ?_;rintro e w1 ⟨rfl,f',Z,aa,ab,ac⟩;have h9:=G.out f' aa ab;go_wp2_with fail;go_roundw;case rel=>exact⟨d,f',by first | rfl | go_num,by omega,.inl bT.2.1,Z,h9,D.trans ac (fun _ _ h=>h)⟩
                case measure=>simp [intOf];omega
              · have G:=ad ((M.out g2 n (cw.refl _ _ _) ((cb.out t (by omega)).congr fun p x _=>X.out p x) ht (am _) (by omega) (.inr rfl)).1);clear U M a7 X ap;obtain⟨J,a0⟩:∃ J,J=d*t+c:=⟨_,rfl⟩;rw [<- a0]at bx;have ck:IntKind.i64.wrap (((d*t:Nat):Int)+c)=(J:Int):=(by rw [awQd _ (by omega)];omega);have c1:¬(J:Int)<n:=(by omega);clear a0;generalize d*t+d=b2 at *;generalize d*t=a2 at *;go_wp2_with fail;go_roundw;case rel=>exact⟨d,g2,by first | rfl | go_num,by omega,.inl bT.2.1,K,G,D⟩
                case measure=>simp [intOf];omega
        · have cq:¬(c:Int)<n:=(by omega);go_wp2_with fail;go_end0;exact⟨rfl,f,K,R.out.rear,R.out.whole (by omega),D⟩
theorem NV{f:FuncId}{d:Func}{c:Code}(e:Tryz.prog.funcs[f]?=some d)(h:(d.name == "runtime.NumGoroutine")=false)(m:d.body=some c)(args:Array Value)(w:World):(callFunc f args).run Tryz.prog w=.ok (.enter f args) w:=by
 have o:d.name≠ "runtime.NumGoroutine":=by simpa using h
 simp [callFunc,e,o,m,mark]
def eV:au Tryz.prog Nat:=⟨100,1,4,0,.int .u32 0,fun n=>[.int .u32 (n:Int)],by kernel_rfl,by decide,by decide,by simp [Value.cells],fun _=>rfl,by intro x u d;simp at d;subst d;rfl⟩
theorem tJ{w:World}{v:Value}{l:List Nat}(h:ai w eV v l)(k:Nat)(e:k<l.length) :
  ∃ b d cap,v=.slice (some ⟨b,d,none⟩) l.length cap/\w.cell? ⟨b,d+k,none⟩=some (.int .u32 (l[k]:Int)):=
 h.cell1 (fun n:Nat=>Value.int .u32 (n:Int)) rfl k e
theorem Ow.up{α:Type}{E:au Tryz.prog α}{w:World}{g n cap base:Nat}{l:List α}(h:Ow w 0 E (.slice (some ⟨g,0,none⟩) n cap) l)(d:base<=g):Ow w base E (.slice (some ⟨g,0,none⟩) n cap) l:=by
 obtain⟨e,_,m,o,r⟩:=h.parts;exact⟨E.length_cells _,.inr ⟨g,cap,m,by rw [e],d,o,r⟩⟩
def kJ(d:List Nat):List Nat:=(List.range d.length).filter fun s=>decide (0<d.getD s 0)
theorem Au(d:List Nat):∀ s∈kJ d,s<d.length:=fun s h=>by
 unfold kJ at h
 exact eD.1 (lU.1 h).1
theorem wi(d:List Nat):(kJ d).Pairwise (·<·):=List.Pairwise.filter _ List.pairwise_lt_range
theorem Av(d:List Nat):(kJ d).length<=d.length:=by
 unfold kJ;have:=tr (fun s=>decide (0<d.getD s 0)) (List.range d.length);simpa using this
def l7(d:List Nat)(k:Nat):List Nat:=(List.range k).filter fun s=>decide (0<d.getD s 0)
theorem Hr(d:List Nat)(k:Nat):(l7 d k).length<=k:=by
 unfold l7;have:=tr (fun s=>decide (0<d.getD s 0)) (List.range k);simpa using this
theorem Hq(d:List Nat)(k:Nat)(h:k<d.length):l7 d (k+1)=if 0<d[k]then l7 d k++[k]else l7 d k:=by
 unfold l7;rw [lf,rD];have e:d.getD k 0=d[k]:=by rw [cD,bE h];rfl
 by_cases c:0<d[k];· rw [ag c,rB (by rw [e];simpa using c)];rfl
 · rw [ae c,rC (by rw [e];simpa using c)];simp
def dQ(d:List Nat):List Nat:=rI (fun s=>d.getD s 0) (kJ d)
theorem Ga(B:Nat)(v:Value)(d:List Nat)(x y:Nat)(w:World)(z:w.heap[B]?=some (.cells #[v] 199 (0,0)))(o:ai w eV v d)(A:x<d.length)(D:y<d.length) :
  Calls Tryz.prog 246 #[N x,N y,.pointer (some ⟨B,0,none⟩)] w fun e w'=>e=.returned (.int .i64 (jO (d.getD x 0) (d.getD y 0)))/\∃ m,w'=w.drewN m:=by
 have K:=o.le;unfold maxLen at K;have M:=ad (fun a b W=>Pb a b W);have O:=af z 0 rfl;obtain⟨b,Q,cap,F,R⟩:=tJ o x A;obtain⟨U,V,X,G,c2⟩:=tJ o y D;rw [F]at G;cases G;subst F;have I:d.getD x 0=d[x]:=by rw [cD,bE A];rfl
 have J:d.getD y 0=d[y]:=by rw [cD,bE D];rfl
 rw [I,J];have Y:(0:Int)<=x:=by omega
 have Z:(x:Int)<d.length:=by omega
 have i3:(0:Int)<=y:=by omega
 have i4:(y:Int)<d.length:=by omega
 clear I J z o;generalize d[x]=p at *;generalize d[y]=q at *;generalize d.length=L at *;go_enter Tryz.func246, Tryz.ntmps246;go_upto_region 1 with fail;go_quiet ((go_at_call 247;exact Calls.quiet_of_same ((M.out _ _ _).mono fun _ _ h=>⟨h.1,h.2.symm⟩)));go_wp2_with fail;go_ret;exact⟨rfl,nq,rfl⟩
theorem FZ(B g:Nat)(v:Value)(d:List Nat)(e:World)(m:e.heap[B]?=some (.cells #[v] 199 (0,0)))(o:ai e eV v d)(q:e.heap.size<=g) :
  nT 246 #[.pointer (some ⟨B,0,none⟩)] g (fun s=>d.getD s 0) (fun s=>s<d.length) (fun w=>Fr e w) where
 ent:=NV Tryz.func246 (by kernel_rfl) rfl
 stay h hc:=ah.below h hc (by have:=h.size;omega) (fun i z=>by omega)
 call x y h hx hy:=Ga B v d x y _ (h.heap m) (o.fr h) hx hy
theorem ML(d:Value)(w:World):Calls Tryz.prog 287 #[.slice none 0 0,N 0,N 0,d] w fun e w'=>e=.returned (.tuple #[])/\w=w':=by
 go_enter Tryz.func287, Tryz.ntmps287;go_wp2_with fail;refine wp_loop_rounds 1 ?_;rw [rounds_succ];go_wp2_with fail;go_end0;exact⟨rfl,rfl⟩
theorem I1(d:Value)(w:World):Calls Tryz.prog 272 #[.slice none 0 0,N 0,d] w fun e w'=>e=.returned (.tuple #[])/\w=w':=by
 have h:=ad (ML d);go_enter Tryz.func272, Tryz.ntmps272;go_wp2_with fail;refine wp_loop_rounds 1 ?_;rw [rounds_succ];go_wp2_with fail;refine(h.out w).mono ?_;rintro e m ⟨rfl,rfl⟩;go_wp2_with fail;refine wp_loop_rounds 1 ?_;rw [rounds_succ];go_wp2_with fail;go_end0;exact⟨rfl,rfl⟩
theorem AK(d m:Value)(n:Nat)(a:Option Addr)(cap:Nat)(o:d=.slice a n cap)(w:World)(Q:Ending->World->Prop)
  (h:Calls Tryz.prog 272 #[.slice a n cap,N n,m] w fun e w'=>e=.returned (.tuple #[])/\Q e w') :
  Calls Tryz.prog 245 #[d,m] w fun e w'=>e=.returned (.tuple #[])/\Q e w':=by
 subst o;have H:=ad h;clear h;go_enter Tryz.func245, Tryz.ntmps245;go_wp2_with fail;refine H.out.mono ?_;rintro e z ⟨rfl,q⟩;go_wp2_with fail;go_end0;exact⟨rfl,q⟩
theorem CW(l:List Nat):(List.range l.length).map (fun p=>l.getD p 0)=l:=by
 apply qjQb;intro i;by_cases h:i<l.length;· simp [h]
 · rw [io (by simp;omega),io (by omega)]
theorem wz(f:Nat->Nat)(n:Nat):fE f 0 n=(List.range n).map f:=by
 unfold fE;exact jA fun i _=>by rw [iX]
theorem FW(v:Value)(d:List Nat)(w:World)(X:ai w eV v d)(hn:d.length<=1000000) :
  Calls Tryz.prog 212 #[v] w fun e w'=>∃ v',e=.returned v'/\Ow w' w.heap.size eJ v' (dQ d)/\Fr w w':=by
 obtain⟨a,cap,rfl,b0,a3,b1⟩:=X.shape;unfold maxLen at a3;have G:Fr w (w.alloc (.cells #[Value.slice a d.length cap] 199)):=(Fr.refl w).alloc _;have Y:(w.alloc (.cells #[Value.slice a d.length cap] 199)).heap[w.heap.size]?=some (.cells #[Value.slice a d.length cap] 199 (0,0)):=a9 _ _ _ rfl;have Z:(w.alloc (.cells #[Value.slice a d.length cap] 199)).heap.size=w.heap.size+1:=by simp
 have c0:(w.alloc (.cells #[Value.slice a d.length cap] 199)).cell? ⟨w.heap.size,0,none⟩=some (Value.slice a d.length cap):=by rw [aA Y];rfl
 have aa:=X.fr G;have b3:=ad Z;clear Z;go_enter Tryz.func212, Tryz.ntmps212;go_wp2_with fail;generalize w.alloc (.cells #[Value.slice a d.length cap] 199)=I at *;go_loopw [3,8] (fun ov O wr=>∃ k:Nat,k<=d.length/\O=N k/\Ow wr I.heap.size eJ ov (l7 d k)/\Hid (l7 d k=[]->ov=.slice none 0 0)/\Fr I wr) (fun _ O _=>d.length - (intOf O).toNat);case atStart=>exact⟨0,an _,rfl,Ow.nil,fun _=>rfl,Fr.refl _⟩
 case round=>
  obtain⟨k,hk,rfl,A,B,z⟩:=hrel;by_cases ac:k<d.length
  · obtain⟨b,b5,b6,hv,c1⟩:=tJ (aa.fr z) k ac;have J:=ad (Hq d k ac);have a5:=Hr d k;generalize d[k]=x at *;generalize l7 d k=m at *;cases hv;have i1:(0:Int)<=k:=(by omega);have i2:(k:Int)<d.length:=(by omega);by_cases hx:0<x
    · have a6:(0:Int)<x:=(by omega);have D:Hid (l7 d (k+1)=m++[k]):=(by show _=_;rw [J.out,ag hx]);clear J;go_wp2_with (at_builtin;refine cW eJ rfl (.tmp 15) (.tmp 17) 60 rfl Tryz.underlying60 I.heap.size rfl A [k] _ _ _ rfl rfl rfl (by simp;omega) z.size ?_);intro v' w4 ak;go_wp2_with fail;go_roundw;case rel=>exact⟨k+1,by omega,by go_num,by rw [D.out];exact ak.own,fun e=>by rw [D.out]at e;simp at e,ak.below A z (am _) z.size⟩
      case measure=>simp [intOf];omega
    · have a6:¬(0:Int)<x:=(by omega);have D:Hid (l7 d (k+1)=m):=(by show _=_;rw [J.out,ae hx]);clear J;go_wp2_with fail;go_roundw;case rel=>exact⟨k+1,by omega,by go_num,by rw [D.out];exact A,fun e=>B.out (by rw [D.out]at e;exact e),z⟩
      case measure=>simp [intOf];omega
  · obtain rfl:k=d.length:=(by omega);have bA:¬((d.length:Int)<d.length):=(by omega);have a7:l7 d d.length=kJ d:=rfl;rw [a7]at A B;have a5:=Av d;have R:Fr w wr:=G.trans z;by_cases U:kJ d=[];· have hu:Hid (dQ d=[]):=(by show _=_;unfold dQ;rw [U];rfl);have V:=B.out U;subst V;have ba:∀ (F:Fn) (first cap:Array Value) (w:World),(Instr.makeFunc F first cap).run Tryz.prog w=.ok (.func F first cap) w:=fun _ _ _ _=>rfl;have K:=ad (fun L W=>AK (.slice none 0 0) L 0 none 0 rfl W (fun _ w'=>W=w') (I1 L W));clear B;go_wp2_with fail;refine(K.out _ _).mono ?_;rintro e w1 ⟨rfl,rfl⟩;go_wp2_with fail;go_ret;exact⟨_,rfl,by rw [hu.out];exact Ow.nil,R⟩
    · obtain⟨g,M,V,ap,bB,bL,bR⟩:=A.atHead U;have HU:=ad (wi d);have bc:=ad (Au d);have ba:∀ (F:Fn) (first cap:Array Value) (w:World),(Instr.makeFunc F first cap).run Tryz.prog w=.ok (.func F first cap) w:=fun _ _ _ _=>rfl;have bd:Hid (dQ d=rI (fun s=>d.getD s 0) (kJ d)):=rfl;generalize kJ d=o at *;subst V;have hD:DJ wr g o.length M (fun p=>o.getD p 0):=(by unfold DJ;rw [CW];exact A.rebase (an _));have a0:=FZ w.heap.size g (.slice a d.length cap) d I (by first | exact Y | assumption) aa ap;have a1 := ad (I2 a0 o.length M (fun p => o.getD p 0) wr hD z (by omega) (fun p h => by
       rw [cD, bE h]; exact bc.out _ (bX h)) (fun p q h1 h2 => by
       rw [cD, bE (by omega), cD, bE h2]
       exact vA.1 HU.out p q (by omega) h2 h1))
      have K:=ad (fun L Q h=>AK (.slice (some ⟨g,0,none⟩) o.length M) L o.length _ M rfl wr Q h);have bk:=ad (K.out _ _ a1.out);clear B K a1 a0;go_wp2_with fail;refine bk.out.mono ?_;rintro e w1 ⟨rfl,f',bl,bm,bs,bu⟩;go_wp2_with fail;go_ret;have hE:(List.range o.length).map f'=dQ d:=by
       rw [bd.out];refine FY _ o _ HU.out ?_ ?_;· have:=bm.2;rw [wz,wz,CW]at this;exact this
       · have:=bs.list;rw [wz]at this;exact this
      refine⟨_,rfl,?_,ah.below R bu R.size (fun i hi=>by have:=G.size;omega)⟩;rw [<- hE];exact(Ow.up bl ap).rebase G.size
end Go.Proofs.YtfpijnhhdfoohaaGreatDoor
