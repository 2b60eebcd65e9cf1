/- Lemmas for ThreeTurned. -/
import Derived.Test.YtndbpldeabnkbaaGreatDoorM04
import Derived.Test.YtndbpldeabnkbaaGreatDoorM07
set_option linter.all false
set_option maxHeartbeats 8000000
set_option maxRecDepth 100000
namespace Go.Fk
abbrev bF:=@Go.bodyPost_ret
abbrev dF:=@Go.IntWalk.u64_in
abbrev o9:=@Go.Calls.quiet_of
abbrev sK:=@Go.Calls.quiet_of_same
abbrev rq:=@Nat.min_eq_right
end Go.Fk
namespace Go.Proofs.YtndbpldeabnkbaaGreatDoor
open Go.RowKit Go.Fk
def DJ(w:World)(g n cap:Nat)(f:Nat->Nat):Prop:=Ow w 0 eJ (.slice (some ⟨g,0,none⟩) n cap) ((List.range n).map f)
section
variable {w w':World} {g n cap:Nat} {f f':Nat->Nat}
theorem DJ.cell(h:DJ w g n cap f)(p:Nat)(d:p<n):w.cell? ⟨g,p,none⟩=some (N (f p)):=by
 have:=(Ow.cellAt h (λn:Nat=>N n) rfl p (by simpa using d)).1;simpa using this
theorem DJ.frozen(h:DJ w g n cap f)(p:Nat)(d:p<n):w.frozen? ⟨g,p,none⟩=false:=(Ow.cellAt h (λn:Nat=>N n) rfl p (by simpa using d)).2
theorem DJ.caps(h:DJ w g n cap f):n<=cap/\cap<=maxLen:=by
 obtain⟨_,_,m,o,d,e,z,A⟩:=Ow.parts h;rw[cy,jY]at d;exact⟨d,e⟩
theorem Ni(n:Nat)(f:Nat->Nat)(i x:Nat):((List.range n).map f).set i x=(List.range n).map (λp=>if p=i then x else f p):=by
 apply sH;intro j;by_cases d:j<n
 ·by_cases e:i=j;·subst e;rw[List.getElem?_set_self (by simpa using d)];simp[d]
  ·rw[List.getElem?_set_ne e];simp[d,iG e]
 ·rw[iW (by simp;omega),iW (by simp;omega)]
theorem DJ.set(h:DJ w g n cap f)(i:Nat)(d:i<n)(x:Nat):DJ (w.setCell ⟨g,i,none⟩ (N x)) g n cap (λp=>if p=i then x else f p):=by
 have:=Ow.set h (λn:Nat=>N n) rfl i (by simpa using d) x (N x) rfl;unfold DJ;rw[<- Ni];exact this
theorem DJ.congr(h:DJ w g n cap f)(d:∀p,p<n->f' p=f p):DJ w g n cap f':=by
 unfold DJ at *;rw[iV (λp e=>d p (dN.1 e))];exact h
theorem DJ.swap(h:DJ w g n cap f)(i j:Nat)(d:i<n)(e:j<n):DJ ((w.setCell ⟨g,i,none⟩ (N (f j))).setCell ⟨g,j,none⟩ (N (f i))) g n cap (lx f i j):=
 ((h.set i d (f j)).set j e (f i)).congr λp _=>rfl
theorem DJ.fr(h:DJ w g n cap f)(d:Fr w w'):DJ w' g n cap f:=Ow.fr h d
end
def xe(w:World)(g i j:Nat)(u v:Value):ai (λk=>k=g) w ((w.setCell ⟨g,i,none⟩ u).setCell ⟨g,j,none⟩ v):=(a9 w ⟨g,i,none⟩ u).trans (a9 _ ⟨g,j,none⟩ v) (λ_ _ h=>h)
def lB(a b:Nat):Int:=if a<b then -1 else if b<a then 1 else 0
def yw(a b:Nat):(lB a b<0)=(a<b):=by unfold lB;split <;> (try split) <;> simp <;> omega
structure qq (k:Nat) (caps:Array Value) (g:Nat) (key:Nat->Nat) (ok:Nat->Prop) (I:World->Prop):Prop where
 ent:∀args w,(callFunc k args).run Tryz.prog w=.ok (.enter k args) w
 stay:∀ {w w'},I w->ai (λb=>b=g) w w'->I w'
 call:∀ {w} (x y:Nat),I w->ok x->ok y->Calls Tryz.prog k (#[N x,N y]++caps) w λe w'=>e=.returned (.int .i64 (lB (key x) (key y)))/\∃m,w'=w.drewN m
def qq.fr{k:Nat}{d:Array Value}{g:Nat}{key:Nat->Nat}{e:Nat->Prop}{I:World->Prop}(h:qq k d g key e I){w w':World}(m:I w)(o:Fr w w'):I w':=h.stay m (o.chg _)
def R0(x:Nat)(w:World):Calls Tryz.prog 270 #[.int .u32 (x:Int)] w λe w'=>e=.returned (.bool false)/\w=w':=by
 go_in;go_wp2;go_ret;exact⟨σ,rfl⟩
def Um(x y:Nat)(w:World):Calls Tryz.prog 258 #[.int .u32 (x:Int),.int .u32 (y:Int)] w λe w'=>e=.returned (.int .i64 (lB x y))/\w=w':=by
 have m:=ad (λx W=>R0 x W);rcases qr x y with h | h | h;·have d:lB x y=-1:=(by unfold lB;rw[af h]);rw[d];go_in;go_wp2_with (first | (go_at_call 270;refine(m.out _ _).mono ?_;rintro e w' ⟨rfl,rfl⟩));go_ret;exact⟨rfl,rfl⟩
 ·have d:lB x y=0:=(by unfold lB;rw[ae ω,ae ω]);have o:¬x<y:=ω;have z:¬y<x:=ω;rw[d];go_in;go_wp2_with (first | (go_at_call 270;refine(m.out _ _).mono ?_;rintro e w' ⟨rfl,rfl⟩));go_ret;exact⟨rfl,rfl⟩
 ·have d:lB x y=1:=(by unfold lB;rw[ae ω,af h]);have o:¬x<y:=ω;rw[d];go_in;go_wp2_with (first | (go_at_call 270;refine(m.out _ _).mono ?_;rintro e w' ⟨rfl,rfl⟩));go_ret;exact⟨rfl,rfl⟩
def M3(a b m:Nat)(G:Value)(g n cap:Nat)(f:Nat->Nat)(w:World)(z:DJ w g n cap f)(O:a+m<=b)(Q:b+m<=n)(R:n<=1000000000):Calls Tryz.prog 280 #[.slice (some ⟨g,0,none⟩) n cap,N a,N b,N m,G] w λe w'=>e=.returned (.tuple #[])/\DJ w' g n cap (kh f a b m)/\ai (λk=>k=g) w w':=by
 obtain⟨U,I⟩:=z.caps;unfold maxLen at I;go_in;go_wp2;go_loopw [10] (λA wr=>∃i:Nat,i<=m/\A=N i/\DJ wr g n cap (kh f a b i)/\ai (λk=>k=g) w wr) (λA _=>m-(intOf A).toNat);case atStart=>exact⟨0,ar _,rfl,z.congr λp _=>Mz f a b p,ai.refl _ w⟩
 case round=>
  clear z;obtain⟨i,V,rfl,d,F⟩:=hrel;by_cases X:i<m
  ·have Y:(i:Int)<m:=ω;have Z:=d.cell (a+i) ω;have c2:=d.cell (b+i) ω;have z1:=d.frozen (a+i) ω;have J:=d.frozen (b+i) ω;have K:=ad (d.swap (a+i) (b+i) ω ω);have ab:IntKind.i64.wrap ((a:Int)+i)=((a+i:Nat):Int):=(by rw[ax _ ω];omega);have ac:IntKind.i64.wrap ((b:Int)+i)=((b+i:Nat):Int):=(by rw[ax _ ω];omega);have i1:(0:Int)<=((a+i:Nat):Int):=ω;have i2:((a+i:Nat):Int)<n:=ω;have i3:(0:Int)<=((b+i:Nat):Int):=ω;have i4:((b+i:Nat):Int)<n:=ω;have i5:a+i<n:=ω;have i6:b+i<n:=ω;have L:=ad (λp=>M0 f a b i p ω);generalize kh f a b i=M at *;generalize a2:a+i=D at *;generalize a3:b+i=o at *;have a4:D≠o:=ω;have a5:(wr.drew.setCell ⟨g,D,none⟩ (N (M o))).frozen? ⟨g,o,none⟩=false:=(by rw[World.frozen?_setCell];exact J);go_upto_region 3 with fail;go_region;all_goals go_wp2_with fail
   all_goals go_roundw
   case rel=>exact⟨i+1,ω,γ,(K.out.congr λp _=>(L.out p).symm).fr (Fr.drew (Fr.refl _)),F.trans ((xe wr g D o _ _).trans ((Fr.drew (Fr.refl _)).chg (λk=>k=g)) (λ_ _ h=>h)) (λ_ _ h=>h)⟩
   case measure=>exact μ
  ·obtain rfl:i=m:=ω;have a6:¬((i:Int)<i):=ω;go_wp2;go_end0;exact⟨rfl,d,F⟩
def RO(key d h:Nat->Nat)(a j i:Nat)(z:a<=j)(A:j<=i)(m:bW key d a i)(D:∀p,h p=mH d j i p)(F:∀p,j<=p->p<i->bK key (d i) (d p))(G:∀p,a<=p->p<i->d p<d i)(J:j=a\/¬key (d i)<key (d (j-1))):bW key h a (i+1):=by
 refine(Gz key d a j i m z A (λp I K=>?_) F).congr λp _ _=>D p;have o:bK key (d (j-1)) (d i):=by have:=G (j-1) ω ω;unfold bK;omega
 by_cases e:p=j-1;·rw[e];exact o
 ·exact lO (m p (j-1) I ω ω) o
def RM(f d:Nat->Nat)(a i b:Nat)(e:du f d a i)(h:∀p q,a<=p->p<q->q<b->f p<f q)(m:i<b)(G:a<=i):∀p,a<=p->p<i->d p<d i:=by
 intro p o z;obtain⟨q,A,D,F⟩:=e.mem p o z;rw[F,e.1 i ω];exact h q i A D m
def RL{k:Nat}{a1:Array Value}{g:Nat}{key:Nat->Nat}{K:Nat->Prop}{I:World->Prop}(V:qq k a1 g key K I)(a b n cap:Nat)(f:Nat->Nat)(w:World)(hd:DJ w g n cap f)(hI:I w)(cb:a<=b)(hb:b<=n)(hn:n<=1000000000)
  (hok:∀p,a<=p->p<b->K (f p)) (hup:∀p q,a<=p->p<q->q<b->f p<f q) :
  Calls Tryz.prog 276 #[.slice (some ⟨g,0,none⟩) n cap,N a,N b,.func (.func k) #[] a1] w λe w'=>e=.returned (.tuple #[])/\∃f',DJ w' g n cap f'/\du f f' a b/\bW key f' a b/\ai (λk=>k=g) w w':=by
 obtain⟨X,bx⟩:=hd.caps;unfold maxLen at bx;have ch:=V.ent;have Y:=ad V;clear V;have cj:IntKind.i64.wrap ((a:Int)+1)=((a+1:Nat):Int):=by rw[ax _ ω];omega
 go_in;go_wp2;go_loopw [8] (λZ wr=>∃(i:Nat) (d:Nat->Nat),Z=N i/\a+1<=i/\(i<=b\/i=a+1)/\DJ wr g n cap d/\Hid (du f d a (min i b))/\Hid (bW key d a (min i b))/\ai (λk=>k=g) w wr) (λZ _=>b-(intOf Z).toNat);case atStart=>exact⟨a+1,f,rfl,al _,.inr rfl,hd,du.refl _ _ _,λi j L h2 h3=>by omega,ai.refl _ w⟩
 case round=>
  obtain⟨i,d,rfl,ck,cl,ab,F,M,A⟩:=hrel;by_cases a4:i<b
  ·have b0:(i:Int)<b:=ω;rw[fI ω]at F M;go_wp2_with fail;generalize wr=wo at *;go_loopw [9] (λjv wr=>∃(j:Nat) (o:Nat->Nat),jv=N j/\a<=j/\j<=i/\DJ wr g n cap o/\Hid (∀p,o p=mH d j i p)/\Hid (∀p,j<=p->p<i->bK key (d i) (d p))/\Hid (du d o a (i+1))/\ai (λk=>k=g) w wr) (λjv _=>(intOf jv).toNat);case atStart=>exact⟨i,d,rfl,ω,al _,ab,λp=>by unfold mH;rw[Ak d i (i+1) p ω],λp L h2=>by omega,du.refl _ _ _,A⟩
   case round=>
    clear ab A;obtain⟨j,o,rfl,b1,a5,D,G,O,aj,A⟩:=hrel;have b2:=ad (RM f d a i b F.out hup a4 ω);have Q:=ad (λb3=>RO key d o a j i b1 a5 M.out G.out O.out b2.out b3);have a6:Hid (du f o a (i+1)):=(F.out.widen (al _) ω ω).trans aj.out;have cn:IntKind.i64.wrap ((i:Int)+1)=((i+1:Nat):Int):=(by rw[ax _ ω];omega);by_cases cp:a<j
    ·have a7:(a:Int)<j:=ω;have cq:decide ((a:Int)<j)=true:=bp a7;have cs:IntKind.i64.wrap ((j:Int)-1)=((j-1:Nat):Int):=(by rw[ax _ ω];omega);have e1:o j=d i:=(by rw[G.out];unfold mH aP;rw[af ω];congr 1;omega);have e2:o (j-1)=d (j-1):=(by rw[G.out];unfold mH aP;rw[ae ω,ae ω]);have c1:=D.cell j ω;have c2:=D.cell (j-1) ω;have z1:=D.frozen j ω;have z2:=D.frozen (j-1) ω;have R:=ad (D.swap j (j-1) ω ω);rw[e1]at c1 R;rw[e2]at c2 R;have bd:K (d i):=(by rw[F.out.1 i ω];exact hok i ω a4);have bf:K (d (j-1)):=(by obtain⟨q,h3,h4,h5⟩:=F.out.mem (j-1) ω ω;rw[h5];exact hok q h3 ω);have HC:=ad (λm=>Y.out.call (d i) (d (j-1)) (Y.out.fr (Y.out.stay hI A) ((Fr.refl wr).drewN m)) bd bf);have bl:Hid (∀p,lx o j (j-1) p=mH d (j-1) i p):=λp=>(by have:=E9 d i j p a5 ω;have e:o=aP d j i (i+1):=funext λp=>G.out p;rw[e];exact this);have b5:Hid (key (d i)<key (d (j-1))->∀p,j-1<=p->p<i->bK key (d i) (d p)):=λh p L h2=>by
      by_cases e:p=j-1;·rw[e];exact .inl h
      ·exact O.out p ω h2
     have b6:Hid (du d (lx o j (j-1)) a (i+1)):=(by have L:du d (aP d (j-1) i (i+1)) a (i+1):=(xB d (j-1) i (i+1) ω ω).widen ω ω (al _);exact L.congr bl.out);have bm:=yw (key (d i)) (key (d (j-1)));have b7:Hid (¬key (d i)<key (d (j-1))->bW key o a (i+1)):=λh=>Q.out (.inr h);clear e1 e2 bd bf G O aj Q;generalize hx:d i=x at *;generalize hy:d (j-1)=y at *;generalize bu:j-1=z at *;have HX:=ad hx;have HY:=ad hy;clear hx hy;have i1:(0:Int)<=j:=ω;have i2:(j:Int)<n:=ω;have i3:(0:Int)<=z:=ω;have i4:(z:Int)<n:=ω;have i5:j<n:=ω;have i6:z<n:=ω;have cA:j≠z:=ω;have cB:z<j:=ω;have cE:a<=z:=ω;have cF:z≠j:=ω;have HJ:=ad bu;clear bu;generalize b8:lB (key x) (key y)=cv at *;have cL:decide (cv<0)=decide (key x<key y):=(by simp[bm]);generalize bA:key x=kx at *;generalize bB:key y=ky at *;clear bm b8 bA bB;go_upto_region 4 with fail;go_quiet ((exact o9 (HC.out _)));have J:=(Fr.refl wr).drewN nq;have X:=A.trans (J.chg (λk=>k=g)) (λ_ _ h=>h);have bL:=D.fr J;replace c1:=J.cell c1;replace c2:=J.cell c2;have cN:(wr.drewN nq).frozen? ⟨g,j,none⟩=false:=z1;have cR:(wr.drewN nq).frozen? ⟨g,z,none⟩=false:=z2;have bR:Hid (DJ (((wr.drewN nq).setCell ⟨g,j,none⟩ (N y)).setCell ⟨g,z,none⟩ (N x)) g n cap (lx o j z)):=R.out.fr ((Fr.refl _).drewN nq);clear R z1 z2 D A J HC;generalize wr.drewN nq=w1 at *;by_cases U:kx<ky
     ·have ca:decide (kx<ky)=true:=bp U;go_upto_region 6 with fail;go_region;all_goals go_wp2_with fail
      all_goals go_roundw
      case rel=>exact⟨z,lx o j z,rfl,ω,ω,bR.out.fr (Fr.drew (Fr.refl _)),bl,b5.out U,b6,X.trans ((xe w1 g j z _ _).trans ((Fr.drew (Fr.refl _)).chg (λk=>k=g)) (λ_ _ h=>h)) (λ_ _ h=>h)⟩
      case measure=>exact μ
     ·have ca:decide (kx<ky)=false:=br U;have a0:=ad (b7.out U);go_wp2;go_roundw;case rel=>exact⟨i+1,o,γ,ω,.inl ω,bL,by rw[fI ω];exact a6,by rw[fI ω];exact a0,X⟩
      case measure=>exact μ
    ·obtain rfl:j=a:=ω;have a7:¬(j:Int)<j:=ω;have a0:=ad (Q.out (.inl rfl));clear Q G O aj;go_upto_region 4 with fail;go_quiet (fail);go_wp2;go_roundw;case rel=>exact⟨i+1,o,γ,ω,.inl ω,D.fr ((Fr.refl _).drewN _),by rw[fI ω];exact a6,by rw[fI ω];exact a0,A.trans (((Fr.refl _).drewN _).chg (λk=>k=g)) (λ_ _ h=>h)⟩
     case measure=>exact μ
  ·have b0:¬(i:Int)<b:=ω;rw[rq ω]at F M;go_wp2;go_end0;exact⟨rfl,d,ab,F.out,M.out,A⟩
def NF(a m b:Nat)(O:Value)(g n cap:Nat)(f:Nat->Nat)(w:World)(o:DJ w g n cap f)(a1:a<m)(a2:m<b)(hb:b<=n)(V:n<=1000000000):Calls Tryz.prog 279 #[.slice (some ⟨g,0,none⟩) n cap,N a,N m,N b,O] w λe w'=>e=.returned (.tuple #[])/\DJ w' g n cap (aP f a m b)/\ai (λk=>k=g) w w':=by
 have I:=ad (λa b k f w (h:DJ w g n cap f) (X:a+k<=b) (Y:b+k<=n)=>M3 a b k O g n cap f w h X Y V);have a4:IntKind.i64.wrap ((m:Int)-a)=((m-a:Nat):Int):=by rw[ax _ ω];omega
 have a5:IntKind.i64.wrap ((b:Int)-m)=((b-m:Nat):Int):=by rw[ax _ ω];omega
 go_in;go_wp2;go_loopw [10,11] (λJ K wr=>∃(i j:Nat) (d:Nat->Nat),J=N i/\K=N j/\1<=i/\1<=j/\i<=m-a/\j<=b-m/\DJ wr g n cap d/\Hid (∀p,aP d (m-i) m (m+j) p=aP f a m b p)/\ai (λk=>k=g) w wr) (λJ K _=>(intOf J).toNat+(intOf K).toNat);case atStart=>exact⟨m-a,b-m,f,by first | rfl | go_num,by first | rfl | go_num,ω,ω,al _,al _,o,λp=>by rw[show m-(m-a)=a by omega,show m+(b-m)=b by omega],ai.refl _ w⟩
 case round=>
  clear o;obtain⟨i,j,d,rfl,rfl,Z,aa,ab,ac,o,L,M⟩:=hrel;have a6:IntKind.i64.wrap ((m:Int)-i)=((m-i:Nat):Int):=(by rw[ax _ ω];omega);rcases qr i j with h | h | h
  ·have aj:((i:Int) == j)=false:=(by simp;omega);have ak:i≠j:=ω;have ap:¬(j:Int)<i:=ω;have a7:IntKind.i64.wrap ((m:Int)+j)=((m+j:Nat):Int):=(by rw[ax _ ω];omega);have aC:IntKind.i64.wrap (((m+j:Nat):Int)-i)=((m+j-i:Nat):Int):=(by rw[ax _ ω];omega);have av:IntKind.i64.wrap ((j:Int)-i)=((j-i:Nat):Int):=(by rw[ax _ ω];omega);have z:=ad (I.out (m-i) (m+j-i) i d wr o ω ω);have A:Hid (∀p,aP (kh d (m-i) (m+j-i) i) (m-i) m (m+(j-i)) p=aP f a m b p):=λp=>(by rw[NH d m i j p ω h];exact L.out p);have D:1<=j-i/\j-i<j/\j-i<=b-m:=ω;generalize Q:m-i=R at *;have a0:=ad Q;clear Q;generalize j-i=ji,m+j=mj2,m+j-i=mj at *;go_wp2_with fail;refine z.out.mono ?_;rintro e U ⟨rfl,F,G⟩;go_wp2;go_roundw;case rel=>exact⟨i,ji,_,rfl,rfl,Z,D.1,ab,D.2.2,F,(by rw[a0.out];exact A),M.trans G (λ_ _ h=>h)⟩
   case measure=>exact μ
  ·subst h;have z:=ad (I.out (m-i) m i d wr o ω ω);have A:Hid (∀p,kh d (m-i) m i p=aP f a m b p):=λp=>(by rw[NJ d m i p ω];exact L.out p);generalize m-i=R at *;go_wp2_with fail;refine z.out.mono ?_;rintro e U ⟨rfl,F,G⟩;go_wp2;go_end0;exact⟨rfl,F.congr λp _=>(A.out p).symm,M.trans G (λ_ _ h=>h)⟩
  ·have aj:((i:Int) == j)=false:=(by simp;omega);have ak:i≠j:=ω;have ap:(j:Int)<i:=ω;have av:IntKind.i64.wrap ((i:Int)-j)=((i-j:Nat):Int):=(by rw[ax _ ω];omega);have z:=ad (I.out (m-i) m j d wr o ω ω);have A:Hid (∀p,aP (kh d (m-i) m j) (m-(i-j)) m (m+j) p=aP f a m b p):=λp=>(by rw[NI d m i j p ω h];exact L.out p);have D:1<=i-j/\i-j<i/\i-j<=m-a:=ω;generalize i-j=ij,m-i=R at *;go_wp2_with fail;refine z.out.mono ?_;rintro e U ⟨rfl,F,G⟩;go_wp2;go_roundw;case rel=>exact⟨ij,j,_,rfl,rfl,D.1,aa,D.2.2,ac,F,A,M.trans G (λ_ _ h=>h)⟩
   case measure=>exact μ
def xZ(i j:Nat)(h:i+j<=4000000000):IntKind.i64.wrap ((i:Int)+j)=((i+j:Nat):Int)/\IntKind.u64.wrap ((i+j:Nat):Int)=((i+j:Nat):Int)/\((i+j:Nat):Int) / 2=(((i+j) / 2:Nat):Int)/\IntKind.i64.wrap (((i+j) / 2:Nat):Int)=(((i+j) / 2:Nat):Int):=by
 refine⟨?_,dF _ ω,ω,ax _ ω⟩;rw[ax _ ω];omega
def My{k:Nat}{ap:Array Value}{g:Nat}{key:Nat->Nat}{ok:Nat->Prop}{I:World->Prop}(O:qq k ap g key ok I)(a b n cap:Nat)(f:Nat->Nat)(w:World)(J:DJ w g n cap f)(hI:I w)(cb:a+1<b)(hb:b<=n)(hn:n<=1000000000)
  (hok:∀p,a<=p->p<b->ok (f p)) (hah:pe f a (a+1) b) (hs2:bW key f (a+1) b) :
  Calls Tryz.prog 277 #[.slice (some ⟨g,0,none⟩) n cap,N a,N (a+1),N b,.func (.func k) #[] ap] w λe w'=>e=.returned (.tuple #[])/\∃f',DJ w' g n cap f'/\du f f' a b/\bW key f' a b/\ai (λk=>k=g) w w':=by
 obtain⟨ch,bc⟩:=J.caps;unfold maxLen at bc;have cj:=O.ent;have HK:=ad O;have a2:=ad hok;have bd:=ad hah;have Q:=ad hs2;clear O hok hah hs2;have bf:(((a+1:Nat):Int)-a == 1)=true:=by simp;omega
 have a3:((a+1:Nat):Int)-a=1:=ω
 have bk:IntKind.i64.wrap (((a+1:Nat):Int)-a)=1:=by rw[a3];exact ax _ ω
 obtain⟨m,R⟩:∃m,m=a+1:=⟨_,rfl⟩;rw[<- R]at bf a3 bk ⊢;have z:=ad R;have ck:a<m:=ω
 have cl:m<b:=ω
 clear R;go_in;go_wp2;go_loopw [10,11] (λU V wr=>∃(i j:Nat),U=N i/\V=N j/\m<=i/\i<=j/\j<=b/\Hid (∀p,m<=p->p<i->bK key (f p) (f a))/\Hid (∀p,j<=p->p<b->bK key (f a) (f p))/\∃q,wr=w.drewN q) (λU V _=>(intOf V).toNat-(intOf U).toNat);case atStart=>exact⟨m,b,rfl,rfl,al _,ω,al _,λp F A=>by omega,λp F A=>by omega,0,rfl⟩
 case round=>
  obtain⟨i,j,rfl,rfl,hi,cm,X,Y,Z,q,rfl⟩:=hrel;by_cases cn:i<j
  ·have bm:(i:Int)<j:=ω;obtain⟨F,A,h3,h4⟩:=xZ i j ω;have bn:i<=(i+j) / 2:=ω;have cs:(i+j) / 2<j:=ω;generalize i+j=ij,(i+j) / 2=h at *;have c1:=(J.fr ((Fr.refl w).drewN q)).cell h ω;have c2:=(J.fr ((Fr.refl w).drewN q)).cell a ω;have HC:=ad (λr=>HK.out.call (f h) (f a) (HK.out.fr hI (((Fr.refl w).drewN q).drewN r)) (a2.out h ω ω) (a2.out a ω ω));have a4:=yw (key (f h)) (key (f a));generalize hW:w.drewN q=W at *;have HW:=ad hW;clear hW;have HA:=ad (Cc (key:=key) bd.out (al a) ω (show a+1<=h by have:=z.out;omega) ω);have bv:Hid (key (f h)<key (f a)->∀p,m<=p->p<h+1->bK key (f p) (f a)):=λe p F A=>by
    have G:=HA.out.1.1 e;by_cases c:p=h;·rw[c];exact G
    ·exact lO (Q.out p h (by have:=z.out;omega) ω ω) G
   have bx:Hid (¬key (f h)<key (f a)->∀p,h<=p->p<b->bK key (f a) (f p)):=λe p F A=>by
    have G:=HA.out.2.1 e;by_cases c:p=h;·rw[c];exact G
    ·exact lO G (Q.out h p (by have:=z.out;omega) ω ω)
   have i1:(0:Int)<=h:=ω;have i2:(h:Int)<n:=ω;have i3:(0:Int)<=a:=ω;have i4:(a:Int)<n:=ω;have ct:IntKind.i64.wrap ((h:Int)+1)=((h+1:Nat):Int):=(by rw[ax _ ω];omega);clear HA;generalize K:f h=x at *;generalize L:f a=y at *;have HX:=ad K;have HY:=ad L;clear K L;generalize b4:lB (key x) (key y)=cv at *;have c3:decide (cv<0)=decide (key x<key y):=(by simp[a4]);generalize b6:key x=kx at *;generalize b7:key y=ky at *;clear a4 b4 b6 b7;go_upto_region 5 with fail;go_quiet ((exact o9 (HC.out _)));by_cases M:kx<ky
   ·have b8:decide (kx<ky)=true:=bp M;go_wp2;go_roundw;case rel=>exact⟨h+1,j,γ,rfl,ω,ω,X,bv.out M,Z,q+nq,by rw[<- HW.out,pp]⟩
    case measure=>exact μ
   ·have b8:decide (kx<ky)=false:=br M;go_wp2;go_roundw;case rel=>exact⟨i,h,rfl,rfl,hi,bn,ω,Y,bx.out M,q+nq,by rw[<- HW.out,pp]⟩
    case measure=>exact μ
  ·obtain rfl:i=j:=ω;have c4:¬((i:Int)<i):=ω;have a7:=J.fr ((Fr.refl w).drewN q);have aC:ai (λk=>k=g) w (w.drewN q):=((Fr.refl w).drewN q).chg _;have b9:=ad (Qn key f a b i Q.out (by have:=z.out;omega) X (λp F A=>Y.out p (by have:=z.out;omega) A) Z.out);have bA:=ad ((xB f a (a+1) i ω (by have:=z.out;omega)).widen (al a) (by have:=z.out;omega) X);have c5:IntKind.i64.wrap ((i:Int)-1)=((i-1:Nat):Int):=(by rw[ax _ ω];omega);clear Y Z hI;generalize w.drewN q=wq at *;go_wp2;go_loopw [13] (λkv wr=>∃(c:Nat) (o:Nat->Nat),kv=N c/\a<=c/\c+1<=i/\DJ wr g n cap o/\Hid (∀p,o p=aP f a (a+1) (c+1) p)/\ai (λk=>k=g) w wr) (λkv _=>i-(intOf kv).toNat);case atStart=>exact⟨a,f,rfl,al _,ω,a7,λp=>(EA f a (a+1) p).symm,aC⟩
   case round=>
    clear a7 aC;obtain⟨c,o,rfl,bB,c7,D,HF,hc⟩:=hrel;by_cases c8:c<i-1
    ·have bm:(c:Int)<((i-1:Nat):Int):=ω;have cA:IntKind.i64.wrap ((c:Int)+1)=((c+1:Nat):Int):=(by rw[ax _ ω];omega);have c1:=D.cell c ω;have c2:=D.cell (c+1) ω;have z1:=D.frozen c ω;have z2:=D.frozen (c+1) ω;have bL:=ad (D.swap c (c+1) ω ω);have bR:Hid (∀p,lx o c (c+1) p=aP f a (a+1) (c+1+1) p):=λp=>(by have e:o=aP f a (a+1) (c+1):=funext λp=>HF.out p;rw[e];exact NG f a c p bB);have i1:(0:Int)<=c:=ω;have i2:(c:Int)<n:=ω;have i5:c<n:=ω;have i6:c+1<n:=ω;have cL:c≠c+1:=ω;have cN:c+1≠c:=ω;have bT:c+1+1<=i:=ω;generalize K:o c=x at *;generalize L:o (c+1)=y at *;generalize bb:c+1=d at *;have ca:a<=d/\c<d:=ω;have i3:(0:Int)<=d:=ω;have i4:(d:Int)<n:=ω;have HD:=ad bb;clear K L bb HF;go_upto_region 11 with fail;go_region;all_goals go_wp2_with fail
     all_goals go_roundw
     case rel=>exact⟨d,lx o c d,rfl,ca.1,bT,bL.out.fr (Fr.drew (Fr.refl _)),bR,hc.trans ((xe wr g c d _ _).trans ((Fr.drew (Fr.refl _)).chg (λk=>k=g)) (λ_ _ h=>h)) (λ_ _ h=>h)⟩
     case measure=>exact μ
    ·obtain rfl:i=c+1:=ω;have cT:¬((c:Int)<((c+1-1:Nat):Int)):=ω;go_wp2_with fail;refine bF (results_none rfl _ _ _) rfl ?_;have e:o=aP f a (a+1) (c+1):=funext λp=>HF.out p;exact⟨rfl,o,D,by rw[e];exact bA.out,by rw[e];exact b9.out,hc⟩
def Mx{k:Nat}{a0:Array Value}{g:Nat}{key:Nat->Nat}{ok:Nat->Prop}{I:World->Prop}(R:qq k a0 g key ok I)(a m n cap:Nat)(f:Nat->Nat)(w:World)(J:DJ w g n cap f)(hI:I w)(cc:a+1<m)(hb:m+1<=n)(hn:n<=1000000000)
  (hok:∀p,a<=p->p<m+1->ok (f p)) (hah:pe f a m (m+1)) (hs1:bW key f a m) :
  Calls Tryz.prog 277 #[.slice (some ⟨g,0,none⟩) n cap,N a,N m,N (m+1),.func (.func k) #[] a0] w λe w'=>e=.returned (.tuple #[])/\∃f',DJ w' g n cap f'/\du f f' a (m+1)/\bW key f' a (m+1)/\ai (λk=>k=g) w w':=by
 obtain⟨cj,bd⟩:=J.caps;unfold maxLen at bd;have ck:=R.ent;have HK:=ad R;have a4:=ad hok;have bf:=ad hah;have U:=ad hs1;clear R hok hah hs1;have cl:(((m-a:Nat):Int) == 1)=false:=by simp;omega
 have cm:¬((m-a:Nat)=1):=ω
 have cn:IntKind.i64.wrap ((m:Int)-a)=((m-a:Nat):Int):=by rw[ax _ ω];omega
 have bk:IntKind.i64.wrap (((m+1:Nat):Int)-m)=1:=by rw[ax _ ω];omega
 generalize m-a=ma at *;obtain⟨b,V⟩:∃b,b=m+1:=⟨_,rfl⟩;rw[<- V]at bk ⊢;have HB:=ad V;have cq:m<b:=ω
 have cs:b<=n:=ω
 clear V;go_in;go_wp2;go_loopw [14,15] (λX Y wr=>∃(i j:Nat),X=N i/\Y=N j/\a<=i/\i<=j/\j<=m/\Hid (∀p,a<=p->p<i->bK key (f p) (f m))/\Hid (∀p,j<=p->p<m->bK key (f m) (f p))/\∃q,wr=w.drewN q) (λX Y _=>(intOf Y).toNat-(intOf X).toNat);case atStart=>exact⟨a,m,rfl,rfl,al _,ω,al _,λp A K=>by omega,λp A K=>by omega,0,rfl⟩
 case round=>
  obtain⟨i,j,rfl,rfl,Z,ct,L,HL,HH,q,rfl⟩:=hrel;by_cases cu:i<j
  ·have bm:(i:Int)<j:=ω;obtain⟨A,K,h3,h4⟩:=xZ i j ω;have bn:i<=(i+j) / 2:=ω;have c4:(i+j) / 2<j:=ω;generalize i+j=ij,(i+j) / 2=h at *;have c1:=(J.fr ((Fr.refl w).drewN q)).cell h ω;have c2:=(J.fr ((Fr.refl w).drewN q)).cell m ω;have HC:=ad (λr=>HK.out.call (f m) (f h) (HK.out.fr hI (((Fr.refl w).drewN q).drewN r)) (a4.out m ω ω) (a4.out h ω ω));have a5:=yw (key (f m)) (key (f h));generalize hW:w.drewN q=W at *;have HW:=ad hW;clear hW;have HA:=ad (Cc (key:=key) bf.out (show a<=h by omega) (show h<m by omega) (al m) ω);have bv:Hid (¬key (f m)<key (f h)->∀p,a<=p->p<h+1->bK key (f p) (f m)):=λe p A K=>by
    have D:=HA.out.2.1 e;by_cases c:p=h;·rw[c];exact D
    ·exact lO (U.out p h A ω ω) D
   have bx:Hid (key (f m)<key (f h)->∀p,h<=p->p<m->bK key (f m) (f p)):=λe p A K=>by
    have D:=HA.out.1.1 e;by_cases c:p=h;·rw[c];exact D
    ·exact lO D (U.out h p ω ω ω)
   have i1:(0:Int)<=h:=ω;have i2:(h:Int)<n:=ω;have i3:(0:Int)<=m:=ω;have i4:(m:Int)<n:=ω;have c5:IntKind.i64.wrap ((h:Int)+1)=((h+1:Nat):Int):=(by rw[ax _ ω];omega);clear HA;generalize M:f m=x at *;generalize O:f h=y at *;have HX:=ad M;have HY:=ad O;clear M O;generalize b4:lB (key x) (key y)=cv at *;have b5:decide (cv<0)=decide (key x<key y):=(by simp[a5]);have c8:decide ((0:Int)<=cv) = !decide (key x<key y):=(by rw[<- b5];by_cases h:cv<0 <;> simp[h] <;> omega);generalize b6:key x=F at *;generalize b7:key y=G at *;clear a5 b4 b6 b7;go_upto_region 17 with fail;go_quiet ((exact o9 (HC.out _)));by_cases Q:F<G
   ·have ak:decide (F<G)=true:=bp Q;have b8:decide (G<=F)=false:=br ω;simp only[ak,Bool.not_true];go_wp2;go_roundw;case rel=>exact⟨i,h,rfl,rfl,Z,bn,ω,HL,bx.out Q,q+nq,by rw[<- HW.out,pp]⟩
    case measure=>exact μ
   ·have ak:decide (F<G)=false:=br Q;have b8:decide (G<=F)=true:=bp ω;simp only[ak,Bool.not_false];go_wp2;go_roundw;case rel=>exact⟨h+1,j,γ,rfl,ω,ω,L,bv.out Q,HH,q+nq,by rw[<- HW.out,pp]⟩
    case measure=>exact μ
  ·obtain rfl:i=j:=ω;have cA:¬((i:Int)<i):=ω;have aC:=J.fr ((Fr.refl w).drewN q);have ba:ai (λk=>k=g) w (w.drewN q):=((Fr.refl w).drewN q).chg _;have b9:=ad (Gz key f a i m U.out Z L HL.out HH.out);have bA:=ad ((xB f i m (m+1) L ω).widen Z ω (al _));clear HL HH hI;generalize w.drewN q=wq at *;go_wp2;go_loopw [17] (λkv wr=>∃(c:Nat) (o:Nat->Nat),kv=N c/\i<=c/\c<=m/\DJ wr g n cap o/\Hid (∀p,o p=aP f c m (m+1) p)/\ai (λk=>k=g) w wr) (λkv _=>(intOf kv).toNat);case atStart=>exact⟨m,f,rfl,L,al _,aC,λp=>(Ak f m (m+1) p ω).symm,ba⟩
   case round=>
    clear aC ba;obtain⟨c,o,rfl,cE,bB,z,HF,hc⟩:=hrel;by_cases cF:i<c
    ·have bm:(i:Int)<(c:Int):=ω;have cG:IntKind.i64.wrap ((c:Int)-1)=((c-1:Nat):Int):=(by rw[ax _ ω];omega);have c1:=z.cell c ω;have c2:=z.cell (c-1) ω;have z1:=z.frozen c ω;have z2:=z.frozen (c-1) ω;have bL:=ad (z.swap c (c-1) ω ω);have bR:Hid (∀p,lx o c (c-1) p=aP f (c-1) m (m+1) p):=λp=>(by have e:o=aP f c m (m+1):=funext λp=>HF.out p;rw[e];exact E9 f m c p bB ω);have i1:(0:Int)<=c:=ω;have i2:(c:Int)<n:=ω;have i5:c<n:=ω;have bT:i<=c-1/\c-1<c/\c-1<n/\c-1<=m:=ω;generalize M:o c=x at *;generalize O:o (c-1)=y at *;generalize bc:c-1=d at *;obtain⟨d1,d2,d3,d4⟩:=bT;have dc:c≠d:=ω;have di:d≠c:=ω;have i3:(0:Int)<=d:=ω;have i4:(d:Int)<n:=ω;have HD:=ad bc;clear M O bc HF;go_upto_region 23 with fail;go_region;all_goals go_wp2_with fail
     all_goals go_roundw
     case rel=>exact⟨d,lx o c d,rfl,d1,d4,bL.out.fr (Fr.drew (Fr.refl _)),bR,hc.trans ((xe wr g c d _ _).trans ((Fr.drew (Fr.refl _)).chg (λk=>k=g)) (λ_ _ h=>h)) (λ_ _ h=>h)⟩
     case measure=>exact μ
    ·obtain rfl:i=c:=ω;have ds:¬((i:Int)<(i:Int)):=ω;go_wp2_with fail;refine bF (results_none rfl _ _ _) rfl ?_;have e:o=aP f i m (m+1):=funext λp=>HF.out p;rw[HB.out];exact⟨rfl,o,z,by rw[e];exact bA.out,by rw[e];exact b9.out,hc⟩
def Ci(k:Nat)(d:Array Value)(g n cap:Nat)(key:Nat->Nat)(h:Nat->Prop)(I:World->Prop)(a m b:Nat):Prop:=
 ∀(f : Nat → Nat) (w : World), DJ w g n cap f → I w → (∀p, a ≤ p → p < b → h (f p)) → pe f a m b → bW key f a m → bW key f m b →
  Calls Tryz.prog 277 #[.slice (some ⟨g,0,none⟩) n cap,N a,N m,N b,.func (.func k) #[] d] w λe w'=>e=.returned (.tuple #[])/\∃f',DJ w' g n cap f'/\du f f' a b/\bW key f' a b/\ai (λk=>k=g) w w'
def Mw{k:Nat}{a7:Array Value}{g:Nat}{key:Nat->Nat}{ok:Nat->Prop}{I:World->Prop}(hk:qq k a7 g key ok I)(a m b n cap:Nat)(g0:a+1<m)(g1:m+1<b)(hb:b<=n)(hn:n<=1000000000)
  (ih:∀a' m' b',b'-a'<b-a->a'<m'->m'<b'->b'<=n->Ci k a7 g n cap key ok I a' m' b'):Ci k a7 g n cap key ok I a m b:=by
 intro f w hd hI ck cl cm aa;obtain⟨cn,b1⟩:=hd.caps;unfold maxLen at b1;have g2:=hk.ent;have HK:=ad hk;have b2:=ad ck;have b3:=ad cl;have ba:=ad cm;have bb:=ad aa;have cp:=ad ih;have bc:=ad hI;clear hk ck cl cm aa ih hI;have g3:(((m-a:Nat):Int) == 1)=false:=by simp;omega
 have g4:¬((m-a:Nat)=1):=ω
 have g5:IntKind.i64.wrap ((m:Int)-a)=((m-a:Nat):Int):=by rw[ax _ ω];omega
 have g6:(((b-m:Nat):Int) == 1)=false:=by simp;omega
 have g7:¬((b-m:Nat)=1):=ω
 have g8:IntKind.i64.wrap ((b:Int)-m)=((b-m:Nat):Int):=by rw[ax _ ω];omega
 generalize b-m=bm,m-a=ma at *;obtain⟨e1,e2,e3,e4⟩:=xZ a b ω;have eq:a<(a+b) / 2/\(a+b) / 2<b:=ω
 obtain⟨d,cs⟩:∃d,d=(a+b) / 2:=⟨_,rfl⟩;have er:2*d<=a+b/\a+b<=2*d+1:=ω
 rw[<- cs]at e3 e4 eq;clear cs;generalize a+b=ab at e1 e2 e3;have ct:IntKind.i64.wrap ((d:Int)+m)=((d+m:Nat):Int):=by rw[ax _ ω];omega
 have cu:IntKind.i64.wrap (((d+m:Nat):Int)-1)=((d+m-1:Nat):Int):=by rw[ax _ ω];omega
 obtain⟨o,aj⟩:∃o,o=d+m:=⟨_,rfl⟩;rw[<- aj]at ct cu;go_in;go_upto_if 140 with fail;go_cut [20,21]from 138 to 146 (λsv rv K=>∃D F:Nat,sv=N D/\rv=N F/\a<=D/\D<=F/\F<=m/\o-D<=b/\m<=o-F/\Hid (D=a\/o-D=b)/\Hid (F=m\/o-F=m)/\w=K)
 case first=>
  by_cases hc:d<m;·have es:(d:Int)<m:=ω;have hf:IntKind.i64.wrap ((o:Int)-b)=((o-b:Nat):Int):=(by rw[ax _ ω];omega);have U:a<=o-b/\o-b<=d/\d<=m/\o-(o-b)<=b/\m<=o-d:=ω;have ev:Hid (o-b=a\/o-(o-b)=b):=.inr ω;have e0:Hid (d=m\/o-d=m):=.inr ω;have a4:=ad aj;clear aj;go_wp2;go_meet;exact⟨o-b,d,by have:=a4.out;first | rfl | (congr 1;omega),rfl,U.1,U.2.1,U.2.2.1,U.2.2.2.1,U.2.2.2.2,ev,e0,by first | rfl | trivial⟩
  ·have es:¬(d:Int)<m:=ω;have U:o-a<=b/\m<=o-m:=ω;clear aj;go_wp2;go_meet;exact⟨a,m,rfl,rfl,al _,ω,al _,U.1,U.2,.inl rfl,.inl rfl,by first | rfl | trivial⟩
 case rest=>
  obtain⟨D,F,rfl,rfl,e5,c0,c3,e6,e7,HL,HH,rfl⟩:=hcut;have a4:=ad aj;have c6:∀x,D<=x->x<F->m<=d+m-1-x/\d+m-1-x<b/\x<=d+m-1:=λx G J=>ω;have b4:=ad c6;have e8:2*d<=a+b/\m<=n/\d<=n:=ω;clear aj ct cu c6;go_wp2;go_loopw [20,21] (λsv rv wr=>∃(s r:Nat),sv=N s/\rv=N r/\D<=s/\s<=r/\r<=F/\Hid (∀x,D<=x->x<s->bK key (f x) (f (d+m-1-x)))/\Hid (∀x,r<=x->x<F->bK key (f (d+m-1-x)) (f x))/\∃q,wr=w.drewN q) (λsv rv _=>(intOf rv).toNat-(intOf sv).toNat);case atStart=>exact⟨D,F,rfl,rfl,al _,c0,al _,λp G J=>by omega,λp G J=>by omega,0,rfl⟩
  case round=>
   obtain⟨s,r,rfl,rfl,hs,e9,hr,HX,HY,q,rfl⟩:=hrel;by_cases eL:s<r
   ·have hg:(s:Int)<r:=ω;obtain⟨j1,j2,j3,j4⟩:=xZ s r ω;have fa:s<=(s+r) / 2:=ω;have hp:(s+r) / 2<r:=ω;generalize s+r=sr,(s+r) / 2=c at *;obtain⟨p1,p2,p3⟩:=b4.out c ω ω;have c1:=(hd.fr ((Fr.refl w).drewN q)).cell (d+m-1-c) ω;have c2:=(hd.fr ((Fr.refl w).drewN q)).cell c ω;have HC:=ad (λr=>HK.out.call (f (d+m-1-c)) (f c) (HK.out.fr bc.out (((Fr.refl w).drewN q).drewN r)) (b2.out _ ω ω) (b2.out c ω ω));have cA:=yw (key (f (d+m-1-c))) (key (f c));have b7:=ad (Nq key f a m b D F (d+m-1) c ba.out bb.out e5 c3 b4.out ω ω);have HA:=ad (Cc (key:=key) b3.out (show a<=c by omega) (show c<m by omega) p1 p2);have fc:(d:Int)+m-1-c=((d+m-1-c:Nat):Int):=ω;have ht:IntKind.i64.wrap ((d:Int)+m-1-c)=((d+m-1-c:Nat):Int):=(by rw[fc];exact ax _ ω);have hu:d+m-1-c<n:=ω;generalize hW:w.drewN q=W at *;have HW:=ad hW;clear hW;have fe:Hid (¬key (f (d+m-1-c))<key (f c)->∀x,D<=x->x<c+1->bK key (f x) (f (d+m-1-x))):=λe=>b7.out.1 (HA.out.2.1 e);have fh:Hid (key (f (d+m-1-c))<key (f c)->∀x,c<=x->x<F->bK key (f (d+m-1-x)) (f x)):=λe=>b7.out.2 (HA.out.1.1 e);have i1:(0:Int)<=c:=ω;have i2:(c:Int)<n:=ω;have i5:c<n:=ω;have h0:IntKind.i64.wrap ((c:Int)+1)=((c+1:Nat):Int):=(by rw[ax _ ω];omega);clear HA b7;have h6:(0:Int)<=((d+m-1-c:Nat):Int):=ω;have h7:((d+m-1-c:Nat):Int)<n:=ω;generalize d+m-1-c=pc at *;generalize hx:f pc=x at *;generalize hy:f c=y at *;have h8:=ad hx;have h9:=ad hy;clear hx hy;generalize fl:lB (key x) (key y)=cv at *;have hA:decide (cv<0)=decide (key x<key y):=(by simp[cA]);generalize fm:key x=kx at *;generalize fn:key y=ky at *;clear cA fl fm fn;go_upto_region 35 with fail;go_quiet ((exact o9 (HC.out _)));by_cases bd:kx<ky
    ·have bB:decide (kx<ky)=true:=bp bd;simp only[bB,Bool.not_true];go_wp2;go_roundw;case rel=>exact⟨s,c,rfl,rfl,hs,fa,ω,HX,fh.out bd,q+nq,by rw[<- HW.out,pp]⟩
     case measure=>exact μ
    ·have bB:decide (kx<ky)=false:=br bd;simp only[bB,Bool.not_false];go_wp2;go_roundw;case rel=>exact⟨c+1,r,γ,rfl,ω,ω,hr,fe.out bd,HY,q+nq,by rw[<- HW.out,pp]⟩
     case measure=>exact μ
   ·obtain rfl:s=r:=ω;have hB:¬((s:Int)<s):=ω;have bL:=hd.fr ((Fr.refl w).drewN q);have bT:ai (λk=>k=g) w (w.drewN q):=((Fr.refl w).drewN q).chg _;have hE:=ad (HK.out.fr bc.out ((Fr.refl w).drewN q));obtain⟨e,he⟩:∃e,e=d+m-s:=⟨_,rfl⟩;have fr:a<=s/\s<=m/\m<=e/\e<=b:=(by have:=a4.out;omega);have V:Hid (e+s=d+m):=(by show _=_;omega);have fs:Hid (a<s->e<b->bK key (f (s-1)) (f e)):=λG J=>by
     have hl:D<=s-1:=by
      rcases HL.out with h | h;·omega
      ·have:=a4.out;omega
     have:=HX.out (s-1) hl ω;rw[show d+m-1-(s-1)=e by omega]at this;exact this
    have fv:Hid (s<m->m<e->bK key (f (e-1)) (f s)):=λG J=>by
     have hl:s<F:=by
      rcases HH.out with h | h;·omega
      ·have:=a4.out;omega
     have:=HY.out s (al _) hl;rw[show d+m-1-s=e-1 by omega]at this;exact this
    obtain⟨M,X,O,Q⟩:=fr;have f0:=ad (Ms M X O Q V.out ba.out bb.out fs.out fv.out);have cN:=ad (Mp M X O Q V.out ba.out);have cR:=ad (Mo M X O Q V.out bb.out);have f1:=ad (Mn M X O Q V.out ba.out);have f4:=ad (Mm M X O Q V.out bb.out);have f5:=ad (Mu M X O Q V.out b3.out);have f6:=ad (Mt M X O Q V.out b3.out);have cT:=ad (xB f s m e X O);have da:Hid (∀p,a<=p->p<b->ok (aP f s m e p)):=λp G J=>(by obtain⟨q,h3,h4,h5⟩:=(cT.out.widen M ω Q).mem p G J;rw[h5];exact b2.out q h3 h4);have hG:IntKind.i64.wrap ((d:Int)+m-s)=(e:Int):=(by rw[ax _ ω];omega);have hH:s<=d/\d<=e:=(by have:=V.out;omega);have HE:=ad he;clear he e6 e7 c0 hs hr e9 c3 eL HX HY HL HH b4 e8 er;generalize w.drewN q=wq at *;clear hd;go_upto_region 39 with fail;go_cut [185]from 178 to 185 (λcv K=>cv=.bool (decide (s<m) && decide (m<e))/\wq=K)
    case first=>
     by_cases L:s<m
     ·by_cases Y:m<e;·have Z:(s:Int)<m:=ω;have a5:(m:Int)<e:=ω;go_wp2;go_meet;exact⟨by simp[L,Y],rfl⟩
      ·have Z:(s:Int)<m:=ω;have a5:¬(m:Int)<e:=ω;go_wp2;go_meet;exact⟨by simp[L,Y],rfl⟩
     ·have Z:¬(s:Int)<m:=ω;go_wp2;go_meet;exact⟨by simp[L],rfl⟩
    case rest=>
     obtain⟨rfl,rfl⟩:=hcut;have di:=ad (λ(G:s<m) (J:m<e)=>NF s m e (.func (.func k) #[] a7) g n cap f wq bL G J ω hn);have dj:Hid ((decide (s<m) && decide (m<e))=false->∀p,aP f s m e p=f p):=λh p=>by
      simp only[Bool.and_eq_false_iff,sw]at h;rcases h with h | h;·obtain rfl:s=m:=ω;exact Ak f s e p O
      ·obtain rfl:m=e:=ω;exact EA f s m p
     have cb:Hid ((decide (s<m) && decide (m<e))=true->s<m/\m<e):=λh=>(by simpa using h);generalize (decide (s<m) && decide (m<e))=bR at *;go_upto_if 185 with fail;go_cut []from 186 to 191 (λK=>DJ K g n cap (aP f s m e)/\ai (λk=>k=g) w K)
     case first=>
      cases bR;·go_wp2;go_meet;exact⟨bL.congr λp _=>dj.out (by first | rfl | trivial) p,bT⟩
      ·go_wp2_with fail;refine(di.out (cb.out (by first | rfl | trivial)).1 (cb.out (by first | rfl | trivial)).2).mono ?_;rintro e' w1 ⟨rfl,a6,cn⟩;go_wp2;go_meet;exact⟨a6,bT.trans cn (λ_ _ h=>h)⟩
     case rest=>
      generalize cc:wc=wd at *;clear cc;obtain⟨a6,bf⟩:=hcut;clear di dj cb bT bL;have d1:=ad (HK.out.stay bc.out bf);go_upto_region 41 with fail;go_cut [199]from 192 to 199 (λcv K=>cv=.bool (decide (a<s) && decide (s<d))/\wd=K)
      case first=>
       by_cases L:a<s
       ·by_cases Y:s<d;·have Z:(a:Int)<s:=ω;have a5:(s:Int)<d:=ω;go_wp2;go_meet;exact⟨by simp[L,Y],rfl⟩
        ·have Z:(a:Int)<s:=ω;have a5:¬(s:Int)<d:=ω;go_wp2;go_meet;exact⟨by simp[L,Y],rfl⟩
       ·have Z:¬(a:Int)<s:=ω;go_wp2;go_meet;exact⟨by simp[L],rfl⟩
      case rest=>
       obtain⟨rfl,rfl⟩:=hcut;have bk:=ad (λ(G:a<s) (J:s<d)=>cp.out a s d ω G J ω (aP f s m e) wd a6 d1.out (λp x y=>da.out p x ω) f5.out cN.out cR.out);have bl:Hid ((decide (a<s) && decide (s<d))=false->bW key (aP f s m e) a d):=λh=>by
        simp only[Bool.and_eq_false_iff,sw]at h;rcases h with h | h;·obtain rfl:a=s:=ω;exact cR.out
        ·obtain rfl:s=d:=ω;exact cN.out
       have ak:Hid ((decide (a<s) && decide (s<d))=true->a<s/\s<d):=λh=>(by simpa using h);generalize (decide (a<s) && decide (s<d))=fD at *;go_upto_if 199 with fail;go_cut []from 200 to 205 (λK=>∃A,DJ K g n cap A/\du (aP f s m e) A a d/\bW key A a d/\ai (λk=>k=g) w K)
       case first=>
        cases fD;·go_wp2;go_meet;exact⟨_,a6,du.refl _ _ _,bl.out (by first | rfl | trivial),bf⟩
        ·go_wp2_with fail;refine(bk.out (ak.out (by first | rfl | trivial)).1 (ak.out (by first | rfl | trivial)).2).mono ?_;rintro e' w1 ⟨rfl,A,bn,bs,aa,b1⟩;go_wp2;go_meet;exact⟨A,bn,bs,aa,bf.trans b1 (λ_ _ h=>h)⟩
       case rest=>
        generalize cc:wc=we at *;clear cc;obtain⟨A,bn,bs,aa,cf⟩:=hcut;clear bk bl ak a6;have fN:=ad (HK.out.stay bc.out cf);have ch:=ad bs;have fP:=ad aa;have ap:Hid (∀p,d<=p->A p=aP f s m e p):=λp h=>ch.out.1 p (.inr h);have fQ:Hid (∀p,d<=p->p<b->ok (A p)):=λp G J=>(by rw[ap.out p G];exact da.out p ω J);have d3:=ad (f1.out.congr (g:=A) λp h _=>ap.out p h);have d4:=ad (f4.out.congr (g:=A) λp h _=>ap.out p ω);have fS:Hid (pe A d e b):=λp q x y z t=>(by rw[ap.out p x,ap.out q ω];exact f6.out p q x y z t);clear bs aa bf d1;go_upto_region 43 with fail;go_cut [213]from 206 to 213 (λcv K=>cv=.bool (decide (d<e) && decide (e<b))/\we=K)
        case first=>
         by_cases L:d<e
         ·by_cases Y:e<b;·have Z:(d:Int)<e:=ω;have a5:(e:Int)<b:=ω;go_wp2;go_meet;exact⟨by simp[L,Y],rfl⟩
          ·have Z:(d:Int)<e:=ω;have a5:¬(e:Int)<b:=ω;go_wp2;go_meet;exact⟨by simp[L,Y],rfl⟩
         ·have Z:¬(d:Int)<e:=ω;go_wp2;go_meet;exact⟨by simp[L],rfl⟩
        case rest=>
         obtain⟨rfl,rfl⟩:=hcut;have bk:=ad (λ(G:d<e) (J:e<b)=>cp.out d e b ω G J hb A we bn fN.out fQ.out fS.out d3.out d4.out);have bl:Hid ((decide (d<e) && decide (e<b))=false->bW key A d b):=λh=>by
          simp only[Bool.and_eq_false_iff,sw]at h;rcases h with h | h;·obtain rfl:d=e:=ω;exact d4.out
          ·obtain rfl:e=b:=ω;exact d3.out
         have ak:Hid ((decide (d<e) && decide (e<b))=true->d<e/\e<b):=λh=>(by simpa using h);generalize (decide (d<e) && decide (e<b))=ga at *;have d5:Hid (∀R,du A R d b->bW key R d b->du f R a b/\bW key R a b):=λR r3 q3=>by
          refine⟨((cT.out.widen M ω Q).trans (ch.out.widen (al a) ω ω)).trans (r3.widen ω ω (al b)),?_⟩;refine Mr key (aP f s m e) R a d b (fP.out.congr λp _ h=>r3.1 p (.inl h)) q3 (λp x y=>?_) (λp x y=>?_) f0.out;·rw[r3.1 p (.inl y)];exact ch.out.mem p x y
          ·obtain⟨q,x1,x2,x3⟩:=r3.mem p x y;exact⟨q,x1,x2,by rw[x3,ap.out q x1]⟩
         cases ga;·go_wp2;go_end0;have:=d5.out A (du.refl _ _ _) (bl.out (by first | rfl | trivial));exact⟨rfl,A,bn,this.1,this.2,cf⟩
         ·go_wp2_with fail;refine(bk.out (ak.out (by first | rfl | trivial)).1 (ak.out (by first | rfl | trivial)).2).mono ?_;rintro e' w1 ⟨rfl,R,gg,gi,gs,gv⟩;go_wp2;go_end0;have:=d5.out R gi gs;exact⟨rfl,R,gg,this.1,this.2,cf.trans gv (λ_ _ h=>h)⟩
def Mv{k:Nat}{G:Array Value}{g:Nat}{key:Nat->Nat}{J:Nat->Prop}{I:World->Prop}(e:qq k G g key J I)(n cap:Nat)(h:n<=1000000000):∀(c a m b:Nat),b-a<=c->a<m->m<b->b<=n->Ci k G g n cap key J I a m b:=by
 intro c
 induction c with
 | zero=>intro a m b O Q K d;omega
 | succ c R=>
  intro a m b O Q K d;by_cases U:m=a+1;·subst U;intro f w o A D F L M;exact My e a b n cap f w o A K d h D F M
  ·by_cases c2:b=m+1;·subst c2;intro f w o A D F L M;exact Mx e a m n cap f w o A ω d h D F L
   ·exact Mw e a m b n cap ω ω d h λV X Y x y z t=>R V X Y ω y z t
def MR{k:Nat}{b0:Array Value}{g:Nat}{key:Nat->Nat}{ok:Nat->Prop}{I:World->Prop}(hk:qq k b0 g key ok I)(n cap:Nat)(M:Nat->Nat)(w:World)(L:DJ w g n cap M)(hI:I w)(hn:n<=1000000)
  (hok:∀p,p<n->ok (M p)) (hup:∀p q,p<q->q<n->M p<M q) :
  Calls Tryz.prog 269 #[.slice (some ⟨g,0,none⟩) n cap,N n,.func (.func k) #[] b0] w λe w'=>e=.returned (.tuple #[])/\∃f,DJ w' g n cap f/\du M f 0 n/\bW key f 0 n/\ai (λk=>k=g) w w':=by
 have b5:=ad (λa b f w o A D h4 h5 h6=>RL hk a b n cap f w o A D h4 ω h5 h6);have cn:=ad (λa m b=>Mv hk n cap ω (b-a) a m b (al _));have HK:=ad hk;have b8:=ad hok;have b9:=ad hup;clear hk hok hup;go_in;go_wp2;go_loopw [7,8] (λav bv wr=>∃(t:Nat) (f:Nat->Nat),av=N (20*t)/\bv=N (20*t+20)/\20*t<=n/\DJ wr g n cap f/\Hid (im key M f 20 n (20*t))/\Hid (∀p,20*t<=p->f p=M p)/\ai (λk=>k=g) w wr) (λ_ bv _=>n+21-(intOf bv).toNat);case atStart=>exact⟨0,M,rfl,rfl,ω,L,im.start key M 20 n,λ_ _=>rfl,ai.refl _ w⟩
 case round=>
  clear L;obtain⟨t,f,rfl,rfl,ht,L,U,HF,F⟩:=hrel;have bb:=ad (HK.out.stay hI F);have V:=ad (λb (o:20*t<=b) (A:b<=n)=>b5.out (20*t) b f wr L bb.out o A (λp _ h=>U.out.okay b8.out p ω) (λp q D h4 h5=>by rw[HF.out p D,HF.out q ω];exact b9.out p q h4 ω));have O:=ad (λf' b (Q:du f f' (20*t) b) (R:bW key f' (20*t) b) o A D h4=>im.step ω U.out HF.out Q R o A D h4);by_cases bl:20*t+20<=n
  ·have bA:((20*t+20:Nat):Int)<=n:=ω;have G:=ad (V.out (20*t+20) ω bl);have J:=ad (λf' Q R=>O.out f' (20*t+20) Q R ω bl (al _) (.inl rfl));obtain⟨Z,bm⟩:∃Z,Z=20*t+20:=⟨_,rfl⟩;obtain⟨a,ha⟩:∃a,a=20*t:=⟨_,rfl⟩;rw[<- bm]at G J bl bA ⊢;rw[<- ha]at G J ⊢;have cp:IntKind.i64.wrap ((Z:Int)+20)=((Z+20:Nat):Int):=(by rw[ax _ ω];omega);have c4:n+21-(Z+20)<n+21-Z:=ω;have bc:=ad bm;have HA:=ad ha;clear ha bm V O ht U HF;go_wp2_with fail;refine G.out.mono ?_;rintro e w1 ⟨rfl,f',aa,ab,ac,aj⟩;have h9:=J.out f' ab ac;rw[show Z=20*(t+1) by have:=bc.out;omega]at h9;go_wp2;go_roundw;case rel=>exact⟨t+1,f',by have:=bc.out;show Value.int _ _=Value.int _ _;congr 1;omega,by have:=bc.out;show Value.int _ _=Value.int _ _;congr 1;omega,by have:=bc.out;omega,aa,h9.1,h9.2,F.trans aj (λ_ _ h=>h)⟩
   case measure=>exact μ
  ·have bA:¬((20*t+20:Nat):Int)<=n:=ω;have G:=ad (V.out n ht (al _));have J:=ad (λf' Q R=>(O.out f' n Q R ht (al _) ω (.inr rfl)).1);clear V O U HF;generalize 20*t=a,20*t+20=Z at *;go_wp2_with fail;refine G.out.mono ?_;rintro e w1 ⟨rfl,f1,aa,ab,ac,aj⟩;have bL:=ad (J.out f1 ab ac);have bR:=F.trans aj (λ_ _ h=>h);clear G J ab ac aj F L bb b5;go_wp2;go_loopw [6] (λcv wr=>∃(c:Nat) (f:Nat->Nat),cv=N c/\20<=c/\(c<=2*n\/c=20)/\DJ wr g n cap f/\Hid (im key M f c n n)/\ai (λk=>k=g) w wr) (λcv _=>n-(intOf cv).toNat);case atStart=>exact⟨20,f1,rfl,al _,.inr rfl,aa,bL,bR⟩
   case round=>
    clear aa bL bR;obtain⟨c,f,rfl,c6,c7,L,U,F⟩:=hrel;by_cases c8:c<n
    ·have cq:(c:Int)<n:=ω;have cs:IntKind.i64.wrap (2*(c:Int))=((2*c:Nat):Int):=(by rw[ax _ ω];omega);have ct:IntKind.i64.wrap ((c:Int)*2)=((2*c:Nat):Int):=(by rw[ax _ ω];omega);obtain⟨d,X⟩:∃d,d=2*c:=⟨_,rfl⟩;rw[<- X]at cs ct;have bT:c<d/\d<=2*n/\d<=2000000:=ω;have cA:=ad X;have ca:=ad (U.out.double);rw[<- X]at ca;have bd:=ad (λt b (o:d*t+c<=b) (A:b<=n) (D:b<=d*t+d)=>im.parts (t:=t) (b:=b) ω U.out b9.out (by rw[<- X];exact o) A (by rw[<- X];exact D));rw[<- X]at bd;have cb:=ad (λt (o:n<=d*t+c)=>im.rest (t:=t) ω U.out (by rw[<- X];exact o));rw[<- X]at cb;clear X;go_wp2_with fail;generalize wr=wo at *;go_loopw [7,8] (λav bv wr=>∃(t:Nat) (g2:Nat->Nat),av=N (d*t)/\bv=N (d*t+d)/\d*t<=n/\DJ wr g n cap g2/\Hid (im key M g2 d n (d*t))/\Hid (∀p,d*t<=p->g2 p=f p)/\ai (λk=>k=g) w wr) (λ_ bv _=>n+d+1-(intOf bv).toNat);case atStart=>exact⟨0,f,σ,σ,σ,L,by rw[Nat.mul_zero];exact ca.out,λ_ _=>rfl,F⟩
     case round=>
      clear L F;obtain⟨t,g2,rfl,rfl,ht,L,aC,Y,F⟩:=hrel;have bb:=ad (HK.out.stay hI F)
      have V := ad (fun b (o : d * t + c ≤ b) (h0 : d * t + c < b) (A : b ≤ n) (D : b ≤ d * t + d) => cn.out (d * t) (d * t + c) b (by omega) h0 A g2 wr L bb.out (fun p _ h => aC.out.okay b8.out p (by omega))
        (by
          have := (bd.out t b o A D).1
          intro p q x y z u
          rw[Y.out p x, Y.out q ω]; exact this p q x y z u)
        ((bd.out t b o A D).2.1.congr λp x _ => Y.out p x) ((bd.out t b o A D).2.2.congr λp x _ => Y.out p ω))
      have O:=ad (λg3 b (Q:du g2 g3 (d*t) b) (R:bW key g3 (d*t) b) o A D h4=>im.step ω aC.out Y.out Q R o A D h4);have ch:d*(t+1)=d*t+d:=Nat.mul_succ _ _;have a0:=ad ch;clear ch;by_cases bf:d*t+d<=n
      ·have G:=ad (V.out (d*t+d) ω ω bf (al _));have J:=ad (λf' Q R=>O.out f' (d*t+d) Q R ω bf (al _) (.inl rfl));clear V O aC Y;obtain⟨b2,cj⟩:∃b2,b2=d*t+d:=⟨_,rfl⟩;obtain⟨K,a1⟩:∃K,K=d*t+c:=⟨_,rfl⟩;rw[<- cj]at G J bf a0 ⊢;rw[<- a1]at G;have ck:IntKind.i64.wrap (((d*t:Nat):Int)+c)=(K:Int):=(by rw[ax _ ω];omega);have cp:IntKind.i64.wrap ((b2:Int)+d)=((b2+d:Nat):Int):=(by rw[ax _ ω];omega);have c0:(b2:Int)<=n:=ω;clear a1 cj ht;generalize d*t=a2 at *;go_wp2_with fail;refine G.out.mono ?_;rintro e w1 ⟨rfl,f',aa,ab,ac,aj⟩;have h9:=J.out f' ab ac;go_wp2;go_roundw;case rel=>exact⟨t+1,f',by rw[a0.out],by rw[a0.out];first | rfl | go_num,by rw[a0.out];exact bf,aa,by rw[a0.out];exact h9.1,by rw[a0.out];exact h9.2,F.trans aj (λ_ _ h=>h)⟩
       case measure=>exact μ
      ·have c0:¬((d*t+d:Nat):Int)<=n:=ω;by_cases bx:d*t+c<n
       ·have G:=ad (V.out n ω bx (al _) ω);have J:=ad (λf' Q R=>(O.out f' n Q R ht (al _) ω (.inr rfl)).1);clear V O aC Y a0;obtain⟨K,a1⟩:∃K,K=d*t+c:=⟨_,rfl⟩;rw[<- a1]at G bx;have ck:IntKind.i64.wrap (((d*t:Nat):Int)+c)=(K:Int):=(by rw[ax _ ω];omega);have c1:(K:Int)<n:=ω;clear a1;generalize d*t=a2,d*t+d=b2 at *;go_wp2_with fail;refine G.out.mono ?_;rintro e w1 ⟨rfl,f',aa,ab,ac,aj⟩;have h9:=J.out f' ab ac;go_wp2;go_roundw;case rel=>exact⟨d,f',by first | rfl | go_num,ω,.inl bT.2.1,aa,h9,F.trans aj (λ_ _ h=>h)⟩
        case measure=>exact μ
       ·have J:=ad ((O.out g2 n (du.refl _ _ _) ((cb.out t ω).congr λp x _=>Y.out p x) ht (al _) ω (.inr rfl)).1);clear V O aC Y a0;obtain⟨K,a1⟩:∃K,K=d*t+c:=⟨_,rfl⟩;rw[<- a1]at bx;have ck:IntKind.i64.wrap (((d*t:Nat):Int)+c)=(K:Int):=(by rw[ax _ ω];omega);have c1:¬(K:Int)<n:=ω;clear a1;generalize d*t=a2,d*t+d=b2 at *;go_wp2;go_roundw;case rel=>exact⟨d,g2,by first | rfl | go_num,ω,.inl bT.2.1,L,J,F⟩
        case measure=>exact μ
    ·have cq:¬(c:Int)<n:=ω;go_wp2;go_end0;exact⟨rfl,f,L,U.out.rear,U.out.whole ω,F⟩
def Th{f:FuncId}{d:Func}{c:Code}(e:Tryz.prog.funcs[f]?=some d)(h:(d.name == "runtime.NumGoroutine")=false)(m:d.body=some c)(args:Array Value)(w:World):(callFunc f args).run Tryz.prog w=.ok (.enter f args) w:=by
 have o:d.name≠ "runtime.NumGoroutine":=by simpa using h
 simp[callFunc,e,o,m,mark]
def eV:aw Tryz.prog Nat:=⟨124,1,4,0,.int .u32 0,λn=>[.int .u32 (n:Int)],by kernel_rfl,δ,δ,by simp[Value.cells],λ_=>rfl,by intro x u d;simp at d;subst d;rfl⟩
def wT{w:World}{v:Value}{l:List Nat}(h:ah w eV v l)(k:Nat)(e:k<l.length):∃b d cap,v=.slice (some ⟨b,d,none⟩) l.length cap/\w.cell? ⟨b,d+k,none⟩=some (.int .u32 (l[k]:Int)):=
 h.cell1 (λn:Nat=>Value.int .u32 (n:Int)) rfl k e
def Ow.up{α:Type}{E:aw Tryz.prog α}{w:World}{g n cap base:Nat}{l:List α}(h:Ow w 0 E (.slice (some ⟨g,0,none⟩) n cap) l)(d:base<=g):Ow w base E (.slice (some ⟨g,0,none⟩) n cap) l:=by
 obtain⟨e,_,m,o,r⟩:=h.parts;exact⟨E.length_cells _,.inr ⟨g,cap,m,by rw[e],d,o,r⟩⟩
def jg(d:List Nat):List Nat:=(List.range d.length).filter λs=>decide (0<d.getD s 0)
def D0(d:List Nat):∀s∈jg d,s<d.length:=λs h=>by
 unfold jg at h
 exact dN.1 (lG.1 h).1
def zS(d:List Nat):(jg d).Pairwise (·<·):=List.Pairwise.filter _ List.pairwise_lt_range
def D6(d:List Nat):(jg d).length<=d.length:=by
 unfold jg;have:=uq (λs=>decide (0<d.getD s 0)) (List.range d.length);simpa using this
def mz(d:List Nat)(k:Nat):List Nat:=(List.range k).filter λs=>decide (0<d.getD s 0)
def Mj(d:List Nat)(k:Nat):(mz d k).length<=k:=by
 unfold mz;have:=uq (λs=>decide (0<d.getD s 0)) (List.range k);simpa using this
def Mi(d:List Nat)(k:Nat)(h:k<d.length):mz d (k+1)=if 0<d[k]then mz d k++[k]else mz d k:=by
 unfold mz;rw[jr,sF];have e:d.getD k 0=d[k]:=by rw[bq,bj h];rfl
 by_cases c:0<d[k];·rw[af c,ur (by rw[e];simpa using c)];rfl
 ·rw[ae c,ut (by rw[e];simpa using c)];simp
def aQ(d:List Nat):List Nat:=uG (λs=>d.getD s 0) (jg d)
def KL(B:Nat)(v:Value)(d:List Nat)(x y:Nat)(w:World)(z:w.heap[B]?=some (.cells #[v] 229 (0,0)))(o:ah w eV v d)(A:x<d.length)(D:y<d.length):Calls Tryz.prog 257 #[N x,N y,.pointer (some ⟨B,0,none⟩)] w λe w'=>e=.returned (.int .i64 (lB (d.getD x 0) (d.getD y 0)))/\∃m,w'=w.drewN m:=by
 have K:=o.le;unfold maxLen at K;have M:=ad (λa b W=>Um a b W);have O:=ag z 0 rfl;obtain⟨b,Q,cap,F,R⟩:=wT o x A;obtain⟨U,V,X,G,c2⟩:=wT o y D;rw[F]at G;cases G;subst F;have I:d.getD x 0=d[x]:=by rw[bq,bj A];rfl
 have J:d.getD y 0=d[y]:=by rw[bq,bj D];rfl
 rw[I,J];have Y:(0:Int)<=x:=ω
 have Z:(x:Int)<d.length:=ω
 have i3:(0:Int)<=y:=ω
 have i4:(y:Int)<d.length:=ω
 clear I J z o;generalize d[x]=p at *;generalize d[y]=q at *;generalize d.length=L at *;go_in;go_upto_region 1 with fail;go_quiet ((go_at_call 258;exact sK ((M.out _ _ _).mono λ_ _ h=>⟨h.1,h.2.symm⟩)));go_wp2;go_ret;exact⟨rfl,nq,rfl⟩
def KK(B g:Nat)(v:Value)(d:List Nat)(e:World)(m:e.heap[B]?=some (.cells #[v] 229 (0,0)))(o:ah e eV v d)(z:e.heap.size<=g):qq 257 #[.pointer (some ⟨B,0,none⟩)] g (λs=>d.getD s 0) (λs=>s<d.length) (λw=>Fr e w) where
 ent:=Th Tryz.func257 (by kernel_rfl) rfl
 stay h hc:=ai.below h hc (by have:=h.size;omega) (λi D=>by omega)
 call x y h hx hy:=KL B v d x y _ (h.heap m) (o.fr h) hx hy
def RH(d:Value)(w:World):Calls Tryz.prog 276 #[.slice none 0 0,N 0,N 0,d] w λe w'=>e=.returned (.tuple #[])/\w=w':=by
 go_in;go_wp2_with fail;refine wp_loop_rounds 1 ?_;rw[rounds_succ];go_wp2;go_end0;exact⟨rfl,rfl⟩
def MQ(d:Value)(w:World):Calls Tryz.prog 269 #[.slice none 0 0,N 0,d] w λe w'=>e=.returned (.tuple #[])/\w=w':=by
 have h:=ad (RH d);go_in;go_wp2_with fail;refine wp_loop_rounds 1 ?_;rw[rounds_succ];go_wp2_with fail;refine(h.out w).mono ?_;rintro e m ⟨rfl,rfl⟩;go_wp2_with fail;refine wp_loop_rounds 1 ?_;rw[rounds_succ];go_wp2;go_end0;exact⟨rfl,rfl⟩
def Ea(d m:Value)(n:Nat)(a:Option Addr)(cap:Nat)(o:d=.slice a n cap)(w:World)(Q:Ending->World->Prop)
  (h:Calls Tryz.prog 269 #[.slice a n cap,N n,m] w λe w'=>e=.returned (.tuple #[])/\Q e w') :
  Calls Tryz.prog 256 #[d,m] w λe w'=>e=.returned (.tuple #[])/\Q e w':=by
 subst o;have H:=ad h;clear h;go_in;go_wp2_with fail;refine H.out.mono ?_;rintro e A ⟨rfl,z⟩;go_wp2;go_end0;exact⟨rfl,z⟩
def GI(l:List Nat):(List.range l.length).map (λp=>l.getD p 0)=l:=by
 apply sH;intro i;by_cases h:i<l.length;·simp[h]
 ·rw[iW (by simp;omega),iW ω]
def Ac(f:Nat->Nat)(n:Nat):iw f 0 n=(List.range n).map f:=by
 unfold iw;exact iV λi _=>by rw[iH]
def KI(v:Value)(d:List Nat)(w:World)(Y:ah w eV v d)(hn:d.length<=1000000):Calls Tryz.prog 230 #[v] w λe w'=>∃v',e=.returned v'/\Ow w' w.heap.size eJ v' (aQ d)/\Fr w w':=by
 obtain⟨a,cap,rfl,b0,a4,b1⟩:=Y.shape;unfold maxLen at a4;have I:Fr w (w.alloc (.cells #[Value.slice a d.length cap] 229)):=(Fr.refl w).alloc _;have Z:(w.alloc (.cells #[Value.slice a d.length cap] 229)).heap[w.heap.size]?=some (.cells #[Value.slice a d.length cap] 229 (0,0)):=aB _ _ _ rfl;have aa:(w.alloc (.cells #[Value.slice a d.length cap] 229)).heap.size=w.heap.size+1:=σ
 have c0:(w.alloc (.cells #[Value.slice a d.length cap] 229)).cell? ⟨w.heap.size,0,none⟩=some (Value.slice a d.length cap):=by rw[aK Z];rfl
 have ab:=Y.fr I;have b3:=ad aa;clear aa;go_in;go_wp2_with fail;generalize w.alloc (.cells #[Value.slice a d.length cap] 229)=J at *;go_loopw [3,8] (λov R wr=>∃k:Nat,k<=d.length/\R=N k/\Ow wr J.heap.size eJ ov (mz d k)/\Hid (mz d k=[]->ov=.slice none 0 0)/\Fr J wr) (λ_ R _=>d.length-(intOf R).toNat);case atStart=>exact⟨0,ar _,rfl,Ow.nil,λ_=>rfl,Fr.refl _⟩
 case round=>
  obtain⟨k,hk,rfl,A,D,z⟩:=hrel;by_cases aj:k<d.length
  ·obtain⟨b,b5,b6,hv,c1⟩:=wT (ab.fr z) k aj;have K:=ad (Mi d k aj);have a6:=Mj d k;generalize d[k]=x at *;generalize mz d k=m at *;cases hv;have i1:(0:Int)<=k:=ω;have i2:(k:Int)<d.length:=ω;by_cases hx:0<x
   ·have a7:(0:Int)<x:=ω;have F:Hid (mz d (k+1)=m++[k]):=ad (by rw[K.out,af hx]);clear K;go_wp2_with (at_builtin;refine cW eJ rfl (.tmp 15) (.tmp 17) 56 rfl Tryz.underlying56 J.heap.size rfl A [k] _ _ _ rfl rfl rfl (by simp;omega) z.size ?_);intro v' w4 ap;go_wp2;go_roundw;case rel=>exact⟨k+1,ω,γ,by rw[F.out];exact ap.own,λe=>by rw[F.out]at e;simp at e,ap.below A z (al _) z.size⟩
    case measure=>exact μ
   ·have a7:¬(0:Int)<x:=ω;have F:Hid (mz d (k+1)=m):=ad (by rw[K.out,ae hx]);clear K;go_wp2;go_roundw;case rel=>exact⟨k+1,ω,γ,by rw[F.out];exact A,λe=>D.out (by rw[F.out]at e;exact e),z⟩
    case measure=>exact μ
  ·obtain rfl:k=d.length:=ω;have bA:¬((d.length:Int)<d.length):=ω;have aC:mz d d.length=jg d:=rfl;rw[aC]at A D;have a6:=D6 d;have U:Fr w wr:=I.trans z;by_cases V:jg d=[];·have hu:Hid (aQ d=[]):=(by show _=_;unfold aQ;rw[V];rfl);have X:=D.out V;subst X;have bb:∀(G:Fn) (first cap:Array Value) (w:World),(Instr.makeFunc G first cap).run Tryz.prog w=.ok (.func G first cap) w:=λ_ _ _ _=>rfl;have L:=ad (λM W=>Ea (.slice none 0 0) M 0 none 0 rfl W (λ_ w'=>W=w') (MQ M W));clear D;go_wp2_with fail;refine(L.out _ _).mono ?_;rintro e w1 ⟨rfl,rfl⟩;go_wp2;go_ret;exact⟨_,rfl,by rw[hu.out];exact Ow.nil,U⟩
   ·obtain⟨g,O,X,av,bB,bL,bR⟩:=A.atHead V;have HU:=ad (zS d);have bd:=ad (D0 d);have bb:∀ (G:Fn) (first cap:Array Value) (w:World),(Instr.makeFunc G first cap).run Tryz.prog w=.ok (.func G first cap) w:=fun _ _ _ _=>rfl;have bf:Hid (aQ d=uG (fun s=>d.getD s 0) (jg d)):=rfl;generalize jg d=o at *;subst X;have hD:DJ wr g o.length O (fun p=>o.getD p 0):=(by unfold DJ;rw [GI];exact A.rebase (ar _));have a1:=KK w.heap.size g (.slice a d.length cap) d J (by first | exact Z | assumption) ab av;have a2 := ad (MR a1 o.length O (fun p => o.getD p 0) wr hD z (by omega) (fun p h => by
      rw[bq, bj h]; exact bd.out _ (bJ h)) (λp q h1 h2 => by
      rw[bq, bj ω, bq, bj h2]
      exact rt.1 HU.out p q ω h2 h1))
    have L:=ad (λM Q h=>Ea (.slice (some ⟨g,0,none⟩) o.length O) M o.length _ O rfl wr Q h);have bl:=ad (L.out _ _ a2.out);clear D L a2 a1;go_wp2_with fail;refine bl.out.mono ?_;rintro e w1 ⟨rfl,f',bm,bn,bs,bu⟩;go_wp2;go_ret;have hE:(List.range o.length).map f'=aQ d:=by
     rw[bf.out];refine KJ _ o _ HU.out ?_ ?_;·have:=bn.2;rw[Ac,Ac,GI]at this;exact this
     ·have:=bs.list;rw[Ac]at this;exact this
    refine⟨_,rfl,?_,ai.below U bu U.size (λi hi=>by have:=I.size;omega)⟩;rw[<- hE];exact(Ow.up bm av).rebase I.size
