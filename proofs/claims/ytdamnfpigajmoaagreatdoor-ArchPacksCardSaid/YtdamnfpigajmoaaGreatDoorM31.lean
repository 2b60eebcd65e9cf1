/- Parts of the proof of ArchPacks: S1 S2 S3 S4 S5 S6 S7 L1 L2. -/
import Derived.Test.YtdamnfpigajmoaaGreatDoorM01
import Derived.Test.YtdamnfpigajmoaaGreatDoorM17
import Derived.Test.YtdamnfpigajmoaaGreatDoorM11
set_option linter.unusedVariables false
set_option linter.unusedSectionVars false
set_option linter.unusedSimpArgs false
set_option maxHeartbeats 8000000
set_option maxRecDepth 100000
namespace Go.Fk
abbrev aXQb:=@Go.IntWalk.u64_in
abbrev b6Qc:=@Go.bodyPost_ret
abbrev dQ:=@List.length_map
abbrev kK:=@List.length_range
abbrev pO:=@Nat.min_eq_right
end Go.Fk
namespace Go.Proofs.YtdamnfpigajmoaaGreatDoor
open Go.RowKit Go.Fk
def DJ(w:World)(g n cap:Nat)(f:Nat->Nat):Prop:=Ow w 0 eJ (.slice (some ⟨g,0,none⟩) n cap) ((List.range n).map f)
section
variable {w w':World} {g n cap:Nat} {f f':Nat->Nat}
theorem DJ.cell(h:DJ w g n cap f)(p:Nat)(d:p<n):w.cell? ⟨g,p,none⟩=some (N (f p)):=by
 have:=(Ow.cellAt h (fun n:Nat=>N n) rfl p (by simpa using d)).1;simpa using this
theorem DJ.frozen(h:DJ w g n cap f)(p:Nat)(d:p<n):w.frozen? ⟨g,p,none⟩=false:=(Ow.cellAt h (fun n:Nat=>N n) rfl p (by simpa using d)).2
theorem DJ.caps(h:DJ w g n cap f):n<=cap/\cap<=maxLen:=by
 obtain⟨_,_,m,o,d,e,q,y⟩:=Ow.parts h;rw [dQ,kK]at d;exact⟨d,e⟩
theorem DJ.lt(h:DJ w g n cap f):g<w.heap.size:=(Ow.lt h g rfl).2
theorem Dy(n:Nat)(f:Nat->Nat)(i x:Nat):((List.range n).map f).set i x=(List.range n).map (fun p=>if p=i then x else f p):=by
 apply pT;intro j;by_cases d:j<n
 · by_cases e:i=j;· subst e;rw [List.getElem?_set_self (by simpa using d)];simp [d]
   · rw [List.getElem?_set_ne e];simp [d,eT e]
 · rw [gJ (by simp;omega),gJ (by simp;omega)]
theorem DJ.set(h:DJ w g n cap f)(i:Nat)(d:i<n)(x:Nat):DJ (w.setCell ⟨g,i,none⟩ (N x)) g n cap (fun p=>if p=i then x else f p):=by
 have:=Ow.set h (fun n:Nat=>N n) rfl i (by simpa using d) x (N x) rfl;unfold DJ;rw [<- Dy];exact this
theorem DJ.congr(h:DJ w g n cap f)(d:∀ p,p<n->f' p=f p):DJ w g n cap f':=by
 unfold DJ at *;rw [iT (fun p e=>d p (kg.1 e))];exact h
theorem DJ.swap(h:DJ w g n cap f)(i j:Nat)(d:i<n)(e:j<n):DJ ((w.setCell ⟨g,i,none⟩ (N (f j))).setCell ⟨g,j,none⟩ (N (f i))) g n cap (ie f i j):=
 ((h.set i d (f j)).set j e (f i)).congr fun p _=>rfl
theorem DJ.chg{G:Nat->Prop}(h:DJ w g n cap f)(e:ak G w w')(m:¬G g):DJ w' g n cap f:=Ow.chg h e fun k d=>by
 simp only [Value.ownBlock,iS]at d;subst d;exact m
theorem DJ.fr(h:DJ w g n cap f)(d:Fr w w'):DJ w' g n cap f:=Ow.fr h d
end
theorem qt(w:World)(g i j:Nat)(u v:Value):ak (fun k=>k=g) w ((w.setCell ⟨g,i,none⟩ u).setCell ⟨g,j,none⟩ v):=(aw w ⟨g,i,none⟩ u).trans (aw _ ⟨g,j,none⟩ v) (fun _ _ h=>h)
def ip(a b:Nat):Int:=if a<b then -1 else if b<a then 1 else 0
theorem rD(a b:Nat):(ip a b<0)=(a<b):=by unfold ip;split <;> (try split) <;> simp <;> omega
structure ll (k:Nat) (caps:Array Value) (g:Nat) (key:Nat->Nat) (ok:Nat->Prop) (I:World->Prop):Prop where
 ent:∀ args w,(callFunc k args).run Tryz.prog w=.ok (.enter k args) w
 stay:∀ {w w'},I w->ak (fun b=>b=g) w w'->I w'
 call:∀ {w} (x y:Nat),I w->ok x->ok y->Calls Tryz.prog k (#[N x,N y]++caps) w fun e w'=>e=.returned (.int .i64 (ip (key x) (key y)))/\∃ m,w'=w.drewN m
theorem ll.fr{k:Nat}{d:Array Value}{g:Nat}{key:Nat->Nat}{e:Nat->Prop}{I:World->Prop}(h:ll k d g key e I){w w':World}(m:I w)(o:Fr w w'):I w':=h.stay m (o.chg _)
theorem Gb(x:Nat)(w:World):Calls Tryz.prog 316 #[.int .u32 (x:Int)] w fun e w'=>e=.returned (.bool false)/\w=w':=by
 go_enter Tryz.func316, Tryz.ntmps316;go_wp2_with fail;go_ret;exact⟨by simp,rfl⟩
theorem Hq(x y:Nat)(w:World):Calls Tryz.prog 292 #[.int .u32 (x:Int),.int .u32 (y:Int)] w fun e w'=>e=.returned (.int .i64 (ip x y))/\w=w':=by
 have m:=ad (fun x W=>Gb x W);rcases lT x y with h | h | h;· have d:ip x y=-1:=(by unfold ip;rw [ai h]);rw [d];go_enter Tryz.func292, Tryz.ntmps292;go_wp2_with (first | (go_at_call 316;refine(m.out _ _).mono ?_;rintro e w' ⟨rfl,rfl⟩));go_ret;exact⟨rfl,rfl⟩
 · have d:ip x y=0:=(by unfold ip;rw [ah (by omega),ah (by omega)]);have o:¬x<y:=(by omega);have q:¬y<x:=(by omega);rw [d];go_enter Tryz.func292, Tryz.ntmps292;go_wp2_with (first | (go_at_call 316;refine(m.out _ _).mono ?_;rintro e w' ⟨rfl,rfl⟩));go_ret;exact⟨rfl,rfl⟩
 · have d:ip x y=1:=(by unfold ip;rw [ah (by omega),ai h]);have o:¬x<y:=(by omega);rw [d];go_enter Tryz.func292, Tryz.ntmps292;go_wp2_with (first | (go_at_call 316;refine(m.out _ _).mono ?_;rintro e w' ⟨rfl,rfl⟩));go_ret;exact⟨rfl,rfl⟩
theorem CV(a b m:Nat)(D:Value)(g n cap:Nat)(f:Nat->Nat)(w:World)(q:DJ w g n cap f)(L:a+m<=b)(M:b+m<=n)(O:n<=1000000000) :
  Calls Tryz.prog 354 #[.slice (some ⟨g,0,none⟩) n cap,N a,N b,N m,D] w fun e w'=>e=.returned (.tuple #[])/\DJ w' g n cap (gw f a b m)/\ak (fun k=>k=g) w w':=by
 obtain⟨Q,F⟩:=q.caps;unfold maxLen at F;go_enter Tryz.func354, Tryz.ntmps354;go_wp2_with fail;go_loopw [10] (fun y wr=>∃ i:Nat,i<=m/\y=N i/\DJ wr g n cap (gw f a b i)/\ak (fun k=>k=g) w wr) (fun y _=>m - (intOf y).toNat);case atStart=>exact⟨0,ap _,rfl,q.congr fun p _=>CT f a b p,ak.refl _ w⟩
 case round=>
  clear q;obtain⟨i,R,rfl,d,A⟩:=hrel;by_cases T:i<m
  · have U:(i:Int)<m:=(by omega);have V:=d.cell (a+i) (by omega);have c2:=d.cell (b+i) (by omega);have X:=d.frozen (a+i) (by omega);have G:=d.frozen (b+i) (by omega);have I:=ad (d.swap (a+i) (b+i) (by omega) (by omega));have Y:IntKind.i64.wrap ((a:Int)+i)=((a+i:Nat):Int):=(by rw [ar _ (by omega)];omega);have Z:IntKind.i64.wrap ((b:Int)+i)=((b+i:Nat):Int):=(by rw [ar _ (by omega)];omega);have i1:(0:Int)<=((a+i:Nat):Int):=(by omega);have i2:((a+i:Nat):Int)<n:=(by omega);have i3:(0:Int)<=((b+i:Nat):Int):=(by omega);have i4:((b+i:Nat):Int)<n:=(by omega);have i5:a+i<n:=(by omega);have i6:b+i<n:=(by omega);have J:=ad (fun p=>CU f a b i p (by omega));generalize gw f a b i=K at *;generalize a1:a+i=z at *;generalize a2:b+i=o at *;have a3:z≠o:=(by omega);have a4:(wr.drew.setCell ⟨g,z,none⟩ (N (K o))).frozen? ⟨g,o,none⟩=false:=(by rw [World.frozen?_setCell];exact G);go_upto_region 3 with fail;go_region;all_goals go_wp2_with fail
    all_goals go_roundw
    case rel=>exact⟨i+1,by omega,by go_num,(I.out.congr fun p _=>(J.out p).symm).fr (Fr.drew (Fr.refl _)),A.trans ((qt wr g z o _ _).trans ((Fr.drew (Fr.refl _)).chg (fun k=>k=g)) (fun _ _ h=>h)) (fun _ _ h=>h)⟩
    case measure=>simp [intOf];omega
  · obtain rfl:i=m:=(by omega);have a5:¬((i:Int)<i):=(by omega);go_wp2_with fail;go_end0;exact⟨rfl,d,A⟩
theorem Gm(key d h:Nat->Nat)(a j i:Nat)(q:a<=j)(y:j<=i)(m:bw key d a i)(z:∀ p,h p=jg d j i p)(A:∀ p,j<=p->p<i->bh key (d i) (d p))(D:∀ p,a<=p->p<i->d p<d i)(G:j=a\/¬key (d i)<key (d (j - 1))):bw key h a (i+1):=by
 refine(zf key d a j i m q y (fun p F I=>?_) A).congr fun p _ _=>z p;have o:bh key (d (j - 1)) (d i):=by have:=D (j - 1) (by omega) (by omega);unfold bh;omega
 by_cases e:p=j - 1;· rw [e];exact o
 · exact iG (m p (j - 1) F (by omega) (by omega)) o
theorem Gl(f d:Nat->Nat)(a i b:Nat)(e:ci f d a i)(h:∀ p q,a<=p->p<q->q<b->f p<f q)(m:i<b)(F:a<=i):∀ p,a<=p->p<i->d p<d i:=by
 intro p o y;obtain⟨q,z,A,D⟩:=e.mem p o y;rw [D,e.1 i (by omega)];exact h q i z A m
theorem Gk {k : Nat} {a2 : Array Value} {g : Nat} {key : Nat → Nat} {K : Nat → Prop} {I : World → Prop} (U : ll k a2 g key K I) (a b n cap : Nat) (f : Nat → Nat) (w : World) (hd : DJ w g n cap f) (hI : I w) (cn : a ≤ b) (hb : b ≤ n) (hn : n ≤ 1000000000)
    (hok:∀ p,a<=p->p<b->K (f p)) (hup:∀ p q,a<=p->p<q->q<b->f p<f q) :
    Calls Tryz.prog 334 #[.slice (some ⟨g,0,none⟩) n cap,N a,N b,.func (.func k) #[] a2] w fun e w'=>e=.returned (.tuple #[])/\∃ f',DJ w' g n cap f'/\ci f f' a b/\bw key f' a b/\ak (fun k=>k=g) w w':=by
  obtain⟨V,b1⟩:=hd.caps;unfold maxLen at b1;have cs:=U.ent;have X:=ad U;clear U;have ct:IntKind.i64.wrap ((a:Int)+1)=((a+1:Nat):Int):=(by rw [ar _ (by omega)];omega);go_enter Tryz.func334, Tryz.ntmps334;go_wp2_with fail;go_loopw [8] (fun Y wr=>∃ (i:Nat) (d:Nat->Nat),Y=N i/\a+1<=i/\(i<=b\/i=a+1)/\DJ wr g n cap d/\Hid (ci f d a (min i b))/\Hid (bw key d a (min i b))/\ak (fun k=>k=g) w wr) (fun Y _=>b - (intOf Y).toNat);case atStart=>exact⟨a+1,f,rfl,ag _,.inr rfl,hd,ci.refl _ _ _,fun i j L Z h3=>by omega,ak.refl _ w⟩
  case round=>
    obtain⟨i,d,rfl,cx,cy,aa,F,M,A⟩:=hrel;by_cases a5:i<b
    · have b2:(i:Int)<b:=(by omega);rw [gr (by omega)]at F M;go_wp2_with fail;generalize wr=wo at *;go_loopw [9] (fun jv wr=>∃ (j:Nat) (o:Nat->Nat),jv=N j/\a<=j/\j<=i/\DJ wr g n cap o/\Hid (∀ p,o p=jg d j i p)/\Hid (∀ p,j<=p->p<i->bh key (d i) (d p))/\Hid (ci d o a (i+1))/\ak (fun k=>k=g) w wr) (fun jv _=>(intOf jv).toNat);case atStart=>exact⟨i,d,rfl,by omega,ag _,aa,fun p=>by unfold jg;rw [tr d i (i+1) p (by omega)],fun p L Z=>by omega,ci.refl _ _ _,A⟩
      case round=>
        clear aa A;obtain⟨j,o,rfl,b3,a6,D,G,O,ac,A⟩:=hrel;have b4:=ad (Gl f d a i b F.out hup a5 (by omega));have Q:=ad (fun b5=>Gm key d o a j i b3 a6 M.out G.out O.out b4.out b5);have a7:Hid (ci f o a (i+1)):=(F.out.widen (ag _) (by omega) (by omega)).trans ac.out;have c0:IntKind.i64.wrap ((i:Int)+1)=((i+1:Nat):Int):=(by rw [ar _ (by omega)];omega);by_cases c3:a<j
        · have ba:(a:Int)<j:=(by omega);have c4:decide ((a:Int)<j)=true:=bs ba;have c5:IntKind.i64.wrap ((j:Int) - 1)=((j - 1:Nat):Int):=(by rw [ar _ (by omega)];omega);have e1:o j=d i:=(by rw [G.out];unfold jg aE;rw [ai (by omega)];congr 1;omega);have e2:o (j - 1)=d (j - 1):=(by rw [G.out];unfold jg aE;rw [ah (by omega),ah (by omega)]);have c1:=D.cell j (by omega);have c2:=D.cell (j - 1) (by omega);have z1:=D.frozen j (by omega);have z2:=D.frozen (j - 1) (by omega);have R:=ad (D.swap j (j - 1) (by omega) (by omega));rw [e1]at c1 R;rw [e2]at c2 R;have bk:K (d i):=(by rw [F.out.1 i (by omega)];exact hok i (by omega) a5);have bm:K (d (j - 1)):=(by obtain⟨q,h3,h4,h5⟩:=F.out.mem (j - 1) (by omega) (by omega);rw [h5];exact hok q h3 (by omega));have HC:=ad (fun m=>X.out.call (d i) (d (j - 1)) (X.out.fr (X.out.stay hI A) ((Fr.refl wr).drewN m)) bk bm);have bt:Hid (∀ p,ie o j (j - 1) p=jg d (j - 1) i p):=fun p=>(by have:=xU d i j p a6 (by omega);have e:o=aE d j i (i+1):=funext fun p=>G.out p;rw [e];exact this);have bA:Hid (key (d i)<key (d (j - 1))->∀ p,j - 1<=p->p<i->bh key (d i) (d p)):=fun h p L Z=>by
            by_cases e:p=j - 1;· rw [e];exact .inl h
            · exact O.out p (by omega) Z
          have bB:Hid (ci d (ie o j (j - 1)) a (i+1)):=(by have L:ci d (aE d (j - 1) i (i+1)) a (i+1):=(qJ d (j - 1) i (i+1) (by omega) (by omega)).widen (by omega) (by omega) (ag _);exact L.congr bt.out);have bu:=rD (key (d i)) (key (d (j - 1)));have bR:Hid (¬key (d i)<key (d (j - 1))->bw key o a (i+1)):=fun h=>Q.out (.inr h);clear e1 e2 bk bm G O ac Q;generalize hx:d i=x at *;generalize hy:d (j - 1)=y at *;generalize bz:j - 1=z at *;have HX:=ad hx;have HY:=ad hy;clear hx hy;have i1:(0:Int)<=j:=(by omega);have i2:(j:Int)<n:=(by omega);have i3:(0:Int)<=z:=(by omega);have i4:(z:Int)<n:=(by omega);have i5:j<n:=(by omega);have i6:z<n:=(by omega);have dd:j≠z:=(by omega);have di:z<j:=(by omega);have dj:a<=z:=(by omega);have dk:z≠j:=(by omega);have HJ:=ad bz;clear bz;generalize ca:ip (key x) (key y)=cv at *;have dr:decide (cv<0)=decide (key x<key y):=(by simp [bu]);generalize cc:key x=kx at *;generalize cf:key y=ky at *;clear bu ca cc cf;go_upto_region 4 with fail;go_quiet ((exact Calls.quiet_of (HC.out _)));have J:=(Fr.refl wr).drewN nq;have V:=A.trans (J.chg (fun k=>k=g)) (fun _ _ h=>h);have ch:=D.fr J;replace c1:=J.cell c1;replace c2:=J.cell c2;have ds:(wr.drewN nq).frozen? ⟨g,j,none⟩=false:=z1;have dv:(wr.drewN nq).frozen? ⟨g,z,none⟩=false:=z2;have cj:Hid (DJ (((wr.drewN nq).setCell ⟨g,j,none⟩ (N y)).setCell ⟨g,z,none⟩ (N x)) g n cap (ie o j z)):=R.out.fr ((Fr.refl _).drewN nq);clear R z1 z2 D A J HC;generalize wr.drewN nq=w1 at *;by_cases T:kx<ky
          · have cm:decide (kx<ky)=true:=bs T;go_upto_region 6 with fail;go_region;all_goals go_wp2_with fail
            all_goals go_roundw
            case rel=>exact⟨z,ie o j z,rfl,by omega,by omega,cj.out.fr (Fr.drew (Fr.refl _)),bt,bA.out T,bB,V.trans ((qt w1 g j z _ _).trans ((Fr.drew (Fr.refl _)).chg (fun k=>k=g)) (fun _ _ h=>h)) (fun _ _ h=>h)⟩
            case measure=>simp [intOf];omega
          · have cm:decide (kx<ky)=false:=bi T;have a1:=ad (bR.out T);go_wp2_with fail;go_roundw;case rel=>exact⟨i+1,o,by go_num,by omega,.inl (by omega),ch,by rw [gr (by omega)];exact a7,by rw [gr (by omega)];exact a1,V⟩
            case measure=>simp [intOf];omega
        · obtain rfl:j=a:=(by omega);have ba:¬(j:Int)<j:=(by omega);have a1:=ad (Q.out (.inl rfl));clear Q G O ac;go_upto_region 4 with fail;go_quiet (fail);go_wp2_with fail;go_roundw;case rel=>exact⟨i+1,o,by go_num,by omega,.inl (by omega),D.fr ((Fr.refl _).drewN _),by rw [gr (by omega)];exact a7,by rw [gr (by omega)];exact a1,A.trans (((Fr.refl _).drewN _).chg (fun k=>k=g)) (fun _ _ h=>h)⟩
          case measure=>simp [intOf];omega
    · have b2:¬(i:Int)<b:=(by omega);rw [pO (by omega)]at F M;go_wp2_with fail;go_end0;exact⟨rfl,d,aa,F.out,M.out,A⟩
theorem DR (a m b : Nat) (L : Value) (g n cap : Nat) (f : Nat → Nat) (w : World) (o : DJ w g n cap f) (a2 : a < m) (a3 : m < b) (hb : b ≤ n) (R : n ≤ 1000000000) :
    Calls Tryz.prog 348 #[.slice (some ⟨g,0,none⟩) n cap,N a,N m,N b,L] w fun e w'=>e=.returned (.tuple #[])/\DJ w' g n cap (aE f a m b)/\ak (fun k=>k=g) w w':=by
  have F:=ad (fun a b k f w (h:DJ w g n cap f) (T:a+k<=b) (U:b+k<=n)=>CV a b k L g n cap f w h T U R);have a5:IntKind.i64.wrap ((m:Int) - a)=((m - a:Nat):Int):=(by rw [ar _ (by omega)];omega);have a6:IntKind.i64.wrap ((b:Int) - m)=((b - m:Nat):Int):=(by rw [ar _ (by omega)];omega);go_enter Tryz.func348, Tryz.ntmps348;go_wp2_with fail;go_loopw [10,11] (fun G I wr=>∃ (i j:Nat) (d:Nat->Nat),G=N i/\I=N j/\1<=i/\1<=j/\i<=m - a/\j<=b - m/\DJ wr g n cap d/\Hid (∀ p,aE d (m - i) m (m+j) p=aE f a m b p)/\ak (fun k=>k=g) w wr) (fun G I _=>(intOf G).toNat+(intOf I).toNat);case atStart=>exact⟨m - a,b - m,f,by first | rfl | go_num,by first | rfl | go_num,by omega,by omega,ag _,ag _,o,fun p=>by rw [show m - (m - a)=a by omega,show m+(b - m)=b by omega],ak.refl _ w⟩
  case round=>
    clear o;obtain⟨i,j,d,rfl,rfl,V,X,Y,Z,o,J,K⟩:=hrel;have a7:IntKind.i64.wrap ((m:Int) - i)=((m - i:Nat):Int):=(by rw [ar _ (by omega)];omega);rcases lT i j with h | h | h
    · have aa:((i:Int) == j)=false:=(by simp;omega);have ab:i≠j:=(by omega);have ac:¬(j:Int)<i:=(by omega);have ba:IntKind.i64.wrap ((m:Int)+j)=((m+j:Nat):Int):=(by rw [ar _ (by omega)];omega);have bb:IntKind.i64.wrap (((m+j:Nat):Int) - i)=((m+j - i:Nat):Int):=(by rw [ar _ (by omega)];omega);have aj:IntKind.i64.wrap ((j:Int) - i)=((j - i:Nat):Int):=(by rw [ar _ (by omega)];omega);have q:=ad (F.out (m - i) (m+j - i) i d wr o (by omega) (by omega));have y:Hid (∀ p,aE (gw d (m - i) (m+j - i) i) (m - i) m (m+(j - i)) p=aE f a m b p):=fun p=>(by rw [DT d m i j p (by omega) h];exact J.out p);have z:1<=j - i/\j - i<j/\j - i<=b - m:=(by omega);generalize M:m - i=O at *;have av:=ad M;clear M;generalize m+j - i=mj at *;generalize m+j=bd at *;generalize j - i=ji at *;go_wp2_with fail;refine q.out.mono ?_;rintro e Q ⟨rfl,A,D⟩;go_wp2_with fail;go_roundw;case rel=>exact⟨i,ji,_,rfl,rfl,V,z.1,Y,z.2.2,A,(by rw [av.out];exact y),K.trans D (fun _ _ h=>h)⟩
      case measure=>simp [intOf];omega
    · subst h;have q:=ad (F.out (m - i) m i d wr o (by omega) (by omega));have y:Hid (∀ p,gw d (m - i) m i p=aE f a m b p):=fun p=>(by rw [DV d m i p (by omega)];exact J.out p);generalize m - i=O at *;go_wp2_with fail;refine q.out.mono ?_;rintro e Q ⟨rfl,A,D⟩;go_wp2_with fail;go_end0;exact⟨rfl,A.congr fun p _=>(y.out p).symm,K.trans D (fun _ _ h=>h)⟩
    · have aa:((i:Int) == j)=false:=(by simp;omega);have ab:i≠j:=(by omega);have ac:(j:Int)<i:=(by omega);have aj:IntKind.i64.wrap ((i:Int) - j)=((i - j:Nat):Int):=(by rw [ar _ (by omega)];omega);have q:=ad (F.out (m - i) m j d wr o (by omega) (by omega));have y:Hid (∀ p,aE (gw d (m - i) m j) (m - (i - j)) m (m+j) p=aE f a m b p):=fun p=>(by rw [DU d m i j p (by omega) h];exact J.out p);have z:1<=i - j/\i - j<i/\i - j<=m - a:=(by omega);generalize m - i=O at *;generalize i - j=ij at *;go_wp2_with fail;refine q.out.mono ?_;rintro e Q ⟨rfl,A,D⟩;go_wp2_with fail;go_roundw;case rel=>exact⟨ij,j,_,rfl,rfl,z.1,X,z.2.2,Z,A,y,K.trans D (fun _ _ h=>h)⟩
      case measure=>simp [intOf];omega
theorem rj(i j:Nat)(h:i+j<=4000000000):IntKind.i64.wrap ((i:Int)+j)=((i+j:Nat):Int)/\IntKind.u64.wrap ((i+j:Nat):Int)=((i+j:Nat):Int)/\((i+j:Nat):Int) / 2=(((i+j) / 2:Nat):Int)/\IntKind.i64.wrap (((i+j) / 2:Nat):Int)=(((i+j) / 2:Nat):Int):=by
  refine⟨?_,aXQb _ (by omega),by omega,ar _ (by omega)⟩;rw [ar _ (by omega)];omega
theorem CS {k : Nat} {av : Array Value} {g : Nat} {key : Nat → Nat} {ok : Nat → Prop} {I : World → Prop} (O : ll k av g key ok I) (a b n cap : Nat) (f : Nat → Nat) (w : World) (J : DJ w g n cap f) (hI : I w) (cn : a + 1 < b) (hb : b ≤ n) (hn : n ≤ 1000000000)
    (hok:∀ p,a<=p->p<b->ok (f p)) (hah:kF f a (a+1) b) (hs2:bw key f (a+1) b) :
    Calls Tryz.prog 335 #[.slice (some ⟨g,0,none⟩) n cap,N a,N (a+1),N b,.func (.func k) #[] av] w fun e w'=>e=.returned (.tuple #[])/\∃ f',DJ w' g n cap f'/\ci f f' a b/\bw key f' a b/\ak (fun k=>k=g) w w':=by
  obtain⟨cs,bf⟩:=J.caps;unfold maxLen at bf;have ct:=O.ent;have HK:=ad O;have a3:=ad hok;have bk:=ad hah;have Q:=ad hs2;clear O hok hah hs2;have bm:(((a+1:Nat):Int) - a == 1)=true:=(by simp;omega);have a4:((a+1:Nat):Int) - a=1:=(by omega);have bn:IntKind.i64.wrap (((a+1:Nat):Int) - a)=1:=(by rw [a4];exact ar _ (by omega));obtain⟨m,R⟩:∃ m,m=a+1:=⟨_,rfl⟩;rw [<- R]at bm a4 bn ⊢;have z:=ad R;have cx:a<m:=(by omega);have cy:m<b:=(by omega);clear R;go_enter Tryz.func335, Tryz.ntmps335;go_wp2_with fail;go_loopw [10,11] (fun T U wr=>∃ (i j:Nat),T=N i/\U=N j/\m<=i/\i<=j/\j<=b/\Hid (∀ p,m<=p->p<i->bh key (f p) (f a))/\Hid (∀ p,j<=p->p<b->bh key (f a) (f p))/\∃ q,wr=w.drewN q) (fun T U _=>(intOf U).toNat - (intOf T).toNat);case atStart=>exact⟨m,b,rfl,rfl,ag _,by omega,ag _,fun p F A=>by omega,fun p F A=>by omega,0,rfl⟩
  case round=>
    obtain⟨i,j,rfl,rfl,hi,cz,V,X,Y,q,rfl⟩:=hrel;by_cases c0:i<j
    · have bu:(i:Int)<j:=(by omega);obtain⟨F,A,h3,h4⟩:=rj i j (by omega);have bv:i<=(i+j) / 2:=(by omega);have c5:(i+j) / 2<j:=(by omega);generalize (i+j) / 2=h at *;generalize i+j=ij at *;have c1:=(J.fr ((Fr.refl w).drewN q)).cell h (by omega);have c2:=(J.fr ((Fr.refl w).drewN q)).cell a (by omega);have HC:=ad (fun r=>HK.out.call (f h) (f a) (HK.out.fr hI (((Fr.refl w).drewN q).drewN r)) (a3.out h (by omega) (by omega)) (a3.out a (by omega) (by omega)));have a5:=rD (key (f h)) (key (f a));generalize hW:w.drewN q=W at *;have HW:=ad hW;clear hW;have Z:=ad (uV (key:=key) bk.out (ag a) (by omega) (show a+1<=h by have:=z.out;omega) (by omega));have b0:Hid (key (f h)<key (f a)->∀ p,m<=p->p<h+1->bh key (f p) (f a)):=fun e p F A=>by
        have G:=Z.out.1.1 e;by_cases c:p=h;· rw [c];exact G
        · exact iG (Q.out p h (by have:=z.out;omega) (by omega) (by omega)) G
      have b1:Hid (¬key (f h)<key (f a)->∀ p,h<=p->p<b->bh key (f a) (f p)):=fun e p F A=>by
        have G:=Z.out.2.1 e;by_cases c:p=h;· rw [c];exact G
        · exact iG G (Q.out h p (by have:=z.out;omega) (by omega) (by omega))
      have i1:(0:Int)<=h:=(by omega);have i2:(h:Int)<n:=(by omega);have i3:(0:Int)<=a:=(by omega);have i4:(a:Int)<n:=(by omega);have c7:IntKind.i64.wrap ((h:Int)+1)=((h+1:Nat):Int):=(by rw [ar _ (by omega)];omega);clear Z;generalize K:f h=x at *;generalize L:f a=y at *;have HX:=ad K;have HY:=ad L;clear K L;generalize b8:ip (key x) (key y)=cv at *;have cA:decide (cv<0)=decide (key x<key y):=(by simp [a5]);generalize bB:key x=kx at *;generalize bR:key y=ky at *;clear a5 b8 bB bR;go_upto_region 5 with fail;go_quiet ((exact Calls.quiet_of (HC.out _)));by_cases M:kx<ky
      · have ca:decide (kx<ky)=true:=bs M;go_wp2_with fail;go_roundw;case rel=>exact⟨h+1,j,by go_num,rfl,by omega,by omega,V,b0.out M,Y,q+nq,by rw [<- HW.out,iu]⟩
        case measure=>simp [intOf];omega
      · have ca:decide (kx<ky)=false:=bi M;go_wp2_with fail;go_roundw;case rel=>exact⟨i,h,rfl,rfl,hi,bv,by omega,X,b1.out M,q+nq,by rw [<- HW.out,iu]⟩
        case measure=>simp [intOf];omega
    · obtain rfl:i=j:=(by omega);have cF:¬((i:Int)<i):=(by omega);have ba:=J.fr ((Fr.refl w).drewN q);have bb:ak (fun k=>k=g) w (w.drewN q):=((Fr.refl w).drewN q).chg _;have cb:=ad (Fx key f a b i Q.out (by have:=z.out;omega) V (fun p F A=>X.out p (by have:=z.out;omega) A) Y.out);have cc:=ad ((qJ f a (a+1) i (by omega) (by have:=z.out;omega)).widen (ag a) (by have:=z.out;omega) V);have cG:IntKind.i64.wrap ((i:Int) - 1)=((i - 1:Nat):Int):=(by rw [ar _ (by omega)];omega);clear X Y hI;generalize w.drewN q=wq at *;go_wp2_with fail;go_loopw [13] (fun kv wr=>∃ (c:Nat) (o:Nat->Nat),kv=N c/\a<=c/\c+1<=i/\DJ wr g n cap o/\Hid (∀ p,o p=aE f a (a+1) (c+1) p)/\ak (fun k=>k=g) w wr) (fun kv _=>i - (intOf kv).toNat);case atStart=>exact⟨a,f,rfl,ag _,by omega,ba,fun p=>(xV f a (a+1) p).symm,bb⟩
      case round=>
        clear ba bb;obtain⟨c,o,rfl,cf,dc,D,HF,hc⟩:=hrel;by_cases dd:c<i - 1
        · have bu:(c:Int)<((i - 1:Nat):Int):=(by omega);have di:IntKind.i64.wrap ((c:Int)+1)=((c+1:Nat):Int):=(by rw [ar _ (by omega)];omega);have c1:=D.cell c (by omega);have c2:=D.cell (c+1) (by omega);have z1:=D.frozen c (by omega);have z2:=D.frozen (c+1) (by omega);have ch:=ad (D.swap c (c+1) (by omega) (by omega));have cj:Hid (∀ p,ie o c (c+1) p=aE f a (a+1) (c+1+1) p):=fun p=>(by have e:o=aE f a (a+1) (c+1):=funext fun p=>HF.out p;rw [e];exact DS f a c p cf);have i1:(0:Int)<=c:=(by omega);have i2:(c:Int)<n:=(by omega);have i5:c<n:=(by omega);have i6:c+1<n:=(by omega);have ds:c≠c+1:=(by omega);have dv:c+1≠c:=(by omega);have cl:c+1+1<=i:=(by omega);generalize K:o c=x at *;generalize L:o (c+1)=y at *;generalize bd:c+1=d at *;have cm:a<=d/\c<d:=(by omega);have i3:(0:Int)<=d:=(by omega);have i4:(d:Int)<n:=(by omega);have HD:=ad bd;clear K L bd HF;go_upto_region 11 with fail;go_region;all_goals go_wp2_with fail
          all_goals go_roundw
          case rel=>exact⟨d,ie o c d,rfl,cm.1,cl,ch.out.fr (Fr.drew (Fr.refl _)),cj,hc.trans ((qt wr g c d _ _).trans ((Fr.drew (Fr.refl _)).chg (fun k=>k=g)) (fun _ _ h=>h)) (fun _ _ h=>h)⟩
          case measure=>simp [intOf];omega
        · obtain rfl:i=c+1:=(by omega);have d1:¬((c:Int)<((c+1 - 1:Nat):Int)):=(by omega);go_wp2_with fail;refine b6Qc (results_none rfl _ _ _) rfl ?_;have e:o=aE f a (a+1) (c+1):=funext fun p=>HF.out p;exact⟨rfl,o,D,by rw [e];exact cc.out,by rw [e];exact cb.out,hc⟩
theorem CR {k : Nat} {a1 : Array Value} {g : Nat} {key : Nat → Nat} {ok : Nat → Prop} {I : World → Prop} (R : ll k a1 g key ok I) (a m n cap : Nat) (f : Nat → Nat) (w : World) (J : DJ w g n cap f) (hI : I w) (co : a + 1 < m) (hb : m + 1 ≤ n) (hn : n ≤ 1000000000)
    (hok:∀ p,a<=p->p<m+1->ok (f p)) (hah:kF f a m (m+1)) (hs1:bw key f a m) :
    Calls Tryz.prog 335 #[.slice (some ⟨g,0,none⟩) n cap,N a,N m,N (m+1),.func (.func k) #[] a1] w fun e w'=>e=.returned (.tuple #[])/\∃ f',DJ w' g n cap f'/\ci f f' a (m+1)/\bw key f' a (m+1)/\ak (fun k=>k=g) w w':=by
  obtain⟨ct,bk⟩:=J.caps;unfold maxLen at bk;have cx:=R.ent;have HK:=ad R;have a5:=ad hok;have bm:=ad hah;have T:=ad hs1;clear R hok hah hs1;have cy:(((m - a:Nat):Int) == 1)=false:=(by simp;omega);have cz:¬((m - a:Nat)=1):=(by omega);have c0:IntKind.i64.wrap ((m:Int) - a)=((m - a:Nat):Int):=(by rw [ar _ (by omega)];omega);have bn:IntKind.i64.wrap (((m+1:Nat):Int) - m)=1:=(by rw [ar _ (by omega)];omega);generalize m - a=ma at *;obtain⟨b,U⟩:∃ b,b=m+1:=⟨_,rfl⟩;rw [<- U]at bn ⊢;have HB:=ad U;have c4:m<b:=(by omega);have c5:b<=n:=(by omega);clear U;go_enter Tryz.func335, Tryz.ntmps335;go_wp2_with fail;go_loopw [14,15] (fun V X wr=>∃ (i j:Nat),V=N i/\X=N j/\a<=i/\i<=j/\j<=m/\Hid (∀ p,a<=p->p<i->bh key (f p) (f m))/\Hid (∀ p,j<=p->p<m->bh key (f m) (f p))/\∃ q,wr=w.drewN q) (fun V X _=>(intOf X).toNat - (intOf V).toNat);case atStart=>exact⟨a,m,rfl,rfl,ag _,by omega,ag _,fun p A K=>by omega,fun p A K=>by omega,0,rfl⟩
  case round=>
    obtain⟨i,j,rfl,rfl,Y,c6,L,Z,HH,q,rfl⟩:=hrel;by_cases c7:i<j
    · have bu:(i:Int)<j:=(by omega);obtain⟨A,K,h3,h4⟩:=rj i j (by omega);have bv:i<=(i+j) / 2:=(by omega);have cA:(i+j) / 2<j:=(by omega);generalize (i+j) / 2=h at *;generalize i+j=ij at *;have c1:=(J.fr ((Fr.refl w).drewN q)).cell h (by omega);have c2:=(J.fr ((Fr.refl w).drewN q)).cell m (by omega);have HC:=ad (fun r=>HK.out.call (f m) (f h) (HK.out.fr hI (((Fr.refl w).drewN q).drewN r)) (a5.out m (by omega) (by omega)) (a5.out h (by omega) (by omega)));have a6:=rD (key (f m)) (key (f h));generalize hW:w.drewN q=W at *;have HW:=ad hW;clear hW;have HA:=ad (uV (key:=key) bm.out (show a<=h by omega) (show h<m by omega) (ag m) (by omega));have b0:Hid (¬key (f m)<key (f h)->∀ p,a<=p->p<h+1->bh key (f p) (f m)):=fun e p A K=>by
        have D:=HA.out.2.1 e;by_cases c:p=h;· rw [c];exact D
        · exact iG (T.out p h A (by omega) (by omega)) D
      have b1:Hid (key (f m)<key (f h)->∀ p,h<=p->p<m->bh key (f m) (f p)):=fun e p A K=>by
        have D:=HA.out.1.1 e;by_cases c:p=h;· rw [c];exact D
        · exact iG D (T.out h p (by omega) (by omega) (by omega))
      have i1:(0:Int)<=h:=(by omega);have i2:(h:Int)<n:=(by omega);have i3:(0:Int)<=m:=(by omega);have i4:(m:Int)<n:=(by omega);have cG:IntKind.i64.wrap ((h:Int)+1)=((h+1:Nat):Int):=(by rw [ar _ (by omega)];omega);clear HA;generalize M:f m=x at *;generalize O:f h=y at *;have HX:=ad M;have HY:=ad O;clear M O;generalize b8:ip (key x) (key y)=cv at *;have bA:decide (cv<0)=decide (key x<key y):=(by simp [a6]);have dd:decide ((0:Int)<=cv) = !decide (key x<key y):=(by rw [<- bA];by_cases h:cv<0 <;> simp [h] <;> omega);generalize bB:key x=F at *;generalize bR:key y=G at *;clear a6 b8 bB bR;go_upto_region 17 with fail;go_quiet ((exact Calls.quiet_of (HC.out _)));by_cases Q:F<G
      · have aj:decide (F<G)=true:=bs Q;have ca:decide (G<=F)=false:=bi (by omega);simp only [aj,Bool.not_true];go_wp2_with fail;go_roundw;case rel=>exact⟨i,h,rfl,rfl,Y,bv,by omega,Z,b1.out Q,q+nq,by rw [<- HW.out,iu]⟩
        case measure=>simp [intOf];omega
      · have aj:decide (F<G)=false:=bi Q;have ca:decide (G<=F)=true:=bs (by omega);simp only [aj,Bool.not_false];go_wp2_with fail;go_roundw;case rel=>exact⟨h+1,j,by go_num,rfl,by omega,by omega,L,b0.out Q,HH,q+nq,by rw [<- HW.out,iu]⟩
        case measure=>simp [intOf];omega
    · obtain rfl:i=j:=(by omega);have di:¬((i:Int)<i):=(by omega);have bb:=J.fr ((Fr.refl w).drewN q);have bc:ak (fun k=>k=g) w (w.drewN q):=((Fr.refl w).drewN q).chg _;have cb:=ad (zf key f a i m T.out Y L Z.out HH.out);have cc:=ad ((qJ f i m (m+1) L (by omega)).widen Y (by omega) (ag _));clear Z HH hI;generalize w.drewN q=wq at *;go_wp2_with fail;go_loopw [17] (fun kv wr=>∃ (c:Nat) (o:Nat->Nat),kv=N c/\i<=c/\c<=m/\DJ wr g n cap o/\Hid (∀ p,o p=aE f c m (m+1) p)/\ak (fun k=>k=g) w wr) (fun kv _=>(intOf kv).toNat);case atStart=>exact⟨m,f,rfl,L,ag _,bb,fun p=>(tr f m (m+1) p (by omega)).symm,bc⟩
      case round=>
        clear bb bc;obtain⟨c,o,rfl,dk,cf,z,HF,hc⟩:=hrel;by_cases dl:i<c
        · have bu:(i:Int)<(c:Int):=(by omega);have dr:IntKind.i64.wrap ((c:Int) - 1)=((c - 1:Nat):Int):=(by rw [ar _ (by omega)];omega);have c1:=z.cell c (by omega);have c2:=z.cell (c - 1) (by omega);have z1:=z.frozen c (by omega);have z2:=z.frozen (c - 1) (by omega);have ch:=ad (z.swap c (c - 1) (by omega) (by omega));have cj:Hid (∀ p,ie o c (c - 1) p=aE f (c - 1) m (m+1) p):=fun p=>(by have e:o=aE f c m (m+1):=funext fun p=>HF.out p;rw [e];exact xU f m c p cf (by omega));have i1:(0:Int)<=c:=(by omega);have i2:(c:Int)<n:=(by omega);have i5:c<n:=(by omega);have cl:i<=c - 1/\c - 1<c/\c - 1<n/\c - 1<=m:=(by omega);generalize M:o c=x at *;generalize O:o (c - 1)=y at *;generalize bf:c - 1=d at *;obtain⟨d1,d2,d3,d4⟩:=cl;have d7:c≠d:=(by omega);have d8:d≠c:=(by omega);have i3:(0:Int)<=d:=(by omega);have i4:(d:Int)<n:=(by omega);have HD:=ad bf;clear M O bf HF;go_upto_region 23 with fail;go_region;all_goals go_wp2_with fail
          all_goals go_roundw
          case rel=>exact⟨d,ie o c d,rfl,d1,d4,ch.out.fr (Fr.drew (Fr.refl _)),cj,hc.trans ((qt wr g c d _ _).trans ((Fr.drew (Fr.refl _)).chg (fun k=>k=g)) (fun _ _ h=>h)) (fun _ _ h=>h)⟩
          case measure=>simp [intOf];omega
        · obtain rfl:i=c:=(by omega);have dT:¬((i:Int)<(i:Int)):=(by omega);go_wp2_with fail;refine b6Qc (results_none rfl _ _ _) rfl ?_;have e:o=aE f i m (m+1):=funext fun p=>HF.out p;rw [HB.out];exact⟨rfl,o,z,by rw [e];exact cc.out,by rw [e];exact cb.out,hc⟩
def uZ(k:Nat)(d:Array Value)(g n cap:Nat)(key:Nat->Nat)(h:Nat->Prop)(I:World->Prop)(a m b:Nat):Prop:=
 ∀ (f : Nat → Nat) (w : World), DJ w g n cap f → I w → (∀ p, a ≤ p → p < b → h (f p)) → kF f a m b → bw key f a m → bw key f m b →
  Calls Tryz.prog 335 #[.slice (some ⟨g,0,none⟩) n cap,N a,N m,N b,.func (.func k) #[] d] w fun e w'=>e=.returned (.tuple #[])/\∃ f',DJ w' g n cap f'/\ci f f' a b/\bw key f' a b/\ak (fun k=>k=g) w w'
theorem CQ {k : Nat} {ba : Array Value} {g : Nat} {key : Nat → Nat} {ok : Nat → Prop} {I : World → Prop} (hk : ll k ba g key ok I) (a m b n cap : Nat) (hm : a + 1 < m) (ho : m + 1 < b) (hb : b ≤ n) (hn : n ≤ 1000000000)
    (ih:∀ a' m' b',b' - a'<b - a->a'<m'->m'<b'->b'<=n->uZ k ba g n cap key ok I a' m' b'):uZ k ba g n cap key ok I a m b:=by
  intro f w hd hI cx cy cz Z;obtain⟨c0,b3⟩:=hd.caps;unfold maxLen at b3;have hp:=hk.ent;have HK:=ad hk;have b4:=ad cx;have b5:=ad cy;have bc:=ad cz;have bd:=ad Z;have c3:=ad ih;have bf:=ad hI;clear hk cx cy cz Z ih hI;have hq:(((m - a:Nat):Int) == 1)=false:=(by simp;omega);have ht:¬((m - a:Nat)=1):=(by omega);have hu:IntKind.i64.wrap ((m:Int) - a)=((m - a:Nat):Int):=(by rw [ar _ (by omega)];omega);have hv:(((b - m:Nat):Int) == 1)=false:=(by simp;omega);have hw:¬((b - m:Nat)=1):=(by omega);have hz:IntKind.i64.wrap ((b:Int) - m)=((b - m:Nat):Int):=(by rw [ar _ (by omega)];omega);generalize m - a=ma at *;generalize b - m=bm at *;obtain⟨e1,e2,e3,e4⟩:=rj a b (by omega);have e6:a<(a+b) / 2/\(a+b) / 2<b:=(by omega);obtain⟨d,c5⟩:∃ d,d=(a+b) / 2:=⟨_,rfl⟩;have e7:2*d<=a+b/\a+b<=2*d+1:=(by omega);rw [<- c5]at e3 e4 e6;clear c5;generalize a+b=ab at e1 e2 e3;have c6:IntKind.i64.wrap ((d:Int)+m)=((d+m:Nat):Int):=(by rw [ar _ (by omega)];omega);have c7:IntKind.i64.wrap (((d+m:Nat):Int) - 1)=((d+m - 1:Nat):Int):=(by rw [ar _ (by omega)];omega);obtain⟨o,ac⟩:∃ o,o=d+m:=⟨_,rfl⟩;rw [<- ac]at c6 c7;go_enter Tryz.func335, Tryz.ntmps335;go_upto_if 140 with fail;go_cut [20,21]from 138 to 146 (fun sv rv K=>∃ D F:Nat,sv=N D/\rv=N F/\a<=D/\D<=F/\F<=m/\o - D<=b/\m<=o - F/\Hid (D=a\/o - D=b)/\Hid (F=m\/o - F=m)/\w=K)
  case first=>
    by_cases h8:d<m;· have e9:(d:Int)<m:=(by omega);have h9:IntKind.i64.wrap ((o:Int) - b)=((o - b:Nat):Int):=(by rw [ar _ (by omega)];omega);have T:a<=o - b/\o - b<=d/\d<=m/\o - (o - b)<=b/\m<=o - d:=(by omega);have fa:Hid (o - b=a\/o - (o - b)=b):=.inr (by omega);have fb:Hid (d=m\/o - d=m):=.inr (by omega);have a5:=ad ac;clear ac;go_wp2_with fail;go_meet;exact⟨o - b,d,by have:=a5.out;first | rfl | (congr 1;omega),rfl,T.1,T.2.1,T.2.2.1,T.2.2.2.1,T.2.2.2.2,fa,fb,by first | rfl | trivial⟩
    · have e9:¬(d:Int)<m:=(by omega);have T:o - a<=b/\m<=o - m:=(by omega);clear ac;go_wp2_with fail;go_meet;exact⟨a,m,rfl,rfl,ag _,by omega,ag _,T.1,T.2,.inl rfl,.inl rfl,by first | rfl | trivial⟩
  case rest=>
    obtain⟨D,F,rfl,rfl,fc,c8,c9,fd,fk,HL,HH,rfl⟩:=hcut;have a5:=ad ac;have cG:∀ x,D<=x->x<F->m<=d+m - 1 - x/\d+m - 1 - x<b/\x<=d+m - 1:=fun x G J=>(by omega);have b8:=ad cG;have fl:2*d<=a+b/\m<=n/\d<=n:=(by omega);clear ac c6 c7 cG;go_wp2_with fail;go_loopw [20,21] (fun sv rv wr=>∃ (s r:Nat),sv=N s/\rv=N r/\D<=s/\s<=r/\r<=F/\Hid (∀ x,D<=x->x<s->bh key (f x) (f (d+m - 1 - x)))/\Hid (∀ x,r<=x->x<F->bh key (f (d+m - 1 - x)) (f x))/\∃ q,wr=w.drewN q) (fun sv rv _=>(intOf rv).toNat - (intOf sv).toNat);case atStart=>exact⟨D,F,rfl,rfl,ag _,c8,ag _,fun p G J=>by omega,fun p G J=>by omega,0,rfl⟩
    case round=>
      obtain⟨s,r,rfl,rfl,hs,fm,hr,HX,HY,q,rfl⟩:=hrel;by_cases fn:s<r
      · have hA:(s:Int)<r:=(by omega);obtain⟨j1,j2,j3,j4⟩:=rj s r (by omega);have fr:s<=(s+r) / 2:=(by omega);have hG:(s+r) / 2<r:=(by omega);generalize (s+r) / 2=c at *;generalize s+r=sr at *;obtain⟨p1,p2,p3⟩:=b8.out c (by omega) (by omega);have c1:=(hd.fr ((Fr.refl w).drewN q)).cell (d+m - 1 - c) (by omega);have c2:=(hd.fr ((Fr.refl w).drewN q)).cell c (by omega);have HC:=ad (fun r=>HK.out.call (f (d+m - 1 - c)) (f c) (HK.out.fr bf.out (((Fr.refl w).drewN q).drewN r)) (b4.out _ (by omega) (by omega)) (b4.out c (by omega) (by omega)));have dd:=rD (key (f (d+m - 1 - c))) (key (f c));have ca:=ad (D6 key f a m b D F (d+m - 1) c bc.out bd.out fc c9 b8.out (by omega) (by omega));have HA:=ad (uV (key:=key) b5.out (show a<=c by omega) (show c<m by omega) p1 p2);have fv:(d:Int)+m - 1 - c=((d+m - 1 - c:Nat):Int):=(by omega);have hK:IntKind.i64.wrap ((d:Int)+m - 1 - c)=((d+m - 1 - c:Nat):Int):=(by rw [fv];exact ar _ (by omega));have hL:d+m - 1 - c<n:=(by omega);generalize hW:w.drewN q=W at *;have HW:=ad hW;clear hW;have f0:Hid (¬key (f (d+m - 1 - c))<key (f c)->∀ x,D<=x->x<c+1->bh key (f x) (f (d+m - 1 - x))):=fun e=>ca.out.1 (HA.out.2.1 e);have f1:Hid (key (f (d+m - 1 - c))<key (f c)->∀ x,c<=x->x<F->bh key (f (d+m - 1 - x)) (f x)):=fun e=>ca.out.2 (HA.out.1.1 e);have i1:(0:Int)<=c:=(by omega);have i2:(c:Int)<n:=(by omega);have i5:c<n:=(by omega);have hP:IntKind.i64.wrap ((c:Int)+1)=((c+1:Nat):Int):=(by rw [ar _ (by omega)];omega);clear HA ca;have hQ:(0:Int)<=((d+m - 1 - c:Nat):Int):=(by omega);have hR:((d+m - 1 - c:Nat):Int)<n:=(by omega);generalize d+m - 1 - c=pc at *;generalize hx:f pc=x at *;generalize hy:f c=y at *;have hS:=ad hx;have hT:=ad hy;clear hx hy;generalize f5:ip (key x) (key y)=cv at *;have hU:decide (cv<0)=decide (key x<key y):=(by simp [dd]);generalize f6:key x=kx at *;generalize f7:key y=ky at *;clear dd f5 f6 f7;go_upto_region 35 with fail;go_quiet ((exact Calls.quiet_of (HC.out _)));by_cases bk:kx<ky
        · have ch:decide (kx<ky)=true:=bs bk;simp only [ch,Bool.not_true];go_wp2_with fail;go_roundw;case rel=>exact⟨s,c,rfl,rfl,hs,fr,by omega,HX,f1.out bk,q+nq,by rw [<- HW.out,iu]⟩
          case measure=>simp [intOf];omega
        · have ch:decide (kx<ky)=false:=bi bk;simp only [ch,Bool.not_false];go_wp2_with fail;go_roundw;case rel=>exact⟨c+1,r,by go_num,rfl,by omega,by omega,hr,f0.out bk,HY,q+nq,by rw [<- HW.out,iu]⟩
          case measure=>simp [intOf];omega
      · obtain rfl:s=r:=(by omega);have hV:¬((s:Int)<s):=(by omega);have cj:=hd.fr ((Fr.refl w).drewN q);have cl:ak (fun k=>k=g) w (w.drewN q):=((Fr.refl w).drewN q).chg _;have hX:=ad (HK.out.fr bf.out ((Fr.refl w).drewN q));obtain⟨e,he⟩:∃ e,e=d+m - s:=⟨_,rfl⟩;have f9:a<=s/\s<=m/\m<=e/\e<=b:=(by have:=a5.out;omega);have U:Hid (e+s=d+m):=(by show _=_;omega);have ga:Hid (a<s->e<b->bh key (f (s - 1)) (f e)):=fun G J=>by
          have hl:D<=s - 1:=by
            rcases HL.out with h | h;· omega
            · have:=a5.out;omega
          have:=HX.out (s - 1) hl (by omega);rw [show d+m - 1 - (s - 1)=e by omega]at this;exact this
        have gb:Hid (s<m->m<e->bh key (f (e - 1)) (f s)):=fun G J=>by
          have hl:s<F:=by
            rcases HH.out with h | h;· omega
            · have:=a5.out;omega
          have:=HY.out s (ag _) hl;rw [show d+m - 1 - s=e - 1 by omega]at this;exact this
        obtain⟨M,V,O,Q⟩:=f9;have gc:=ad (CJ M V O Q U.out bc.out bd.out ga.out gb.out);have ds:=ad (CG M V O Q U.out bc.out);have dv:=ad (CF M V O Q U.out bd.out);have ge:=ad (CE M V O Q U.out bc.out);have gs:=ad (CD M V O Q U.out bd.out);have gv:=ad (CM M V O Q U.out b5.out);have g0:=ad (CL M V O Q U.out b5.out);have d0:=ad (qJ f s m e V O);have d1:Hid (∀ p,a<=p->p<b->ok (aE f s m e p)):=fun p G J=>(by obtain⟨q,h3,h4,h5⟩:=(d0.out.widen M (by omega) Q).mem p G J;rw [h5];exact b4.out q h3 h4);have hY:IntKind.i64.wrap ((d:Int)+m - s)=(e:Int):=(by rw [ar _ (by omega)];omega);have hZ:s<=d/\d<=e:=(by have:=U.out;omega);have HE:=ad he;clear he fd fk c8 hs hr fm c9 fn HX HY HL HH b8 fl e7;generalize w.drewN q=wq at *;clear hd;go_upto_region 39 with fail;go_cut [185]from 178 to 185 (fun cv K=>cv=.bool (decide (s<m) && decide (m<e))/\wq=K)
        case first=>
          by_cases L:s<m
          · by_cases X:m<e;· have Y:(s:Int)<m:=(by omega);have a6:(m:Int)<e:=(by omega);go_wp2_with fail;go_meet;exact⟨by simp [L,X],rfl⟩
            · have Y:(s:Int)<m:=(by omega);have a6:¬(m:Int)<e:=(by omega);go_wp2_with fail;go_meet;exact⟨by simp [L,X],rfl⟩
          · have Y:¬(s:Int)<m:=(by omega);go_wp2_with fail;go_meet;exact⟨by simp [L],rfl⟩
        case rest=>
          obtain⟨rfl,rfl⟩:=hcut;have d3:=ad (fun(G:s<m) (J:m<e)=>DR s m e (.func (.func k) #[] ba) g n cap f wq cj G J (by omega) hn);have d4:Hid ((decide (s<m) && decide (m<e))=false->∀ p,aE f s m e p=f p):=fun h p=>by
            simp only [Bool.and_eq_false_iff,pI]at h;rcases h with h | h;· obtain rfl:s=m:=(by omega);exact tr f s e p O
            · obtain rfl:m=e:=(by omega);exact xV f s m p
          have cn:Hid ((decide (s<m) && decide (m<e))=true->s<m/\m<e):=fun h=>(by simpa using h);generalize (decide (s<m) && decide (m<e))=bR at *;go_upto_if 185 with fail;go_cut []from 186 to 191 (fun K=>DJ K g n cap (aE f s m e)/\ak (fun k=>k=g) w K)
          case first=>
            cases bR;· go_wp2_with fail;go_meet;exact⟨cj.congr fun p _=>d4.out (by first | rfl | trivial) p,cl⟩
            · go_wp2_with fail;refine(d3.out (cn.out (by first | rfl | trivial)).1 (cn.out (by first | rfl | trivial)).2).mono ?_;rintro e' w1 ⟨rfl,a7,c0⟩;go_wp2_with fail;go_meet;exact⟨a7,cl.trans c0 (fun _ _ h=>h)⟩
          case rest=>
            generalize co:wc=wd at *;clear co;obtain⟨a7,bn⟩:=hcut;clear d3 d4 cn cl cj;have d8:=ad (HK.out.stay bf.out bn);go_upto_region 41 with fail;go_cut [199]from 192 to 199 (fun cv K=>cv=.bool (decide (a<s) && decide (s<d))/\wd=K)
            case first=>
              by_cases L:a<s
              · by_cases X:s<d;· have Y:(a:Int)<s:=(by omega);have a6:(s:Int)<d:=(by omega);go_wp2_with fail;go_meet;exact⟨by simp [L,X],rfl⟩
                · have Y:(a:Int)<s:=(by omega);have a6:¬(s:Int)<d:=(by omega);go_wp2_with fail;go_meet;exact⟨by simp [L,X],rfl⟩
              · have Y:¬(a:Int)<s:=(by omega);go_wp2_with fail;go_meet;exact⟨by simp [L],rfl⟩
            case rest=>
              obtain⟨rfl,rfl⟩:=hcut;have bt:=ad (fun(G:a<s) (J:s<d)=>c3.out a s d (by omega) G J (by omega) (aE f s m e) wd a7 d8.out (fun p x y=>d1.out p x (by omega)) gv.out ds.out dv.out);have bu:Hid ((decide (a<s) && decide (s<d))=false->bw key (aE f s m e) a d):=fun h=>by
                simp only [Bool.and_eq_false_iff,pI]at h;rcases h with h | h;· obtain rfl:a=s:=(by omega);exact dv.out
                · obtain rfl:s=d:=(by omega);exact ds.out
              have aj:Hid ((decide (a<s) && decide (s<d))=true->a<s/\s<d):=fun h=>(by simpa using h);generalize (decide (a<s) && decide (s<d))=g5 at *;go_upto_if 199 with fail;go_cut []from 200 to 205 (fun K=>∃ A,DJ K g n cap A/\ci (aE f s m e) A a d/\bw key A a d/\ak (fun k=>k=g) w K)
              case first=>
                cases g5;· go_wp2_with fail;go_meet;exact⟨_,a7,ci.refl _ _ _,bu.out (by first | rfl | trivial),bn⟩
                · go_wp2_with fail;refine(bt.out (aj.out (by first | rfl | trivial)).1 (aj.out (by first | rfl | trivial)).2).mono ?_;rintro e' w1 ⟨rfl,A,bv,bx,Z,b3⟩;go_wp2_with fail;go_meet;exact⟨A,bv,bx,Z,bn.trans b3 (fun _ _ h=>h)⟩
              case rest=>
                generalize co:wc=we at *;clear co;obtain⟨A,bv,bx,Z,cp⟩:=hcut;clear bt bu aj a7;have g7:=ad (HK.out.stay bf.out cp);have cs:=ad bx;have g8:=ad Z;have av:Hid (∀ p,d<=p->A p=aE f s m e p):=fun p h=>cs.out.1 p (.inr h);have g9:Hid (∀ p,d<=p->p<b->ok (A p)):=fun p G J=>(by rw [av.out p G];exact d1.out p (by omega) J);have dT:=ad (ge.out.congr (g:=A) fun p h _=>av.out p h);have ec:=ad (gs.out.congr (g:=A) fun p h _=>av.out p (by omega));have gA:Hid (kF A d e b):=fun p q x y z t=>(by rw [av.out p x,av.out q (by omega)];exact g0.out p q x y z t);clear bx Z bn d8;go_upto_region 43 with fail;go_cut [213]from 206 to 213 (fun cv K=>cv=.bool (decide (d<e) && decide (e<b))/\we=K)
                case first=>
                  by_cases L:d<e
                  · by_cases X:e<b;· have Y:(d:Int)<e:=(by omega);have a6:(e:Int)<b:=(by omega);go_wp2_with fail;go_meet;exact⟨by simp [L,X],rfl⟩
                    · have Y:(d:Int)<e:=(by omega);have a6:¬(e:Int)<b:=(by omega);go_wp2_with fail;go_meet;exact⟨by simp [L,X],rfl⟩
                  · have Y:¬(d:Int)<e:=(by omega);go_wp2_with fail;go_meet;exact⟨by simp [L],rfl⟩
                case rest=>
                  obtain⟨rfl,rfl⟩:=hcut;have bt:=ad (fun(G:d<e) (J:e<b)=>c3.out d e b (by omega) G J hb A we bv g7.out g9.out gA.out dT.out ec.out);have bu:Hid ((decide (d<e) && decide (e<b))=false->bw key A d b):=fun h=>by
                    simp only [Bool.and_eq_false_iff,pI]at h;rcases h with h | h;· obtain rfl:d=e:=(by omega);exact ec.out
                    · obtain rfl:e=b:=(by omega);exact dT.out
                  have aj:Hid ((decide (d<e) && decide (e<b))=true->d<e/\e<b):=fun h=>(by simpa using h);generalize (decide (d<e) && decide (e<b))=gB at *;have ef:Hid (∀ R,ci A R d b->bw key R d b->ci f R a b/\bw key R a b):=fun R r3 q3=>by
                    refine⟨((d0.out.widen M (by omega) Q).trans (cs.out.widen (ag a) (by omega) (by omega))).trans (r3.widen (by omega) (by omega) (ag b)),?_⟩;refine CI key (aE f s m e) R a d b (g8.out.congr fun p _ h=>r3.1 p (.inl h)) q3 (fun p x y=>?_) (fun p x y=>?_) gc.out;· rw [r3.1 p (.inl y)];exact cs.out.mem p x y
                    · obtain⟨q,x1,x2,x3⟩:=r3.mem p x y;exact⟨q,x1,x2,by rw [x3,av.out q x1]⟩
                  cases gB;· go_wp2_with fail;go_end0;have:=ef.out A (ci.refl _ _ _) (bu.out (by first | rfl | trivial));exact⟨rfl,A,bv,this.1,this.2,cp⟩
                  · go_wp2_with fail;refine(bt.out (aj.out (by first | rfl | trivial)).1 (aj.out (by first | rfl | trivial)).2).mono ?_;rintro e' w1 ⟨rfl,R,hf,hg,hh,hj⟩;go_wp2_with fail;go_end0;have:=ef.out R hg hh;exact⟨rfl,R,hf,this.1,this.2,cp.trans hj (fun _ _ h=>h)⟩
theorem CP{k:Nat}{F:Array Value}{g:Nat}{key:Nat->Nat}{G:Nat->Prop}{I:World->Prop}(e:ll k F g key G I)(n cap:Nat)(h:n<=1000000000):∀ (c a m b:Nat),b - a<=c->a<m->m<b->b<=n->uZ k F g n cap key G I a m b:=by
 intro c
 induction c with
 | zero=>intro a m b M O J d;omega
 | succ c Q=>
  intro a m b M O J d;by_cases R:m=a+1;· subst R;intro f w o q A D K L;exact CS e a b n cap f w o q J d h A D L
  · by_cases c2:b=m+1;· subst c2;intro f w o q A D K L;exact CR e a m n cap f w o q (by omega) d h A D K
    · exact CQ e a m b n cap (by omega) (by omega) d h fun T U V x y z t=>Q T U V (by omega) y z t
theorem Di {k : Nat} {b4 : Array Value} {g : Nat} {key : Nat → Nat} {ok : Nat → Prop} {I : World → Prop} (hk : ll k b4 g key ok I) (n cap : Nat) (M : Nat → Nat) (w : World) (L : DJ w g n cap M) (hI : I w) (hn : n ≤ 1000000)
    (hok:∀ p,p<n->ok (M p)) (hup:∀ p q,p<q->q<n->M p<M q) :
    Calls Tryz.prog 315 #[.slice (some ⟨g,0,none⟩) n cap,N n,.func (.func k) #[] b4] w fun e w'=>e=.returned (.tuple #[])/\∃ f,DJ w' g n cap f/\ci M f 0 n/\bw key f 0 n/\ak (fun k=>k=g) w w':=by
  have bA:=ad (fun a b f w o A D h4 h5 h6=>Gk hk a b n cap f w o A D h4 (by omega) h5 h6);have c0:=ad (fun a m b=>CP hk n cap (by omega) (b - a) a m b (ag _));have HK:=ad hk;have ca:=ad hok;have cb:=ad hup;clear hk hok hup;go_enter Tryz.func315, Tryz.ntmps315;go_wp2_with fail;go_loopw [7,8] (fun av bv wr=>∃ (t:Nat) (f:Nat->Nat),av=N (20*t)/\bv=N (20*t+20)/\20*t<=n/\DJ wr g n cap f/\Hid (ex key M f 20 n (20*t))/\Hid (∀ p,20*t<=p->f p=M p)/\ak (fun k=>k=g) w wr) (fun _ bv _=>n+21 - (intOf bv).toNat);case atStart=>exact⟨0,M,rfl,rfl,by omega,L,ex.start key M 20 n,fun _ _=>rfl,ak.refl _ w⟩
  case round=>
    clear L;obtain⟨t,f,rfl,rfl,ht,L,T,HF,F⟩:=hrel;have bd:=ad (HK.out.stay hI F);have U:=ad (fun b (o:20*t<=b) (A:b<=n)=>bA.out (20*t) b f wr L bd.out o A (fun p _ h=>T.out.okay ca.out p (by omega)) (fun p q D h4 h5=>by rw [HF.out p D,HF.out q (by omega)];exact cb.out p q h4 (by omega)));have O:=ad (fun f' b (Q:ci f f' (20*t) b) (R:bw key f' (20*t) b) o A D h4=>ex.step (by omega) T.out HF.out Q R o A D h4);by_cases bt:20*t+20<=n
    · have cf:((20*t+20:Nat):Int)<=n:=(by omega);have G:=ad (U.out (20*t+20) (by omega) bt);have J:=ad (fun f' Q R=>O.out f' (20*t+20) Q R (by omega) bt (ag _) (.inl rfl));obtain⟨Y,bu⟩:∃ Y,Y=20*t+20:=⟨_,rfl⟩;obtain⟨a,ha⟩:∃ a,a=20*t:=⟨_,rfl⟩;rw [<- bu]at G J bt cf ⊢;rw [<- ha]at G J ⊢;have c1:IntKind.i64.wrap ((Y:Int)+20)=((Y+20:Nat):Int):=(by rw [ar _ (by omega)];omega);have cA:n+21 - (Y+20)<n+21 - Y:=(by omega);have bf:=ad bu;have HA:=ad ha;clear ha bu U O ht T HF;go_wp2_with fail;refine G.out.mono ?_;rintro e w1 ⟨rfl,f',Z,aa,ab,ac⟩;have h9:=J.out f' aa ab;rw [show Y=20*(t+1) by have:=bf.out;omega]at h9;go_wp2_with fail;go_roundw;case rel=>exact⟨t+1,f',by have:=bf.out;show Value.int _ _=Value.int _ _;congr 1;omega,by have:=bf.out;show Value.int _ _=Value.int _ _;congr 1;omega,by have:=bf.out;omega,Z,h9.1,h9.2,F.trans ac (fun _ _ h=>h)⟩
      case measure=>simp [intOf];omega
    · have cf:¬((20*t+20:Nat):Int)<=n:=(by omega);have G:=ad (U.out n ht (ag _));have J:=ad (fun f' Q R=>(O.out f' n Q R ht (ag _) (by omega) (.inr rfl)).1);clear U O T HF;generalize 20*t+20=Y at *;generalize 20*t=a at *;go_wp2_with fail;refine G.out.mono ?_;rintro e w1 ⟨rfl,f1,Z,aa,ab,ac⟩;have cj:=ad (J.out f1 aa ab);have cl:=F.trans ac (fun _ _ h=>h);clear G J aa ab ac F L bd bA;go_wp2_with fail;go_loopw [6] (fun cv wr=>∃ (c:Nat) (f:Nat->Nat),cv=N c/\20<=c/\(c<=2*n\/c=20)/\DJ wr g n cap f/\Hid (ex key M f c n n)/\ak (fun k=>k=g) w wr) (fun cv _=>n - (intOf cv).toNat);case atStart=>exact⟨20,f1,rfl,ag _,.inr rfl,Z,cj,cl⟩
      case round=>
        clear Z cj cl;obtain⟨c,f,rfl,cG,da,L,T,F⟩:=hrel;by_cases dc:c<n
        · have c3:(c:Int)<n:=(by omega);have c4:IntKind.i64.wrap (2*(c:Int))=((2*c:Nat):Int):=(by rw [ar _ (by omega)];omega);have c5:IntKind.i64.wrap ((c:Int)*2)=((2*c:Nat):Int):=(by rw [ar _ (by omega)];omega);obtain⟨d,V⟩:∃ d,d=2*c:=⟨_,rfl⟩;rw [<- V]at c4 c5;have cm:c<d/\d<=2*n/\d<=2000000:=(by omega);have dd:=ad V;have cn:=ad (T.out.double);rw [<- V]at cn;have bk:=ad (fun t b (o:d*t+c<=b) (A:b<=n) (D:b<=d*t+d)=>ex.parts (t:=t) (b:=b) (by omega) T.out cb.out (by rw [<- V];exact o) A (by rw [<- V];exact D));rw [<- V]at bk;have co:=ad (fun t (o:n<=d*t+c)=>ex.rest (t:=t) (by omega) T.out (by rw [<- V];exact o));rw [<- V]at co;clear V;go_wp2_with fail;generalize wr=wo at *;go_loopw [7,8] (fun av bv wr=>∃ (t:Nat) (g2:Nat->Nat),av=N (d*t)/\bv=N (d*t+d)/\d*t<=n/\DJ wr g n cap g2/\Hid (ex key M g2 d n (d*t))/\Hid (∀ p,d*t<=p->g2 p=f p)/\ak (fun k=>k=g) w wr) (fun _ bv _=>n+d+1 - (intOf bv).toNat);case atStart=>exact⟨0,f,by simp,by simp,by simp,L,by rw [Nat.mul_zero];exact cn.out,fun _ _=>rfl,F⟩
          case round=>
            clear L F;obtain⟨t,g2,rfl,rfl,ht,L,bb,X,F⟩:=hrel;have bd:=ad (HK.out.stay hI F)
            have U := ad (fun b (o : d * t + c ≤ b) (h0 : d * t + c < b) (A : b ≤ n) (D : b ≤ d * t + d) => c0.out (d * t) (d * t + c) b (by omega) h0 A g2 wr L bd.out (fun p _ h => bb.out.okay ca.out p (by omega))
              (by
                have := (bk.out t b o A D).1
                intro p q x y z u
                rw [X.out p x, X.out q (by omega)]; exact this p q x y z u)
              ((bk.out t b o A D).2.1.congr fun p x _ => X.out p x) ((bk.out t b o A D).2.2.congr fun p x _ => X.out p (by omega)))
            have O:=ad (fun g3 b (Q:ci g2 g3 (d*t) b) (R:bw key g3 (d*t) b) o A D h4=>ex.step (by omega) bb.out X.out Q R o A D h4);have cs:d*(t+1)=d*t+d:=Nat.mul_succ _ _;have a1:=ad cs;clear cs;by_cases bm:d*t+d<=n
            · have G:=ad (U.out (d*t+d) (by omega) (by omega) bm (ag _));have J:=ad (fun f' Q R=>O.out f' (d*t+d) Q R (by omega) bm (ag _) (.inl rfl));clear U O bb X;obtain⟨b2,ct⟩:∃ b2,b2=d*t+d:=⟨_,rfl⟩;obtain⟨K,a3⟩:∃ K,K=d*t+c:=⟨_,rfl⟩;rw [<- ct]at G J bm a1 ⊢;rw [<- a3]at G;have cx:IntKind.i64.wrap (((d*t:Nat):Int)+c)=(K:Int):=(by rw [ar _ (by omega)];omega);have c1:IntKind.i64.wrap ((b2:Int)+d)=((b2+d:Nat):Int):=(by rw [ar _ (by omega)];omega);have c7:(b2:Int)<=n:=(by omega);clear a3 ct ht;generalize d*t=a2 at *;go_wp2_with fail;refine G.out.mono ?_;rintro e w1 ⟨rfl,f',Z,aa,ab,ac⟩;have h9:=J.out f' aa ab;go_wp2_with fail;go_roundw;case rel=>exact⟨t+1,f',by rw [a1.out],by rw [a1.out];first | rfl | go_num,by rw [a1.out];exact bm,Z,by rw [a1.out];exact h9.1,by rw [a1.out];exact h9.2,F.trans ac (fun _ _ h=>h)⟩
              case measure=>simp [intOf];omega
            · have c7:¬((d*t+d:Nat):Int)<=n:=(by omega);by_cases b3:d*t+c<n
              · have G:=ad (U.out n (by omega) b3 (ag _) (by omega));have J:=ad (fun f' Q R=>(O.out f' n Q R ht (ag _) (by omega) (.inr rfl)).1);clear U O bb X a1;obtain⟨K,a3⟩:∃ K,K=d*t+c:=⟨_,rfl⟩;rw [<- a3]at G b3;have cx:IntKind.i64.wrap (((d*t:Nat):Int)+c)=(K:Int):=(by rw [ar _ (by omega)];omega);have c8:(K:Int)<n:=(by omega);clear a3;generalize d*t+d=b2 at *;generalize d*t=a2 at *;go_wp2_with fail;refine G.out.mono ?_;rintro e w1 ⟨rfl,f',Z,aa,ab,ac⟩;have h9:=J.out f' aa ab;go_wp2_with fail;go_roundw;case rel=>exact⟨d,f',by first | rfl | go_num,by omega,.inl cm.2.1,Z,h9,F.trans ac (fun _ _ h=>h)⟩
                case measure=>simp [intOf];omega
              · have J:=ad ((O.out g2 n (ci.refl _ _ _) ((co.out t (by omega)).congr fun p x _=>X.out p x) ht (ag _) (by omega) (.inr rfl)).1);clear U O bb X a1;obtain⟨K,a3⟩:∃ K,K=d*t+c:=⟨_,rfl⟩;rw [<- a3]at b3;have cx:IntKind.i64.wrap (((d*t:Nat):Int)+c)=(K:Int):=(by rw [ar _ (by omega)];omega);have c8:¬(K:Int)<n:=(by omega);clear a3;generalize d*t+d=b2 at *;generalize d*t=a2 at *;go_wp2_with fail;go_roundw;case rel=>exact⟨d,g2,by first | rfl | go_num,by omega,.inl cm.2.1,L,J,F⟩
                case measure=>simp [intOf];omega
        · have c3:¬(c:Int)<n:=(by omega);go_wp2_with fail;go_end0;exact⟨rfl,f,L,T.out.rear,T.out.whole (by omega),F⟩
theorem GM{f:FuncId}{d:Func}{c:Code}(e:Tryz.prog.funcs[f]? = some d)(h:(d.name == "runtime.NumGoroutine")=false)(m:d.body=some c)(args:Array Value)(w:World):(callFunc f args).run Tryz.prog w=.ok (.enter f args) w:=by
 have o:d.name≠ "runtime.NumGoroutine":=by simpa using h
 simp [callFunc,e,o,m,mark]
def eV:al Tryz.prog Nat:=⟨91,1,4,0,.int .u32 0,fun n=>[.int .u32 (n:Int)],by kernel_rfl,by decide,by decide,by simp [Value.cells],fun _=>rfl,by intro x u d;simp at d;subst d;rfl⟩
theorem o4{w:World}{v:Value}{l:List Nat}(h:af w eV v l)(k:Nat)(e:k<l.length) :
  ∃ b d cap,v=.slice (some ⟨b,d,none⟩) l.length cap/\w.cell? ⟨b,d+k,none⟩=some (.int .u32 (l[k]:Int)):=
 h.cell1 (fun n:Nat=>Value.int .u32 (n:Int)) rfl k e
theorem Ow.up{α:Type}{E:al Tryz.prog α}{w:World}{g n cap base:Nat}{l:List α}(h:Ow w 0 E (.slice (some ⟨g,0,none⟩) n cap) l)(d:base<=g):Ow w base E (.slice (some ⟨g,0,none⟩) n cap) l:=by
 obtain⟨e,_,m,o,r⟩:=h.parts;exact⟨E.length_cells _,.inr ⟨g,cap,m,by rw [e],d,o,r⟩⟩
def iW(d:List Nat):List Nat:=(List.range d.length).filter fun s=>decide (0<d.getD s 0)
theorem sV(d:List Nat):∀ s∈iW d,s<d.length:=fun s h=>by
 unfold iW at h
 exact kg.1 (List.mem_filter.1 h).1
theorem qr(d:List Nat):(iW d).Pairwise (·<·):=List.Pairwise.filter _ List.pairwise_lt_range
theorem wY(d:List Nat):(iW d).length<=d.length:=by
 unfold iW;have:=vN (fun s=>decide (0<d.getD s 0)) (List.range d.length);simpa using this
def iX(d:List Nat)(k:Nat):List Nat:=(List.range k).filter fun s=>decide (0<d.getD s 0)
theorem xd(d:List Nat)(k:Nat):(iX d k).length<=k:=by
 unfold iX;have:=vN (fun s=>decide (0<d.getD s 0)) (List.range k);simpa using this
theorem wZ(d:List Nat)(k:Nat)(h:k<d.length):iX d (k+1)=if 0<d[k]then iX d k++[k]else iX d k:=by
 unfold iX;rw [jt,List.filter_append];have e:d.getD k 0=d[k]:=by rw [cD,bo h];rfl
 by_cases c:0<d[k];· rw [ai c,ot (by rw [e];simpa using c)];rfl
 · rw [ah c,ou (by rw [e];simpa using c)];simp
def cE(d:List Nat):List Nat:=o6 (fun s=>d.getD s 0) (iW d)
theorem Cj(B:Nat)(v:Value)(d:List Nat)(x y:Nat)(w:World)(z:w.heap[B]? = some (.cells #[v] 195 (0,0)))(o:af w eV v d)(A:x<d.length)(D:y<d.length) :
  Calls Tryz.prog 291 #[N x,N y,.pointer (some ⟨B,0,none⟩)] w fun e w'=>e=.returned (.int .i64 (ip (d.getD x 0) (d.getD y 0)))/\∃ m,w'=w.drewN m:=by
 have K:=o.le;unfold maxLen at K;have M:=ad (fun a b W=>Hq a b W);have O:=ae z 0 rfl;obtain⟨b,Q,cap,F,R⟩:=o4 o x A;obtain⟨T,U,V,G,c2⟩:=o4 o y D;rw [F]at G;cases G;subst F;have I:d.getD x 0=d[x]:=by rw [cD,bo A];rfl
 have J:d.getD y 0=d[y]:=by rw [cD,bo D];rfl
 rw [I,J];have X:(0:Int)<=x:=by omega
 have Y:(x:Int)<d.length:=by omega
 have Z:(0:Int)<=y:=by omega
 have i4:(y:Int)<d.length:=by omega
 clear I J z o;generalize d[x]=p at *;generalize d[y]=q at *;generalize d.length=L at *;go_enter Tryz.func291, Tryz.ntmps291;go_upto_region 1 with fail;go_quiet ((go_at_call 292;exact Calls.quiet_of_same ((M.out _ _ _).mono fun _ _ h=>⟨h.1,h.2.symm⟩)));go_wp2_with fail;go_ret;exact⟨rfl,nq,rfl⟩
theorem Ci(B g:Nat)(v:Value)(d:List Nat)(e:World)(m:e.heap[B]? = some (.cells #[v] 195 (0,0)))(o:af e eV v d)(q:e.heap.size<=g) :
  ll 291 #[.pointer (some ⟨B,0,none⟩)] g (fun s=>d.getD s 0) (fun s=>s<d.length) (fun w=>Fr e w) where
 ent:=GM Tryz.func291 (by kernel_rfl) rfl
 stay h hc:=ak.below h hc (by have:=h.size;omega) (fun i z=>by omega)
 call x y h hx hy:=Cj B v d x y _ (h.heap m) (o.fr h) hx hy
theorem Gj(d:Value)(w:World):Calls Tryz.prog 334 #[.slice none 0 0,N 0,N 0,d] w fun e w'=>e=.returned (.tuple #[])/\w=w':=by
 go_enter Tryz.func334, Tryz.ntmps334;go_wp2_with fail;refine wp_loop_rounds 1 ?_;rw [rounds_succ];go_wp2_with fail;go_end0;exact⟨rfl,rfl⟩
theorem Dh(d:Value)(w:World):Calls Tryz.prog 315 #[.slice none 0 0,N 0,d] w fun e w'=>e=.returned (.tuple #[])/\w=w':=by
 have h:=ad (Gj d);go_enter Tryz.func315, Tryz.ntmps315;go_wp2_with fail;refine wp_loop_rounds 1 ?_;rw [rounds_succ];go_wp2_with fail;refine(h.out w).mono ?_;rintro e m ⟨rfl,rfl⟩;go_wp2_with fail;refine wp_loop_rounds 1 ?_;rw [rounds_succ];go_wp2_with fail;go_end0;exact⟨rfl,rfl⟩
theorem xD(d m:Value)(n:Nat)(a:Option Addr)(cap:Nat)(o:d=.slice a n cap)(w:World)(Q:Ending->World->Prop)
  (h:Calls Tryz.prog 315 #[.slice a n cap,N n,m] w fun e w'=>e=.returned (.tuple #[])/\Q e w') :
  Calls Tryz.prog 290 #[d,m] w fun e w'=>e=.returned (.tuple #[])/\Q e w':=by
 subst o;have H:=ad h;clear h;go_enter Tryz.func290, Tryz.ntmps290;go_wp2_with fail;refine H.out.mono ?_;rintro e y ⟨rfl,q⟩;go_wp2_with fail;go_end0;exact⟨rfl,q⟩
theorem zi(l:List Nat):(List.range l.length).map (fun p=>l.getD p 0)=l:=by
 apply pT;intro i;by_cases h:i<l.length;· simp [h]
 · rw [gJ (by simp;omega),gJ (by omega)]
theorem tg(f:Nat->Nat)(n:Nat):eK f 0 n=(List.range n).map f:=by
 unfold eK;exact iT fun i _=>by rw [js]
theorem Cb(v:Value)(d:List Nat)(w:World)(V:af w eV v d)(hn:d.length<=1000000) :
  Calls Tryz.prog 255 #[v] w fun e w'=>∃ v',e=.returned v'/\Ow w' w.heap.size eJ v' (cE d)/\Fr w w':=by
 obtain⟨a,cap,rfl,b2,a4,b3⟩:=V.shape;unfold maxLen at a4;have G:Fr w (w.alloc (.cells #[Value.slice a d.length cap] 195)):=(Fr.refl w).alloc _;have X:(w.alloc (.cells #[Value.slice a d.length cap] 195)).heap[w.heap.size]? = some (.cells #[Value.slice a d.length cap] 195 (0,0)):=au _ _ _ rfl;have Y:(w.alloc (.cells #[Value.slice a d.length cap] 195)).heap.size=w.heap.size+1:=by simp
 have c0:(w.alloc (.cells #[Value.slice a d.length cap] 195)).cell? ⟨w.heap.size,0,none⟩=some (Value.slice a d.length cap):=by rw [aL X];rfl
 have Z:=V.fr G;have b5:=ad Y;clear Y;go_enter Tryz.func255, Tryz.ntmps255;go_wp2_with fail;generalize w.alloc (.cells #[Value.slice a d.length cap] 195)=I at *;go_loopw [3,8] (fun ov O wr=>∃ k:Nat,k<=d.length/\O=N k/\Ow wr I.heap.size eJ ov (iX d k)/\Hid (iX d k=[]->ov=.slice none 0 0)/\Fr I wr) (fun _ O _=>d.length - (intOf O).toNat);case atStart=>exact⟨0,ap _,rfl,Ow.nil,fun _=>rfl,Fr.refl _⟩
 case round=>
  obtain⟨k,hk,rfl,z,A,y⟩:=hrel;by_cases ab:k<d.length
  · obtain⟨b,bA,bB,hv,c1⟩:=o4 (Z.fr y) k ab;have J:=ad (wZ d k ab);have a6:=xd d k;generalize d[k]=x at *;generalize iX d k=m at *;cases hv;have i1:(0:Int)<=k:=(by omega);have i2:(k:Int)<d.length:=(by omega);by_cases hx:0<x
    · have a7:(0:Int)<x:=(by omega);have D:Hid (iX d (k+1)=m++[k]):=(by show _=_;rw [J.out,ai hx]);clear J;go_wp2_with (at_builtin;refine aM eJ rfl (.tmp 15) (.tmp 17) 57 rfl Tryz.underlying57 I.heap.size rfl z [k] _ _ _ rfl rfl rfl (by simp;omega) y.size ?_);intro v' w4 aj;go_wp2_with fail;go_roundw;case rel=>exact⟨k+1,by omega,by go_num,by rw [D.out];exact aj.own,fun e=>by rw [D.out]at e;simp at e,aj.below z y (ag _) y.size⟩
      case measure=>simp [intOf];omega
    · have a7:¬(0:Int)<x:=(by omega);have D:Hid (iX d (k+1)=m):=(by show _=_;rw [J.out,ah hx]);clear J;go_wp2_with fail;go_roundw;case rel=>exact⟨k+1,by omega,by go_num,by rw [D.out];exact z,fun e=>A.out (by rw [D.out]at e;exact e),y⟩
      case measure=>simp [intOf];omega
  · obtain rfl:k=d.length:=(by omega);have cc:¬((d.length:Int)<d.length):=(by omega);have ba:iX d d.length=iW d:=rfl;rw [ba]at z A;have a6:=wY d;have R:Fr w wr:=G.trans y;by_cases T:iW d=[];· have hu:Hid (cE d=[]):=(by show _=_;unfold cE;rw [T];rfl);have U:=A.out T;subst U;have bc:∀ (F:Fn) (first cap:Array Value) (w:World),(Instr.makeFunc F first cap).run Tryz.prog w=.ok (.func F first cap) w:=fun _ _ _ _=>rfl;have K:=ad (fun L W=>xD (.slice none 0 0) L 0 none 0 rfl W (fun _ w'=>W=w') (Dh L W));clear A;go_wp2_with fail;refine(K.out _ _).mono ?_;rintro e w1 ⟨rfl,rfl⟩;go_wp2_with fail;go_ret;exact⟨_,rfl,by rw [hu.out];exact Ow.nil,R⟩
    · obtain⟨g,M,U,av,cf,ch,cj⟩:=z.atHead T;have HU:=ad (qr d);have bf:=ad (sV d);have bc:∀ (F:Fn) (first cap:Array Value) (w:World),(Instr.makeFunc F first cap).run Tryz.prog w=.ok (.func F first cap) w:=fun _ _ _ _=>rfl;have bk:Hid (cE d=o6 (fun s=>d.getD s 0) (iW d)):=rfl;generalize iW d=o at *;subst U;have hD:DJ wr g o.length M (fun p=>o.getD p 0):=(by unfold DJ;rw [zi];exact z.rebase (ap _));have a1:=Ci w.heap.size g (.slice a d.length cap) d I (by first | exact X | assumption) Z av;have a2 := ad (Di a1 o.length M (fun p => o.getD p 0) wr hD y (by omega) (fun p h => by
       rw [cD, bo h]; exact bf.out _ (aH h)) (fun p q h1 h2 => by
       rw [cD, bo (by omega), cD, bo h2]
       exact pR.1 HU.out p q (by omega) h2 h1))
      have K:=ad (fun L Q h=>xD (.slice (some ⟨g,0,none⟩) o.length M) L o.length _ M rfl wr Q h);have bt:=ad (K.out _ _ a2.out);clear A K a2 a1;go_wp2_with fail;refine bt.out.mono ?_;rintro e w1 ⟨rfl,f',bu,bv,bx,bz⟩;go_wp2_with fail;go_ret;have hE:(List.range o.length).map f'=cE d:=by
       rw [bk.out];refine Ch _ o _ HU.out ?_ ?_;· have:=bv.2;rw [tg,tg,zi]at this;exact this
       · have:=bx.list;rw [tg]at this;exact this
      refine⟨_,rfl,?_,ak.below R bz R.size (fun i hi=>by have:=G.size;omega)⟩;rw [<- hE];exact(Ow.up bu av).rebase G.size
end Go.Proofs.YtdamnfpigajmoaaGreatDoor
