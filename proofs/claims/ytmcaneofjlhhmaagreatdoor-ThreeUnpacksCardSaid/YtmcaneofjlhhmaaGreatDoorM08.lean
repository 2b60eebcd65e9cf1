/- Lemmas. -/
import Derived.Test.YtmcaneofjlhhmaaGreatDoorM03
import Derived.Test.YtmcaneofjlhhmaaGreatDoorM06
import Derived.Test.YtmcaneofjlhhmaaGreatDoorM32
set_option linter.all false
set_option maxHeartbeats 8000000
set_option maxRecDepth 100000
namespace Go.Fk
abbrev eA:=@Nat.sub_self
abbrev il:=@Nat.div_le_self
abbrev jl:=@List.nil_append
abbrev lQ:=@List.drop_take
abbrev np:=@Nat.not_lt_zero
abbrev vk:=@Int.tmod_eq_emod_of_nonneg
abbrev pG:=@Go.Calls.quiet_of
abbrev qW:=@Bool.eq_iff_iff
abbrev sK:=@List.ext_getElem?
abbrev pI:=@Go.Addr.mk.injEq
abbrev no:=@bne_iff_ne
abbrev lj:=@and_true
abbrev uX:=@List.mem_iff_getElem
abbrev uW:=@List.replicate_zero
abbrev F9:=@Nat.and_two_pow_sub_one_eq_mod
end Go.Fk
namespace Go.Proofs
open RowKit Fk Tryz
def JN:iF 256 (λy=>(y ||| 128) == 128+y%128)=true:=by decide +kernel
def JM(x:Nat):bits .or .u8 ((x:Int)%256) 128=((UInt8.ofNat (128+x%128)).toNat:Int):=by
 have h:(x%256) ||| 128=128+(x%256)%128:=beq_iff_eq.1 (iR 256 _ JN (x%256) ω);rw[show(x:Int)%256=((x%256:Nat):Int) by omega,show(128:Int)=((128:Nat):Int)from rfl,JJ (x%256) 128 ω ω,h,lk];omega
def mo(x:Nat)(h:x<256):(#[Value.int .u8 (x:Int)]:Array Value).toList=eB.cells [UInt8.ofNat x]:=by
 have e:(x:Int)=((UInt8.ofNat x).toNat:Int):=by rw[lk];omega
 rw[e];rfl
def Fl(x:Nat)(A:x<18446744073709551616)(w:World):Calls prog 97 #[.int .u64 (x:Int)] w λe w'=>∃v,e=.returned v/\Ow w' w.heap.size eB v (bE x)/\Fr w w':=by
 have D:=lH x A;generalize F:bE x=R at *;have J:=ad D;go_in;go_wp2;go_loopw [0,3] (λp K wr=>∃(y:Nat) (o:U0),p=.int .u64 (y:Int)/\y<18446744073709551616/\Ow wr w.heap.size eB K o/\Hid (R=o++bE y)/\Fr w wr) (λp _ _=>(intOf p).toNat);·exact⟨x,[],rfl,A,Ow.nil,by show _=_;rw[F];rfl,Fr.refl w⟩
 ·
  obtain⟨y,o,rfl,Q,m,q,d⟩:=hrel;have U:o.length<=10:=(by have L:=J.out;rw[q.out,aM]at L;omega);have G:o.length+1<=2147483648:=ω;clear D F;by_cases I:y<128;·have z:Hid (R=o++[UInt8.ofNat y]):=ad (by rw[q.out,xk y I]);have M:=ad (mo y ω);have O:¬(128:Int)<=y:=ω;generalize UInt8.ofNat y=c at *;go_wp2_with (at_builtin;refine bA eB rfl (.tmp 14) (.tmp 17) 22 rfl sJ w.heap.size rfl m [c] _ _ _ M.out rfl rfl G d.size ?_);intro v' w4 h;go_wp2;go_ret;exact⟨_,rfl,by rw[z.out];exact h.own,h.below m d (au _) d.size⟩
  ·have z:Hid (R=o++[UInt8.ofNat (128+y%128)]++bE (y / 128)):=(by show _=_;rw[q.out,Cj y I];simp);have V:=JM y;have O:(128:Int)<=y:=ω;generalize UInt8.ofNat (128+y%128)=c at *;go_wp2_with (at_builtin;refine bA eB rfl (.tmp 6) (.tmp 10) 22 rfl sJ w.heap.size rfl m [c] _ _ _ rfl rfl rfl G d.size ?_);intro v' w4 h;go_wp2;go_roundw;·exact⟨y / 128,o++[c],γ,ω,h.own,z,h.below m d (au _) d.size⟩
   ·exact μ
def s9(v:Value)(h:List Hd)(d:List U0)(w:World)(m:cV w aS eB v h d)(o:d.flatten.length<=1000000):Calls prog 46 #[v] w λe w'=>∃v,e=.returned v/\Ow w' w.heap.size eB v d.flatten/\Fr w w':=by
 obtain⟨a,D,p,_⟩:=m.1.shape;have q:=ad (F6 v h d w m o);subst p;go_in;go_wp2_with fail;refine q.out.mono ?_;rintro e F ⟨G,rfl,z,A⟩;go_wp2;go_ret;exact⟨_,rfl,z,A⟩
def AO(x i:Nat):((x:Int) / 2^(8*i))=((x / 256^i:Nat):Int):=by
 rw[show(256:Nat)^i=2^(8*i) by rw[Nat.pow_mul]];simp
def uK(x n:Nat)(hn:1<=n)(ah:n<=7)(G:x<256^n)(ai:x<18446744073709551616)(w:World):Calls prog 45 #[.int .u64 (x:Int),N n] w λe w'=>∃v,e=.returned (.tuple #[v,.int .i64 0])/\Ow w' w.heap.size eB v (eH n x)/\Fr w w':=by
 have O:¬(n:Int)<1:=ω
 have q:¬(8:Int)<n:=ω
 have Q:(n:Int)<8:=ω
 have U:(x:Int) / 2^(8*n)=0:=by rw[AO,oh G];rfl
 have V:=mS eB rfl rfl 22 sJ .i64 .i64 n ω;have I:∀W:World,Ow (W.alloc (.cells (madeCells #[eB.z] n) eB.e)) W.heap.size eB (.slice (some ⟨W.heap.size,0,none⟩) n n) (List.replicate n 0):=λW=>nN eB rfl rfl n ω W (au _);generalize z:eH n x=R;have d:Hid (R.length=n):=by show _=_;rw[<- z,oZ]
 have X:Hid (∀i (h:i<n) (q:i<R.length),R[i]=UInt8.ofNat (x / 256^i%256)):=by intro i h q;subst z;exact LU n x i h
 have Y:=ad I;clear G z I;go_in;go_wp2_with fail;have J:=Y.out w;have K:Fr w (w.alloc (.cells (madeCells #[eB.z] n) eB.e)):=(Fr.refl w).alloc _;generalize w.alloc (.cells (madeCells #[eB.z] n) eB.e)=w0 at *;generalize D:w.heap.size=g at *;clear O q Q U V;go_loopw [29] (λF wr=>∃i:Nat,i<=n/\F=N i/\Ow wr g eB (.slice (some ⟨g,0,none⟩) n n) (R.take i++List.replicate (n-i) 0)/\Below g w wr) (λF _=>n-(intOf F).toNat);·exact⟨0,ax _,rfl,J,by rw[<- D];exact K⟩
 ·
  obtain⟨i,Z,rfl,m,o⟩:=hrel;clear J K;by_cases p:i<n
  ·have ak:(i:Int)<n:=ω;have al:(0:Int)<=i:=ω;have L:(R.take i++List.replicate (n-i) (0:UInt8)).length=n:=ug R 0 n i d.out Z;obtain⟨c0,c1⟩:=m.cellAt Fk.u8 rfl i (by rw[L];exact p);have HR:Hid ((R.take i++List.replicate (n-i) (0:UInt8)).set i (UInt8.ofNat (x / 256^i%256))=R.take (i+1)++List.replicate (n-(i+1)) 0):=(by exact uf R 0 n i d.out p _ (X.out i p (by have:=d.out;omega)));have M:=m.set Fk.u8 rfl i (by rw[L];exact p) (UInt8.ofNat (x / 256^i%256)) (.int .u8 ((x / 256^i%256:Nat):Int)) (by show Value.int .u8 _=_;rw[lk];congr 1;omega);rw[HR.out]at M;have av:((x:Int) / 2^(8*i))%256=((x / 256^i%256:Nat):Int):=(by rw[AO];omega);have ab:=eP o (au g) (by rw[<- D];exact(Below.size o)) (i:=i) (u:=.int .u8 ((x / 256^i%256:Nat):Int));go_wp2;go_roundw;·exact⟨i+1,ω,γ,M,ab⟩
   ·exact μ
  ·obtain rfl:i=n:=ω;have az:¬((i:Int)<i):=ω;rw[eA,uW,iJ,dN (by have:=d.out;omega)]at m;go_wp2_with fail;exact aT (by simp[results,results45,go_sem, *]) rfl ⟨_,rfl,m,by rw[<- D]at o;exact o⟩
def dm(w:World):Prop:=∀i,i<16->w.cell? ⟨0,i,none⟩=some (.int .u32 ((jp i:Nat):Int))
def dm.fr{w w':World}(h:dm w)(d:Fr w w'):dm w':=λi e=>d.cell (h i e)
abbrev U4(n:Nat):Value:=.int .u32 (n:Int)
def EA(x:Nat)(h:x<4294967296):bits .and .u32 (x:Int) 15=((x%16:Nat):Int):=by
 have:=Ox x 15 h ω;have e:=F9 x 4;rw[e]at this;exact this
def Cl(x:Nat)(h:x<4294967296):bits .xor .u32 IntKind.u32.max (x:Int)=((4294967295-x:Nat):Int):=by
 have e:=zK 32 x h;rw[Nat.xor_comm]at e;have:=pK 4294967295 x ω h;rw[show(4294967295:Nat) ^^^ x=4294967295-x from e]at this;exact this
def Qu(x:Nat)(hx:x<4294967296)(v:Value)(A:List Hd)(d:List U0)(w:World)(F:cV w aS eB v A d)(M:dm w):Calls prog 159 #[U4 x,v] w λe w'=>e=.returned (U4 (4294967295-ei (4294967295-x) d.flatten))/\w=w':=by
 obtain⟨a,a6,a7,a8,ac,a9⟩:=F.1.shape;unfold maxLen at ac;have aC:=Cl x hx;have O:=ad F.2.1;go_in;go_wp2_with fail;go_loop [5,14] (λI J=>∃k:Nat,k<=A.length/\J=N k/\I=U4 (ei (4294967295-x) (d.take k).flatten)) (λ_ J=>A.length-(intOf J).toNat);·exact⟨0,ax _,rfl,rfl⟩
 ·
  obtain⟨k,hk,rfl,rfl⟩:=hrel;have K:ei (4294967295-x) (d.take k).flatten<4294967296:=yp _ _ ω;by_cases Q:k<A.length
  ·obtain⟨b,bb,bc,ah,e0⟩:=F.1.cell1 (λ(h:Hd)=>h.v) rfl k Q;have R:k<d.length:=(by have:=O.out;omega);have G:=F.2.2 k Q R;have HF:Hid (ei (4294967295-x) (d.take (k+1)).flatten=ei (ei (4294967295-x) (d.take k).flatten) d[k]):=ad (by rw[oY d k R,MU]);obtain⟨a2,c2,hh,_⟩:=G.shape;generalize A[k]=h at *;generalize d[k]=p at *;generalize ei (4294967295-x) (d.take k).flatten=Y at *;obtain⟨ha,al,bf⟩:=h;obtain⟨rfl,rfl,rfl⟩:=hh;simp only[Hd.v]at e0 G;cases ah;have q:(0:Int)<=k:=ω;have D:(k:Int)<A.length:=ω;have am:=G.le;unfold maxLen at am;go_wp2_with fail;go_loop [5,20] (λI L=>∃j:Nat,j<=p.length/\L=N j/\I=U4 (ei Y (p.take j))) (λ_ L=>p.length-(intOf L).toNat);·exact⟨0,ax _,rfl,rfl⟩
   ·
    obtain⟨j,hj,rfl,rfl⟩:=hrel;have U:ei Y (p.take j)<4294967296:=yp _ _ K;by_cases V:j<p.length
    ·obtain⟨b2,bm,bq,ap,g0⟩:=G.cell1 (λc=>Fk.u8 c) rfl j V;have HZ:Hid (ei Y (p.take (j+1))=qm (ei Y (p.take j)) p[j].toNat):=DS Y p j V;generalize p[j]=c at *;generalize ei Y (p.take j)=z at *;cases ap;have bt:=c.toNat_lt;have k1:=pK z c.toNat U ω;have az:z ^^^ c.toNat<2^32:=ix U ω;have HB:=ad (NB z c.toNat);generalize z ^^^ c.toNat=m at *;have k2:=EA m az;have W:m%16<16:=ω;generalize m%16=q at *;have t1:=M q W;have X:=An q W;have k3:bits .xor .u32 ((m:Int) / 16) ((jp q:Nat):Int)=(((m / 16) ^^^ jp q:Nat):Int):=(by rw[show(m:Int) / 16=((m / 16:Nat):Int) by omega];exact pK (m / 16) (jp q) ω X);have a1:(m / 16) ^^^ jp q<2^32:=ix ω X;generalize (m / 16) ^^^ jp q=o at *;have k4:=EA o a1;have Z:o%16<16:=ω;generalize o%16=D at *;have t2:=M D Z;have a3:=An D Z;have k5:bits .xor .u32 ((o:Int) / 16) ((jp D:Nat):Int)=(((o / 16) ^^^ jp D:Nat):Int):=(by rw[show(o:Int) / 16=((o / 16:Nat):Int) by omega];exact pK (o / 16) (jp D) ω a3);have HE:Hid (ei Y (p.take (j+1))=o / 16 ^^^ jp D):=ad (by rw[HZ.out,HB.out]);go_wp2_with fail;go_round;·exact⟨j+1,ω,γ,by rw[HE.out]⟩
     ·exact μ
    ·obtain rfl:j=p.length:=ω;have b4:¬((p.length:Int)<p.length):=ω;rw[dP,<- HF.out];go_wp2_with fail;go_round;·exact⟨k+1,ω,γ,rfl⟩
     ·exact μ
  ·obtain rfl:k=A.length:=ω;rw[dN (by have:=O.out;omega)]at K ⊢;have al:=Cl _ K;generalize aa:ei (4294967295-x) d.flatten=Y at *;have HY:=ad aa;clear aa;go_wp2;go_ret;exact⟨by rw[HY.out];rfl,rfl⟩
def JV(w:World)(v:Value)(r:Hd)(p:U0)(f:v=r.v)(h:ao w eB v p)(d:Array Value)(m:d=#[v]):cV (w.alloc (.cells d 22)) aS eB (.slice (some ⟨w.heap.size,0,none⟩) 1 1) [r] [p]:=by
 subst f m;refine⟨lV aS w [r] _ _ 1 rfl rfl (by simp[maxLen]),rfl,λi e o=>?_⟩;have:i=0:=by simp at e;exact e
 subst this;exact h.fr ((Fr.refl w).alloc _)
def EL(v:Value)(p:U0)(w:World)(d:ao w eB v p)(m:dm w):Calls prog 100 #[v] w λe w'=>e=.returned (U4 (gH p))/\Fr w w':=by
 obtain⟨a,o,h,_⟩:=d.shape;have q:=JV w v ⟨a,p.length,o⟩ p h d #[v] rfl;subst h;have z:=ad (Qu 0 ω _ _ _ _ q (m.fr ((Fr.refl w).alloc _)));have A:Hid (4294967295-ei (4294967295-0) [p].flatten=gH p):=by show _=_;unfold gH;simp
 generalize 4294967295-ei (4294967295-0) [p].flatten=Y at *;go_in;go_wp2_with fail;refine z.out.mono ?_;rintro e D ⟨rfl,rfl⟩;go_wp2;go_ret;exact⟨by rw[<- A.out];rfl,(Fr.refl w).alloc _⟩
def kS(s:Nat):U0:=[UInt8.ofNat (s%256),UInt8.ofNat (s / 256%256),UInt8.ofNat (s / 65536%256),UInt8.ofNat (s / 16777216%256)]
def Al(s:Nat)(m:s<4294967296)(w:World):Calls prog 99 #[U4 s] w λe w'=>∃v,e=.returned v/\Ow w' w.heap.size eB v (kS s)/\Fr w w':=by
 have d:∀W:World,Ow (W.alloc (.cells #[.int .u8 ((s:Int)%256),.int .u8 ((s:Int) / 256%256),.int .u8 ((s:Int) / 65536%256),.int .u8 ((s:Int) / 16777216)] 5)) W.heap.size eB (.slice (some ⟨W.heap.size,0,none⟩) 4 4) (kS s):=by intro W;refine md eB W _ (kS s) 4 rfl (by simp[maxLen,kS]) (au _) ?_;rw[show(s:Int)%256=((s%256:Nat):Int) by omega,show(s:Int) / 256%256=((s / 256%256:Nat):Int) by omega,show(s:Int) / 65536%256=((s / 65536%256:Nat):Int) by omega,show(s:Int) / 16777216=((s / 16777216%256:Nat):Int) by omega];rw[qk _ ω,qk _ ω,qk _ ω,qk _ ω];rfl
 have h:=ad (d w);go_in;go_wp2;go_ret;exact⟨_,rfl,h.out,(Fr.refl w).alloc _⟩
def zk(v:Value)(p:U0)(w:World)(d:ao w eB v p)(F:p.length<=1000000)(G:dm w):Calls prog 41 #[v] w λe w'=>∃v',e=.returned v'/\Ow w' w.heap.size eB v' (bD p)/\Fr w w':=by
 obtain⟨a,V,I,_⟩:=d.shape;have J:=ad (λW (h:ao W eB v p)=>jY v p W h F);have K:=ad (λW (h:ao W eB v p) (L:dm W)=>EL v p W h L);have M:=ad (Al (gH p) (vQ p));have O:Hid (bD p=p++kS (gH p)):=rfl;generalize gH p=s at *;subst I;go_in;go_wp2_with fail;refine(J.out _ d).mono ?_;rintro e X ⟨Y,rfl,Q,m⟩;go_wp2_with fail;refine(K.out _ (d.fr m) (G.fr m)).mono ?_;rintro e Z ⟨rfl,q⟩;go_wp2_with fail;refine(M.out _).mono ?_;rintro e w3 ⟨v3,rfl,R,z⟩;have A:=Q.fr (q.trans z);have o:=(m.trans q).trans z;have U:p.length+(kS s).length<=2147483648:=by show _+4<=_;omega
 go_wp2_with (at_builtin;refine fT eB rfl (.tmp 4) (.tmp 7) 22 rfl sJ w.heap.size rfl A _ _ rfl R.see U o.size ?_);intro v4 w4 D;go_wp2;go_ret;exact⟨_,rfl,by rw[O.out];exact D.own,D.below A o (au _) o.size⟩
def Qd(x:Nat)(m:x<4294967296)(w:World):Calls prog 238 #[U4 x] w λe w'=>e=.returned (U4 (dK x))/\w=w':=by
 by_cases h:x%2=1;·have d:Hid (dK x=(x / 2) ^^^ 3988292384):=(by show _=_;unfold dK;rw[an h]);have o:(x:Int)%2=1:=ω;have p:bits .xor .u32 ((x:Int) / 2) 3988292384=(((x / 2) ^^^ 3988292384:Nat):Int):=(by rw[show(x:Int) / 2=((x / 2:Nat):Int) by omega];exact pK (x / 2) 3988292384 ω ω);go_in;go_wp2;go_ret;exact⟨by rw[d.out];rfl,rfl⟩
 ·have d:Hid (dK x=x / 2):=(by show _=_;unfold dK;rw[ae h]);go_in;go_wp2;go_ret;exact⟨by rw[d.out];go_num,rfl⟩
def sj:Nat->Nat->Nat
 | 0,x=>x
 | n+1,x=>dK (sj n x)
def NT(n x:Nat)(h:x<4294967296):sj n x<4294967296:=by
 induction n with
 | zero=>exact h
 | succ n d=>exact kD _ d
def PD(x:Nat)(U:x<4294967296)(v:Value)(p:U0)(w:World)(A:ao w eB v p):Calls prog 175 #[U4 x,v] w λe w'=>e=.returned (U4 (4294967295-ei (4294967295-x) p))/\w=w':=by
 obtain⟨a,V,W,X,G,Z⟩:=A.shape;unfold maxLen at G;have I:(4294967295:Int)-x=((4294967295-x:Nat):Int):=ω
 have J:=ad I;go_in;go_wp2_with fail;go_loop [5,6] (λd h=>∃k:Nat,k<=p.length/\h=N k/\d=U4 (ei (4294967295-x) (p.take k))) (λ_ h=>p.length-(intOf h).toNat);·exact⟨0,ax _,rfl,by first | rfl | (rw[J.out];rfl)⟩
 ·
  obtain⟨k,hk,rfl,rfl⟩:=hrel;have m:ei (4294967295-x) (p.take k)<4294967296:=yp _ _ ω;by_cases D:k<p.length
  ·obtain⟨b,ab,ac,K,e0⟩:=A.cell1 (λc=>Fk.u8 c) rfl k D;have L:Hid (ei (4294967295-x) (p.take (k+1))=sj 8 (ei (4294967295-x) (p.take k) ^^^ p[k].toNat)):=DS _ p k D;generalize p[k]=c at *;generalize ei (4294967295-x) (p.take k)=z at *;cases K;have ai:=c.toNat_lt;have k1:=pK z c.toNat m ω;have M:z ^^^ c.toNat<2^32:=ix m ω;generalize z ^^^ c.toNat=o at *;go_wp2_with fail;go_loop [5,7] (λd q=>∃j:Nat,j<=8/\q=N j/\d=U4 (sj j o)) (λ_ q=>8-(intOf q).toNat);·exact⟨0,ω,rfl,rfl⟩
   ·
    obtain⟨j,hj,rfl,rfl⟩:=hrel;by_cases al:j<8
    ·have O:=ad (Qd (sj j o) (NT j o M));go_wp2_with fail;refine(O.out _).mono ?_;rintro e w1 ⟨rfl,rfl⟩;go_wp2_with fail;go_round;·exact⟨j+1,ω,γ,rfl⟩
     ·exact μ
    ·obtain rfl:j=8:=ω;rw[<- L.out];go_wp2_with fail;go_round;·exact⟨k+1,ω,γ,rfl⟩
     ·exact μ
  ·obtain rfl:k=p.length:=ω;rw[dP]at m ⊢;generalize F:ei (4294967295-x) p=Y at *;have Q:=ad F;clear F;have R:Hid ((4294967295:Int)-Y=((4294967295-Y:Nat):Int)):=(by show _=_;omega);go_wp2;go_ret;exact⟨by rw[Q.out];first | rfl | (show Ending.returned (.int .u32 _)=_;rw[R.out]),rfl⟩
def OZ(v:Value)(p:U0)(w:World)(d:ao w eB v p):Calls prog 115 #[v] w λe w'=>e=.returned (U4 (gH p))/\w=w':=by
 obtain⟨a,q,h,_⟩:=d.shape;have m:=ad (PD 0 ω v p w d);have o:Hid (4294967295-ei (4294967295-0) p=gH p):=rfl;subst h;go_in;go_wp2_with fail;refine m.out.mono ?_;rintro e z ⟨rfl,rfl⟩;go_wp2;go_ret;exact⟨by rw[<- o.out];rfl,rfl⟩
def Hc(s:Nat):kS s=eH 4 s:=by
 simp only[kS,eH,sF]
def Pj(v:Value)(p:U0)(w:World)(m:ao w eB v p)(Z:p.length<=1000000):Calls prog 54 #[v] w λe w'=>∃v',e=.returned v'/\Ow w' w.heap.size eB v' (bD p)/\Fr w w':=by
 obtain⟨a,aa,G,_⟩:=m.shape;have I:=ad (OZ v p w m);have J:Hid (bD p=p++eH 4 (gH p)):=by show _=_;rw[<- Hc];rfl
 have K:=vQ p;generalize gH p=s at *;subst G;have D:=md eB w #[] [] 0 rfl (by simp[maxLen]) (au _);have L:=m.fr ((Fr.refl w).alloc (.cells #[] 5));have M:([]:U0).length+p.length<=2147483648:=by simp;omega
 go_in;go_wp2_with fail;refine I.out.mono ?_;rintro e w1 ⟨rfl,rfl⟩;go_wp2_with (at_builtin;refine fT eB rfl (.tmp 8) (.tmp 9) 22 rfl sJ w.heap.size rfl D _ _ rfl L M σ ?_);intro v2 w2 d;have O:=d.below D ((Fr.refl w).alloc _) (au _) σ;have Q:=d.own;go_wp2;go_loopw [3,4,5] (λR U q wr=>∃(i y:Nat) (o:U0),i<=4/\q=N i/\R=U4 y/\y<4294967296/\Ow wr w.heap.size eB U o/\o.length=p.length+i/\Hid (bD p=o++eH (4-i) y)/\Fr w wr) (λ_ _ q _=>4-(intOf q).toNat);·exact⟨0,s,p,ω,rfl,rfl,K,Q,rfl,J.out,O⟩
 ·
  obtain⟨i,y,o,hi,rfl,rfl,hy,z,V,F,h⟩:=hrel;by_cases ak:i<4
  ·have W:4-i=(4-(i+1))+1:=ω;have A:Hid (bD p=o++[UInt8.ofNat (y%256)]++eH (4-(i+1)) (y / 256)):=(by show _=_;rw[F.out,W,eH];simp);have X:Hid ((#[Value.int .u8 ((y:Int)%256)]:Array Value).toList=eB.cells [UInt8.ofNat (y%256)]):=(by have:=mo (y%256) ω;exact this);have Y:o.length+1<=2147483648:=ω;generalize UInt8.ofNat (y%256)=c at *;go_wp2_with (at_builtin;refine bA eB rfl (.tmp 15) (.tmp 19) 22 rfl sJ w.heap.size rfl z [c] _ _ _ X.out rfl rfl Y h.size ?_);intro v' w4 d;go_wp2;go_roundw;·exact⟨i+1,y / 256,o++[c],ω,γ,γ,ω,d.own,by rw[aM,V];rfl,A,d.below z h (au _) h.size⟩
   ·exact μ
  ·obtain rfl:i=4:=ω;have A:Hid (bD p=o):=ad (by rw[F.out,eA,eH,iJ]);go_wp2;go_ret;exact⟨_,rfl,by rw[A.out];exact z,h⟩
def mX(v:Value)(l:U0)(w:World)(h:ao w eB v l):(convert 22 9 v).run prog w=.ok (S l) w:=
 vX eB w 22 9 sJ (by kernel_rfl) uAI rfl rfl h
def ze(d h:Value)(a b:U0)(w:World)(m:ao w eB d a)(o:ao w eB h b):Calls prog 9 #[d,h] w λe w'=>e=.returned (.bool (decide (a=b)))/\w=w':=by
 have A:=mX d a w m;have D:=mX h b w o;obtain⟨F,G,p,_⟩:=m.shape;obtain⟨I,J,z,_⟩:=o.shape;subst p z;clear m o;have K:(a == b)=decide (a=b):=by rw[qW];simp
 generalize decide (a=b)=q at *;go_in;go_wp2;go_ret;exact⟨rfl,rfl⟩
def zp(A D:Value)(a b:U0)(w:World)(F:ao w eB A a)(G:ao w eB D b):Calls prog 59 #[A,D] w λe w'=>e=.returned (.bool (decide (a=b)))/\Fr w w':=by
 obtain⟨aa,ca,X,a1,Y,_⟩:=F.shape;obtain⟨ab,cb,Z,ac,ah,_⟩:=G.shape;subst X Z;unfold maxLen at Y ah;generalize I:decide (a=b)=R;have q:=ad I;clear I;go_in;by_cases o:a.length=b.length
 ·have J:=ad o;rw[<- o];clear o ac;go_wp2;go_loopw [13] (λz wr=>∃i:Nat,i<=a.length/\z=N i/\Hid (∀j,j<i->a[j]?=b[j]?)/\Fr w wr) (λz _=>a.length-(intOf z).toNat);·exact⟨0,ax _,rfl,λj h=>absurd h (np j),Fr.refl w⟩
  ·
   obtain⟨i,hi,rfl,K,d⟩:=hrel;by_cases L:i<a.length
   ·have M:i<b.length:=(by have:=J.out;omega);obtain⟨b1,aj,a5,ak,O⟩:=(F.fr d).cell1 Fk.u8 rfl i L;obtain⟨b2,am,a6,ap,Q⟩:=(G.fr d).cell1 Fk.u8 rfl i M;have U:Hid (a[i]?=some a[i]):=cQ L;have V:Hid (b[i]?=some b[i]):=cQ M;generalize a[i]=x at *;generalize b[i]=y at *;have d1:wr.cell? ⟨b1,aj+i,none⟩=some (.int .u8 (x.toNat:Int)):=O;have d2:wr.cell? ⟨b2,am+i,none⟩=some (.int .u8 (y.toNat:Int)):=Q;clear O Q;cases ak;cases ap;have i1:(0:Int)<=i:=ω;have i2:(i:Int)<a.length:=ω;by_cases p:x=y
    ·subst p;go_wp2;go_quiet (fail);go_wp2;go_roundw
     case rel => exact ⟨i + 1, by omega, by go_num, fun j hj => by
       by_cases e : j = i;·subst e; rw[U.out, V.out]
       · exact K.out j ω, d.drewN _⟩
     ·exact μ
    ·have hn:¬(x.toNat:Int)=y.toNat:=λe=>p (fO.1 ω);have m:Hid (R=false):=(by show _=_;rw[<- q.out];refine bw λe=>p ?_;have W:=U.out;rw[e,V.out]at W;exact(lM W).symm);clear p;go_wp2;go_quiet (fail);go_wp2;go_ret;exact⟨by rw[m.out];rfl,d.drewN _⟩
   ·have m:Hid (R=true):=by
      show _=_;rw[<- q.out];refine bz (sK λj=>?_);by_cases hj:j<a.length;·exact K.out j ω
      ·rw[jH ω,jH (by have:=J.out;omega)]
    obtain rfl:i=a.length:=ω;have bb:¬((a.length:Int)<a.length):=ω;go_wp2;go_ret;exact⟨by rw[m.out];rfl,d⟩
 ·have m:Hid (R=false):=(by show _=_;rw[<- q.out];exact bw λe=>o (by rw[e]));rw[m.out];have bc:¬(a.length:Int)=b.length:=ω;go_wp2;go_ret;exact⟨rfl,Fr.refl w⟩
def JX(l:U0)(h:4<=l.length):bQ l=decide (l.drop (l.length-4)=kS (gH (l.take (l.length-4)))):=by
 have e:bD (l.take (l.length-4))=l.take (l.length-4)++kS (gH (l.take (l.length-4))):=rfl;unfold bQ;rw[bz h,qV,e];generalize kS (gH (l.take (l.length-4)))=t;rw[qW,iU,iU];constructor;·intro d;have:=iG (List.drop (l.length-4)) d;rw[List.drop_append_of_le_length (by rw[aP];omega),qQ (by rw[aP];omega),jl]at this;exact this.symm
 ·intro d;rw[<- d,jC]
def qC(v:Value)(l:U0)(w:World)(p:ao w eB v l)(hn:l.length<=1000000)(ht:dm w):Calls prog 65 #[v] w λe w'=>∃u,e=.returned (.tuple #[u,.int .i64 (cM l:Int)])/\Ow w' w.heap.size eB u (aY l)/\Fr w w':=by
 obtain⟨a0,ap,rfl,av,ab,_⟩:=p.shape;unfold maxLen at ab;by_cases L:l.length<4;·have A:bQ l=false:=(by unfold bQ;rw[bw ω,Bool.false_and]);have d:Hid (cM l=1):=(by show _=_;unfold cM;rw[A];simp[L]);have o:Hid (aY l=[]):=(by show _=_;unfold aY;rw[A];simp);rw[o.out];have hw:=aA ((l.length:Int)-4) ω;have az:(l.length:Int)-4<0:=ω;rw[d.out];clear A d o;go_in;go_wp2;go_ret2;exact⟨_,rfl,Ow.nil,Fr.refl w⟩
 ·obtain⟨n,D⟩:∃n,n=l.length-4:=⟨_,rfl⟩;have M:n<=l.length:=ω;obtain⟨f1,f2,a3,O⟩:=gN eB 22 sJ p n M;obtain⟨a4,F⟩:=gw eB 22 sJ p n M;have G:=JX l ω;rw[<- D]at G;have hw:IntKind.i64.wrap ((l.length:Int)-4)=(n:Int):=(by rw[aA _ ω];omega);have a5:¬(n:Int)<0:=ω;have Q:(l.take n).length=n:=(by rw[aP];omega);have U:=ad (λW (h:Fr w W)=>EL _ (l.take n) W (F.fr h) (ht.fr h));have V:=ad (Al (gH (l.take n)) (vQ _));have I:=ad (λW v' (h:Fr w W) (h2:ao W eB v' (kS (gH (l.take n))))=>zp _ v' _ _ W (O.fr h) h2);have ai:=ad (λW (h:Fr w W)=>jY _ (l.take n) W (F.fr h) (by rw[Q];omega));have d:Hid (cM l=if bQ l then 0 else 5):=(by show _=_;unfold cM;simp[L]);have o:Hid (aY l=if bQ l then l.take n else []):=ad (by rw[D];rfl);rw[<- G]at I;rw[d.out,o.out];clear d o G p F O Q D;generalize l.length-n=m,l.take n=q,bQ l=R,gH (l.take n)=s at *;go_in;go_wp2_with fail
  go_region_held3 (fun _ => True) (first | trivial | go_keep) ((first
    | (go_at_call 100; refine (U.out _ (Fr.refl w).drew).mono ?_; rintro e w1 ⟨rfl, J⟩)
    | (go_at_call 99; refine (V.out _).mono ?_; rintro e w2 ⟨v2, rfl, X, K⟩)
    | (go_at_call 59; refine (I.out _ _ (((Fr.refl w).drew.trans J).trans K) X.see).mono ?_; rintro e w3 ⟨rfl, Y⟩)))
  have z:Fr w w3:=(((Fr.refl w).drew.trans J).trans K).trans Y;clear X J K Y U V I;cases R;·go_wp2;go_ret2;exact⟨_,rfl,Ow.nil,z⟩
  ·go_wp2_with fail;refine(ai.out _ z).mono ?_;rintro e w4 ⟨v4,rfl,Z,ak⟩;obtain⟨p4,z4,rfl⟩:=Z.shape';go_wp2;go_ret2;exact⟨_,rfl,Z.rebase z.size,z.trans ak⟩
structure kI (w:World) (B base:Nat) (v:Value) (l:U0):Prop where
 own:Ow w base eB v l
 top:∀k,v.ownBlock=some k->k<B
def kI.see{w:World}{B base:Nat}{v:Value}{l:U0}(h:kI w B base v l):ao w eB v l:=h.own.see
def kI.shape'{w:World}{B base:Nat}{v:Value}{l:U0}(h:kI w B base v l):∃a d,v=.slice a l.length d:=h.own.shape'
def kI.fr{w w':World}{B base:Nat}{v:Value}{l:U0}(h:kI w B base v l)(d:Fr w w'):kI w' B base v l:=⟨h.own.fr d,h.top⟩
def kI.chg{w w':World}{B base:Nat}{v:Value}{l:U0}{G:Nat->Prop}(h:kI w B base v l)(d:ag G w w')(e:∀k,v.ownBlock=some k->¬G k):kI w' B base v l:=⟨h.own.chg d e,h.top⟩
def kI.ne_cells{w:World}{B base:Nat}{v:Value}{l:U0}(h:kI w B base v l){b:Nat}{d:Array Value}{T:TypeId}{f:Nat × Nat}(e:w.heap[b]?=some (.cells d T f))(m:T≠(eB:aJ prog UInt8).e):v.ownBlock≠some b:=h.own.ne_cells e m
structure aw (w:World) (T:TypeId) (B base:Nat) (l:U0) (n er:Nat):Prop where
 h:∃v,w.heap[B]?=some (.cells #[v,N n,.int .i64 (er:Int)] T (0,0))/\kI w B base v l
 le:n<=l.length
def aw.behind{w w':World}{B base n d b:Nat}{T:TypeId}{l:U0}{v v':Value}{xs p:U0}(h:aw w T B base l n d)(f:Ow w b eB v xs)(m:dF b eB p w v v' w')(D:B<b):aw w' T B base l n d:=by
 obtain⟨⟨x,q,o⟩,z⟩:=h;refine⟨⟨x,m.chg'.heap q (λe=>?_),o.chg m.chg' (λk A e=>?_)⟩,z⟩;·have:=(f.lt _ e).1;omega
 ·have F:=o.top k A;have G:=(f.lt _ e).1;omega
def aw.fr{w w':World}{T:TypeId}{B base n d:Nat}{l:U0}(h:aw w T B base l n d)(e:Fr w w'):aw w' T B base l n d:=by
 obtain⟨⟨v,f,m⟩,o⟩:=h;exact⟨⟨v,e.heap f,m.fr e⟩,o⟩
def nm(v:Value)(l:U0)(w:World)(d:ao w eB v l)(q:l.length<=1000000):Calls prog 117 #[v] w λe w'=>∃B,e=.returned (.pointer (some ⟨B,0,none⟩))/\aw w' 247 B w.heap.size l 0 0/\Fr w w'/\w.heap.size<=B:=by
 have A:=ad (jY v l w d q);obtain⟨F,G,rfl,_⟩:=d.shape;clear d;go_in;go_wp2_with fail;apply A.z;rintro e m ⟨u,rfl,h,o⟩;obtain⟨p,z,rfl⟩:=h.shape';go_wp2;go_ret;exact⟨m.heap.size,rfl,⟨⟨_,aD _ _ _ rfl,h.fr ((Fr.refl m).alloc _),λk D=>(h.lt k D).2⟩,ax _⟩,o.alloc _,o.size⟩
def nj(v:Value)(l:U0)(w:World)(m:ao w eB v l)(G:l.length<=1000000):Calls prog 79 #[v] w λe w'=>∃B,e=.returned (.pointer (some ⟨B,0,none⟩))/\aw w' 142 B w.heap.size l 0 0/\Fr w w'/\w.heap.size<=B:=by
 have o:Ow (w.alloc (.cells #[] 5)) w.heap.size eB (.slice (some ⟨w.heap.size,0,none⟩) 0 0) []:=md eB w #[] [] 0 rfl (ax _) (au _);have d:Fr w (w.alloc (.cells #[] 5)):=(Fr.refl w).alloc _;have z:=m.fr d;obtain⟨I,J,rfl,_⟩:=m.shape;clear m;go_in;go_wp2_with (at_builtin;refine fT eB rfl (.tmp 3) (.tmp 4) 22 rfl sJ w.heap.size rfl o _ _ rfl z ?c1 d.size ?_);case c1=>simp;omega
 intro D h p;have A:Fr w h:=p.below o d (au _) d.size;have q:Ow h w.heap.size eB D l:=by simpa using p.own
 obtain⟨K,L,rfl⟩:=q.shape';clear p o z;go_wp2;go_ret;exact⟨h.heap.size,rfl,⟨⟨_,aD _ _ _ rfl,q.fr ((Fr.refl h).alloc _),λk F=>(q.lt k F).2⟩,ax _⟩,A.alloc _,A.size⟩
def aw.box{w w':World}{T d:TypeId}{B base n m g:Nat}{l:U0}{q:Array Value}{f:Nat × Nat}(h:aw w T B base l n m)(z:w.heap[g]?=some (.cells q d f))(A:d≠(eB:aJ prog UInt8).e)(D:B≠g)(o:ag (λk=>k=g) w w'):aw w' T B base l n m:=by
 obtain⟨⟨v,F,p⟩,G⟩:=h;exact⟨⟨v,o.heap F D,p.chg o (λk I e=>p.ne_cells z A (by rw[I,e]))⟩,G⟩
def kj(W:World)(z:Nat)(d e f v3 h m:Value):World:=(((((W.setCell ⟨z,0,none⟩ d).setCell ⟨z,1,none⟩ e).setCell ⟨z,2,none⟩ f).setCell ⟨z,3,none⟩ v3).setCell ⟨z,4,none⟩ h).setCell ⟨z,5,none⟩ m
def r9{T:TypeId}{W:World}{z:Nat}{M L D A q p:Value}(d e f v3 m o:Value)(h:W.heap[z]?=some (.cells #[M,L,D,A,q,p] T (0,0))):(kj W z d e f v3 m o).heap[z]?=some (.cells #[d,e,f,v3,m,o] T (0,0))/\ag (λk=>k=z) W (kj W z d e f v3 m o):=by
 unfold kj;have O:(W.setCell ⟨z,0,none⟩ d).heap[z]?=some (.cells #[d,L,D,A,q,p] T (0,0)):=aI h 0 d;have Q:=ay W ⟨z,0,none⟩ d;generalize W.setCell ⟨z,0,none⟩ d=F at *;have R:(F.setCell ⟨z,1,none⟩ e).heap[z]?=some (.cells #[d,e,D,A,q,p] T (0,0)):=aI O 1 e;have U:=ay F ⟨z,1,none⟩ e;generalize F.setCell ⟨z,1,none⟩ e=G at *;have V:(G.setCell ⟨z,2,none⟩ f).heap[z]?=some (.cells #[d,e,f,A,q,p] T (0,0)):=aI R 2 f;have c2:=ay G ⟨z,2,none⟩ f;generalize G.setCell ⟨z,2,none⟩ f=I at *;have X:(I.setCell ⟨z,3,none⟩ v3).heap[z]?=some (.cells #[d,e,f,v3,q,p] T (0,0)):=aI V 3 v3;have Y:=ay I ⟨z,3,none⟩ v3;generalize I.setCell ⟨z,3,none⟩ v3=J at *;have Z:(J.setCell ⟨z,4,none⟩ m).heap[z]?=some (.cells #[d,e,f,v3,m,p] T (0,0)):=aI X 4 m;have c4:=ay J ⟨z,4,none⟩ m;generalize J.setCell ⟨z,4,none⟩ m=K at *;have h5:(K.setCell ⟨z,5,none⟩ o).heap[z]?=some (.cells #[d,e,f,v3,m,o] T (0,0)):=aI Z 5 o;have c5:=ay K ⟨z,5,none⟩ o;generalize K.setCell ⟨z,5,none⟩ o=W5 at *;exact⟨h5,((((Q.trans U λ_ _ h=>h).trans c2 λ_ _ h=>h).trans Y λ_ _ h=>h).trans c4 λ_ _ h=>h).trans c5 λ_ _ h=>h⟩
structure ez (w:World) (B base:Nat) (l:U0) (n a:Nat):Prop where
 h:∃v,w.heap[B]?=some (.cells #[v,N n,N a] 410 (0,0))/\Ow w base eB v l
 eq:n=8*l.length
 le:a<=n
def ez.fr{w w':World}{B base n a:Nat}{l:U0}(h:ez w B base l n a)(d:Fr w w'):ez w' B base l n a:=by
 obtain⟨⟨v,e,f⟩,m,o⟩:=h;exact⟨⟨v,d.heap e,f.fr d⟩,m,o⟩
def QU(v:Value)(l:U0)(w:World)(d:ao w eB v l)(q:l.length<=1000000):Calls prog 291 #[v] w λe w'=>∃B,e=.returned (.pointer (some ⟨B,0,none⟩))/\ez w' B w.heap.size l (8*l.length) 0/\Fr w w'/\w.heap.size<=B:=by
 have A:=ad (jY v l w d q);obtain⟨D,F,rfl,_⟩:=d.shape;clear d;go_in;go_wp2_with fail;apply A.z;rintro e h ⟨u,rfl,m,o⟩;obtain⟨p,z,rfl⟩:=m.shape';go_wp2;go_ret;exact⟨h.heap.size,rfl,⟨⟨_,by rw[aD _ _ _ rfl];simp,m.fr ((Fr.refl h).alloc _)⟩,rfl,ax _⟩,o.alloc _,o.size⟩
def pr(B base n a:Nat)(l:U0)(w:World)(h:ez w B base l n a)(p:l.length<=1000000):Calls prog 294 #[.pointer (some ⟨B,0,none⟩)] w λe w'=>e=.returned (.int .i64 ((n:Int)-a))/\Qt w w':=by
 obtain⟨⟨v,d,m⟩,o,q⟩:=h;have z:=af d 1 rfl;have c2:=af d 2 rfl;have A:=aA ((n:Int)-a) ω;clear d m o;go_in;go_wp2;go_quiet (fail);go_wp2;go_ret;exact⟨rfl,Qt.drewN _ _⟩
def E6(B base n a i:Nat)(l:U0)(w:World)(p:ez w B base l n a)(F:l.length<=1000000)(G:i<n):Calls prog 321 #[.pointer (some ⟨B,0,none⟩),N i] w λe w'=>e=.returned (.int .u64 (cA l i:Int))/\w=w':=by
 obtain⟨⟨v,d,m⟩,z,I⟩:=p;have h:i / 8<l.length:=ω
 obtain⟨b,A,J,rfl,o⟩:=m.see.cell1 Fk.u8 rfl (i / 8) h;have K:=af d 0 rfl;have L:w.cell? ⟨b,A+i / 8,none⟩=some (.int .u8 (l[i / 8].toNat:Int)):=o;have M:=l[i / 8].toNat_lt;have D:Hid (bits .and .u64 (IntKind.u64.wrap ((l[i / 8].toNat:Int) / 2^(7-i%8))) 1=(cA l i:Int)):=by show _=_;have d:l[i / 8].toNat / 2^(7-i%8)<=l[i / 8].toNat:=il _ _;rw[show(l[i / 8].toNat:Int) / 2^(7-i%8)=((l[i / 8].toNat / 2^(7-i%8):Nat):Int)from by simp,Ew l i h];generalize l[i / 8].toNat / 2^(7-i%8)=q at *;rw[cW _ ω,E9 _ ω]
 generalize l[i / 8].toNat=x at *;generalize cA l i=r at *;have O:=aA ((i:Int) / 8) ω;have Q:(i:Int).tmod 8=(i:Int)%8:=vk ω;have R:=aA ((i:Int)%8) ω;have U:=aA (7-(i:Int)%8) ω;have V:(i:Int) / 8<l.length:=ω
 have W:(0:Int)<=(i:Int) / 8:=ω
 have X:((i:Int) / 8).toNat=i / 8:=ω
 have Y:(0:Int)<=7-(i:Int)%8:=ω
 have Z:(7-(i:Int)%8).toNat=7-i%8:=ω
 clear o m d z h;go_in;go_wp2;go_ret;exact⟨by rw[D.out];rfl,rfl⟩
def ez.drewN{w:World}{B base n a:Nat}{l:U0}(h:ez w B base l n a)(m:Nat):ez (w.drewN m) B base l n a:=h.fr ((Fr.refl w).drewN m)
def JK(a b:Nat)(d:a<18446744073709551616)(e:b<18446744073709551616):bits .or .u64 (a:Int) (b:Int)=((a ||| b:Nat):Int):=by
 have f:a ||| b<2^64:=Nat.or_lt_two_pow ω ω;show IntKind.u64.wrap ((BitVec.ofInt 64 (a:Int) ||| BitVec.ofInt 64 (b:Int)).toNat:Int)=_;rw[BitVec.toNat_or,fX 64 a ω,fX 64 b ω];exact cW _ ω
def u9(B base n a i k:Nat)(l:U0)(w:World)(d:ez w B base l n a)(G:l.length<=1000000)(X:k<=64)(Y:i<=n):Calls prog 322 #[.pointer (some ⟨B,0,none⟩),N i,N k] w λe w'=>e=.returned (.int .u64 (Fk.aF l i k:Int))/\Qt w w':=by
 have I:=ad (λW j (h:Qt w W) (p:j<n)=>E6 B base n a j l W (d.fr h.fr) G p);have J:w.cell? ⟨B,1,none⟩=some (N n):=by obtain⟨⟨v,q,_⟩,_⟩:=d;rw[aG q];rfl
 have Z:n<=8000000:=by have:=d.eq;omega
 have K:Hid (∀j,n<=j->cA l j=0):=λj p=>Ev l j (by have:=d.eq;omega);have L:=ad (λj=>ni l (i+j));have M:=ad (λj=>jt l i j);clear d;go_in;go_wp2;go_loopw [7,8] (λO z wr=>∃j x:Nat,j<=k/\z=.int .i64 ((i:Int)+j)/\O=.int .u64 (x:Int)/\Hid (x=Fk.aF l i j)/\Qt w wr) (λ_ z _=>i+k-(intOf z).toNat);·exact⟨0,0,ax _,σ,rfl,rfl,Qt.refl _⟩
 ·
  obtain⟨j,x,p,rfl,rfl,o,m⟩:=hrel;have d1:=m.fr.cell J;have ab:=aA ((i:Int)+k) ω;by_cases ac:j<k
  ·have F:x<9223372036854775808:=(by have q:=M.out j;have h2:(2:Nat)^j<=2^63:=dn ω ω;rw[<- o.out]at q;omega);have Q:=ad F;have ai:IntKind.u64.wrap ((x:Int)*2)=((2*x:Nat):Int):=(by rw[cW _ ω];omega);have aj:=aA ((i:Int)+j+1) ω;have R:(i:Int)+j<(i:Int)+k:=ω;clear F;by_cases U:i+j<n
   ·have ak:=L.out j;have A:=ad (I.out wr (i+j) m U);rw[show N (i+j)=.int .i64 ((i:Int)+j)from by simp[N]]at A;have D:Hid (Fk.aF l i (j+1)=2*x+cA l (i+j)):=ad (by rw[o.out];rfl);have V:(i:Int)+j<n:=ω;have HOr:Hid (bits .or .u64 (2*(x:Int)) ((cA l (i+j):Nat):Int)=((2*x+cA l (i+j):Nat):Int)):=(by show _=_;have:=Q.out;rw[show 2*(x:Int)=((2*x:Nat):Int)from by simp,JK _ _ ω ω,JO _ _ ω]);generalize cA l (i+j)=b at *;go_wp2_with fail;apply A.z;rintro e w1 ⟨rfl,rfl⟩;clear A;go_wp2;go_roundw;·exact⟨j+1,2*x+b,ω,γ,by rw[<- HOr.out],by show _=_;rw[D.out],m⟩
    ·exact μ
   ·have D:Hid (2*x=Fk.aF l i (j+1)):=(by show _=_;rw[o.out];show _=2*Fk.aF l i j+cA l (i+j);rw[K.out _ ω];rfl);have V:¬(i:Int)+j<n:=ω;go_wp2;go_roundw;·exact⟨j+1,2*x,ω,γ,rfl,D.out,m⟩
    ·exact μ
  ·obtain rfl:j=k:=ω;have R:¬(i:Int)+j<(i:Int)+j:=ω;go_wp2;go_ret;exact⟨by rw[o.out];rfl,m⟩
def Fu(B base n a k:Nat)(l:U0)(w:World)(d:ez w B base l n a)(D:l.length<=1000000)(O:k<=64):Calls prog 295 #[.pointer (some ⟨B,0,none⟩),N k] w λe w'=>e=.returned (.tuple #[.int .u64 ((if n<a+k then 0 else Fk.aF l a k:Nat):Int),.int .i64 ((if n<a+k then 1 else 0:Nat):Int)])/\ez w' B base l n (if n<a+k then a else a+k)/\ag (λb=>b=B) w w':=by
 have F:=ad (pr B base n a l w d D);have ah:n<=8000000:=by have:=d.eq;omega
 have k1:¬(k:Int)<0:=ω
 have k2:¬(64:Int)<k:=ω
 by_cases h:n<a+k;·rw[an h,an h,an h];have Q:=ad d;have k3:(n:Int)-a<k:=ω;clear d h;go_in;go_wp2_with fail;apply F.z;rintro e p ⟨rfl,o⟩;go_wp2;go_ret2;exact⟨rfl,Q.out.fr o.fr,o.fr.chg _⟩
 ·rw[ae h,ae h,ae h];have k3:¬(n:Int)-a<k:=ω;have G:=ad (λW (R:Fr w W)=>u9 B base n a a k l W (d.fr R) D O d.le);have hw:=aA ((a:Int)+k) ω;obtain⟨⟨v,q,I⟩,J,al⟩:=d;have U:=ad J;have V:Hid (a+k<=n):=(by show _<=_;omega);have X:=I.ne_cells q δ;clear J h;generalize Fk.aF l a k=x at *;go_in;go_wp2_with fail;apply F.z;rintro e p ⟨rfl,o⟩;have Y:=o.fr.heap q;have c2:=af Y 2 rfl;have K:=ad (λm=>G.out (p.drewN m) (o.fr.drewN m));clear G;go_wp2;go_quiet ((go_at_call 322;exact pG (K.out _)));have z:Fr w (p.drewN nq):=o.fr.drewN nq;generalize p.drewN nq=L at *;have A:=z.heap q;have d2:=af A 2 rfl;have z2:=aB A 2;have M:=ay L ⟨B,2,none⟩ (.int .i64 ((a:Int)+k));have Z:=aI A 2 (.int .i64 ((a:Int)+k));have aa:=(I.fr z).chg M (λi hi e=>X (by rw[hi,show i=B from e]));have ac:ag (λb=>b=B) w (L.setCell ⟨B,2,none⟩ (.int .i64 ((a:Int)+k))):=(z.chg _).trans M λ_ _ h=>h;clear K c2;go_wp2;go_ret2;exact⟨rfl,⟨⟨v,Z,aa⟩,U.out,V.out⟩,ac⟩
structure en (w:World) (B base:Nat) (v:Value) (l:U0) (n a:Nat):Prop where
 h:w.heap[B]?=some (.cells #[v,N n,N a] 410 (0,0))
 o:Ow w base eB v l
 eq:n=8*l.length
 le:a<=n
def en.f{w:World}{B base n a:Nat}{v:Value}{l:U0}(h:en w B base v l n a):ez w B base l n a:=⟨⟨v,h.h,h.o⟩,h.eq,h.le⟩
def en.fr{w w':World}{B base n a:Nat}{v:Value}{l:U0}(h:en w B base v l n a)(d:Fr w w'):en w' B base v l n a:=⟨d.heap h.h,h.o.fr d,h.eq,h.le⟩
def en.chg{G:Nat->Prop}{w w':World}{B base n a:Nat}{v:Value}{l:U0}(h:en w B base v l n a)(d:ag G w w')(e:¬G B)(f:∀k,v.ownBlock=some k->¬G k):en w' B base v l n a:=⟨d.heap h.h e,h.o.chg d f,h.eq,h.le⟩
def Qm(B base n a k:Nat)(l:U0)(w:World)(d:ez w B base l n a)(q:l.length<=1000000)(F:k<=64):Calls prog 332 #[.pointer (some ⟨B,0,none⟩),N k] w λe w'=>e=.returned (.tuple #[.int .u64 (Fk.aF l a k:Int),N (min k (n-a))])/\Qt w w':=by
 have z:=ad (λm=>pr B base n a l (w.drewN m) (d.drewN m) q);have A:=ad (λm=>u9 B base n a a k l (w.drewN m) (d.drewN m) q F d.le);have K:n<=8000000:=by have:=d.eq;omega
 have L:=d.le;have M:¬(k:Int)<0:=ω
 have O:¬(64:Int)<k:=ω
 obtain⟨⟨v,D,G⟩,I,_⟩:=d;have c2:=af D 2 rfl;have o:Hid (N (min k (n-a))=if(k:Int)<=(n:Int)-a then N k else .int .i64 ((n:Int)-a)):=by
  show _=_;by_cases h:k<=n-a;·rw[an ω,kf h]
  ·rw[ae ω,Nat.min_eq_right ω];simp[N];omega
 clear D G I;generalize N (min k (n-a))=MV,Fk.aF l a k=x at *;by_cases h:(k:Int)<=(n:Int)-a;·have p:Hid (MV=N k):=ad (by rw[o.out,an h]);have J:¬((n:Int)-a<k):=ω;clear o;go_in;go_wp2;go_quiet ((first | (go_at_call 322;exact pG (A.out _)) | (go_at_call 294;exact pG (z.out _))));go_wp2;go_ret2;rw[p.out];exact⟨rfl,Qt.drewN _ _⟩
 ·have p:Hid (MV=.int .i64 ((n:Int)-a)):=ad (by rw[o.out,ae h]);have J:(n:Int)-a<k:=ω;have Q:(n:Int)-a<=k:=ω;clear o;go_in;go_wp2;go_quiet ((first | (go_at_call 322;exact pG (A.out _)) | (go_at_call 294;exact pG (z.out _))));go_wp2;go_ret2;rw[p.out];exact⟨rfl,Qt.drewN _ _⟩
def OI(B base n a k:Nat)(v:Value)(l:U0)(w:World)(d:en w B base v l n a)(F:l.length<=1000000)(R:a+k<=n):Calls prog 334 #[.pointer (some ⟨B,0,none⟩),N k] w λe w'=>e=.returned (.int .i64 0)/\en w' B base v l n (a+k)/\ag (λb=>b=B) w w':=by
 have G:=ad (pr B base n a l w d.f F);have U:n<=8000000:=by have:=d.eq;omega
 have V:¬(k:Int)<0:=ω
 have k3:¬(n:Int)-a<k:=ω
 have W:=aA ((a:Int)+k) ω;obtain⟨p,q,z,X⟩:=d;have I:=ad z;have J:Hid (a+k<=n):=by show _<=_;omega
 have K:=q.ne_cells p δ;clear z;go_in;go_wp2_with fail;apply G.z;rintro e A ⟨rfl,m⟩;have o:=m.fr.heap p;have c2:=af o 2 rfl;have Y:=aB o 2;have D:=ay A ⟨B,2,none⟩ (.int .i64 ((a:Int)+k));have L:=aI o 2 (.int .i64 ((a:Int)+k));have M:=(q.fr m.fr).chg D (λi O e=>K (by rw[O,show i=B from e]));have Q:ag (λb=>b=B) w (A.setCell ⟨B,2,none⟩ (.int .i64 ((a:Int)+k))):=(m.fr.chg _).trans D λ_ _ h=>h;go_wp2;go_ret;exact⟨rfl,⟨L,M,I.out,J.out⟩,Q⟩
def Qn(B base n a:Nat)(l:U0)(w:World)(o:ez w B base l n a)(K:l.length<=1000000):Calls prog 298 #[.pointer (some ⟨B,0,none⟩)] w λe w'=>e=.returned (.int .i64 (if io l a=true then 0 else 2))/\Qt w w':=by
 have q:=ad (pr B base n a l w o K);have L:=o.eq;have A:=o.le;obtain⟨m,M⟩:∃m,m=n-a:=⟨_,rfl⟩;have D:(n:Int)-a=(m:Int):=ω
 rw[D]at q;by_cases O:8<=m;·have p:Hid ((if io l a=true then(0:Int)else 2)=2):=(by show _=_;unfold io;rw[bw ω];rfl);have V:decide ((8:Int)<=m)=true:=bz ω;have c2:w.cell? ⟨B,2,none⟩=some (N a):=(by obtain⟨⟨v,F,_⟩,_⟩:=o;rw[aG F];rfl);generalize (if io l a=true then(0:Int)else 2)=R at *;clear o L A M D O;go_in;go_wp2_with fail;apply q.z;rintro e z ⟨rfl,d⟩;have Q:=d.fr.cell c2;go_wp2;go_quiet (fail);go_wp2;go_ret;rw[p.out];exact⟨rfl,d.trans (Qt.drewN _ _)⟩
 ·have U:=ad (λW (h:Fr w W)=>u9 B base n a a m l W (o.fr h) K ω A);have p:Hid ((if io l a=true then(0:Int)else 2)=if Fk.aF l a m=0 then 0 else 2):=(by show _=_;unfold io;rw[bz (show 8*l.length<a+8 by omega),show 8*l.length-a=m by omega];simp);have V:decide ((8:Int)<=m)=false:=bw ω;have c2:w.cell? ⟨B,2,none⟩=some (N a):=(by obtain⟨⟨v,F,_⟩,_⟩:=o;rw[aG F];rfl);generalize Fk.aF l a m=x,(if io l a=true then(0:Int)else 2)=R at *;clear o L A M D O;by_cases G:x=0;·have I:Hid (R=0):=ad (by rw[p.out,an G]);subst G;have X:(((0:Nat):Int) != 0)=false:=rfl;clear p;go_in;go_wp2_with fail;apply q.z;rintro e z ⟨rfl,d⟩;have Q:=d.fr.cell c2;have J:=ad (λm=>U.out (z.drewN m) (d.fr.drewN m));go_wp2;go_quiet ((go_at_call 322;exact pG (J.out _)));go_wp2;go_ret;rw[I.out];exact⟨rfl,d.trans (Qt.drewN _ _)⟩
  ·have I:Hid (R=2):=ad (by rw[p.out,ae G]);have X:((x:Int) != 0)=true:=no.2 ω;clear p;go_in;go_wp2_with fail;apply q.z;rintro e z ⟨rfl,d⟩;have Q:=d.fr.cell c2;have J:=ad (λm=>U.out (z.drewN m) (d.fr.drewN m));go_wp2;go_quiet ((go_at_call 322;exact pG (J.out _)));go_wp2;go_ret;rw[I.out];exact⟨rfl,d.trans (Qt.drewN _ _)⟩
def vZ(k m:Nat)(d:1<=k)(h:k+m<=255)(w:World):Calls prog 110 #[N k,N m] w λe w'=>e=.returned (.bool true)/\w=w':=by
 have o:(1:Int)<=k:=ω
 have p:(0:Int)<=m:=ω
 have q:(k:Int)<=255:=ω
 have z:(m:Int)<=255:=ω
 have A:(k:Int)+m<=255:=ω
 go_in;go_wp2;go_ret;exact⟨rfl,rfl⟩
def zg(k m:Nat)(d:1<=k)(h:k+m<=255)(w:World):Calls prog 203 #[N k,N m] w λe w'=>e=.returned (.bool true)/\w=w':=by
 have o:(1:Int)<=k:=ω
 have p:(0:Int)<=m:=ω
 have q:(k:Int)<=255:=ω
 have z:(m:Int)<=255-k:=ω
 go_in;go_wp2;go_ret;exact⟨rfl,rfl⟩
def zq(L:Nat)(d:List Hd):Prop:=∀i (h:i<d.length),d[i].n=L
def sp{w:World}{v:Value}{d:List Hd}{f:List U0}{L:Nat}(m:cV w aS eB v d f)(z:∀p∈f,p.length=L):zq L d:=by
 intro i h;have o:i<f.length:=by rw[<- m.2.1];exact h
 obtain⟨a,A,q,_⟩:=(m.2.2 i h o).shape;have e:=z _ (co o);generalize d[i]=x at *;obtain⟨D,F,G⟩:=x;simp only[Hd.v,dt]at q;rw[<- e];exact q.2.1
def yS(v:Value)(d:List Hd)(L:Nat)(w:World)(m:ao w aS v d)(p:zq L d):Calls prog 111 #[v] w λe w'=>e=.returned (.bool true)/\w=w':=by
 obtain⟨a,K,rfl,M,F,O⟩:=m.shape;unfold maxLen at F;go_in;go_wp2_with fail;go_loop [7] (λo=>∃i:Nat,i<=d.length/\o=N i) (λo=>d.length-(intOf o).toNat);·exact⟨0,ax _,rfl⟩
 ·
  obtain⟨i,Q,rfl⟩:=hrel;by_cases q:i<d.length
  ·obtain⟨b,R,c,G,I⟩:=m.cell1 (λ(h:Hd)=>h.v) rfl i q;obtain⟨U,V,c2,z,J⟩:=m.cell1 (λ(h:Hd)=>h.v) rfl 0 ω;have A:=p i q;have D:=p 0 ω;generalize d[i]=x at *;generalize d[0]'ω=y at *;obtain⟨W,X,Y⟩:=x;obtain⟨Z,yn,yc⟩:=y;simp only at A D;subst A D;cases G;simp only[dt,ji,pI,lj]at z;obtain⟨⟨rfl,rfl⟩,_,rfl⟩:=z;simp only[Hd.v,g8]at I J;have i1:(0:Int)<=i:=ω;have i2:(i:Int)<d.length:=ω;have i3:(0:Int)<d.length:=ω;go_wp2_with fail;go_round;·exact⟨i+1,ω,γ⟩
   ·exact μ
  ·obtain rfl:i=d.length:=ω;have aj:¬((d.length:Int)<d.length):=ω;go_wp2;go_ret;exact⟨rfl,rfl⟩
def Ff(v:Value)(d:List Hd)(L:Nat)(w:World)(G:1<=d.length)(o:ao w aS v d)(q:zq L d):Calls prog 204 #[v] w λe w'=>e=.returned (.bool true)/\Fr w w':=by
 obtain⟨a,O,rfl,Q,I,R⟩:=o.shape;unfold maxLen at I;go_in;go_wp2;go_loopw [3] (λp wr=>∃i:Nat,1<=i/\i<=d.length/\p=N i/\Fr w wr) (λp _=>d.length-(intOf p).toNat);·exact⟨1,au _,G,rfl,Fr.refl w⟩
 ·
  obtain⟨i,U,V,rfl,m⟩:=hrel;by_cases z:i<d.length
  ·obtain⟨b,W,c,J,K⟩:=(o.fr m).cell1 (λ(h:Hd)=>h.v) rfl i z;obtain⟨X,Y,c2,A,M⟩:=(o.fr m).cell1 (λ(h:Hd)=>h.v) rfl 0 ω;have D:=q i z;have F:=q 0 ω;generalize d[i]=x at *;generalize d[0]'ω=y at *;obtain⟨Z,xn,xc⟩:=x;obtain⟨ya,yn,yc⟩:=y;simp only at D F;subst D F;cases J;simp only[dt,ji,pI,lj]at A;obtain⟨⟨rfl,rfl⟩,_,rfl⟩:=A;simp only[Hd.v,g8]at K M;have i1:(0:Int)<=i:=ω;have i2:(i:Int)<d.length:=ω;have i3:(0:Int)<d.length:=ω;go_wp2;go_quiet (fail);go_wp2;go_roundw;·exact⟨i+1,ω,ω,γ,m.drewN _⟩
   ·exact μ
  ·obtain rfl:i=d.length:=ω;have am:¬((d.length:Int)<d.length):=ω;go_wp2;go_ret;exact⟨rfl,m⟩
def RM(w:World)(base g:Nat)(T:TypeId)(rest:List Value)(d:Value)(l:U0):Prop:=
 w.heap[g]?=some (.cells (d::N l.length::rest).toArray T (0,0))/\Ow w base eB d (wR l)/\g<base/\Fp l
def RO(g:Nat)(d e:Value)(w w':World):Prop:=ag (λk=>k=g\/d.ownBlock=some k) w w'/\∀b,e.ownBlock=some b->d.ownBlock=some b\/w.heap.size<=b
def RL(w:World)(base g:Nat)(T:TypeId)(d:Value)(l:U0):Prop:=w.heap[g]?=some (.cells #[d] T (0,0))/\Ow w base eB d l/\g<base/\Fp l
def R1(x k:Nat):U0:=(List.range k).map λi=>UInt8.ofNat (x / 2^i%2)
def J7(l:U0)(q:Nat):Nat->Nat
 | 0=>0
 | t+1=>2*J7 l q t+mp l (8*q+t)
def Nz(d:List Hd):aS.cells d=d.map Hd.v:=by
 induction d with
 | nil=>rfl
 | cons p d e=>show [p.v]++aS.cells d=_;rw[e];rfl
def nS{w:World}{v:Value}{l:U0}(h:ao w eB v l):∃p:Hd,v=p.v:=by
 obtain⟨a,d,e,_⟩:=h.shape;exact⟨⟨a,_,d⟩,e⟩
def rN(w:World)(f:Array Value)(T:TypeId)(d:List Hd)(e:List U0)(n:Nat)(p:n=d.length)(q:f.toList=d.map Hd.v)(z:d.length=e.length)(A:d.length<=1000000)(h:∀i (m:i<d.length) (o:i<e.length),ao w eB d[i].v e[i]):cV (w.alloc (.cells f T)) aS eB (.slice (some ⟨w.heap.size,0,none⟩) n n) d e:=
 ⟨lV aS w d f T n p (by rw[q,Nz]) (by unfold maxLen;omega),z,λi m o=>(h i m o).fr ((Fr.refl w).alloc _)⟩
def EC(h m:Value)(d lb:U0)(W:World)(o:ao W eB h d)(p:ao W eB m lb)(I:d.length+lb.length<=1000000):Calls prog 46 #[.slice (some ⟨W.heap.size,0,none⟩) 2 2] (W.alloc (.cells #[h,m] 22)) λe w'=>∃v,e=.returned v/\Ow w' W.heap.size eB v (d++lb)/\Fr W w':=by
 obtain⟨q,rfl⟩:=nS o;obtain⟨z,rfl⟩:=nS p;have A := rN W #[q.v, z.v] 22 [q, z] [d, lb] 2 rfl rfl rfl (by simp) (fun i D A => by
   match i, D with
   | 0, _ => exact o
   | 1, _ => exact p)
 refine(s9 _ _ _ _ A (by simp;omega)).mono ?_;rintro e w' ⟨v,rfl,F,G⟩;exact⟨v,rfl,by simpa using F.rebase (b:=W.heap.size) σ,((Fr.refl W).alloc _).trans G⟩
def EB(m o p:Value)(d lb h:U0)(W:World)(q:ao W eB m d)(z:ao W eB o lb)(A:ao W eB p h)(M:d.length+lb.length+h.length<=1000000):Calls prog 46 #[.slice (some ⟨W.heap.size,0,none⟩) 3 3] (W.alloc (.cells #[m,o,p] 22)) λe w'=>∃v,e=.returned v/\Ow w' W.heap.size eB v (d++lb++h)/\Fr W w':=by
 obtain⟨D,rfl⟩:=nS q;obtain⟨F,rfl⟩:=nS z;obtain⟨G,rfl⟩:=nS A;have I := rN W #[D.v, F.v, G.v] 22 [D, F, G] [d, lb, h] 3 rfl rfl rfl (by simp) (fun i J I => by
   match i, J with
   | 0, _ => exact q
   | 1, _ => exact z
   | 2, _ => exact A)
 refine(s9 _ _ _ _ I (by simp;omega)).mono ?_;rintro e w' ⟨v,rfl,K,L⟩;exact⟨v,rfl,by simpa using K.rebase (b:=W.heap.size) σ,((Fr.refl W).alloc _).trans L⟩
def kU(d:List Nat)(e:Nat->U0)(k:Nat):U0:=((List.range k).map λi=>bE (d.getD i 0)++bE (e i).length).flatten
def Jr(d:List Nat)(e:Nat->U0)(k:Nat)(h:k<d.length):kU d e (k+1)=kU d e k++bE d[k]++bE (e k).length:=by
 unfold kU;rw[jD,gq,qP];simp[h]
def rZ(d:List Nat)(e:Nat->U0)(a b:Nat):U0:=(((bE d.sum++bE d.length)++kU d e d.length)++bE a)++bE b
def rV(d:List Nat)(k:Nat):(d.take k).sum<=d.sum:=by
 conv=>rhs;rw[<- jC k d]
 rw[mC];omega
def Js(d:List Nat)(e:Nat->U0)(b:Nat)(o:b<1000000)(h:∀k,(e k).length<=b)(m:∀x∈d,x<1000000)(k:Nat):(kU d e k).length<=k*20:=by
 unfold kU;rw[LS];refine ar (zM _ 20 _ λi _=>?_) ?_
 ·have p:=lH (e i).length (by have:=h i;omega);have q:d.getD i 0<1000000:=by
   by_cases f:i<d.length;·simp only[fx,cQ f];exact m _ (co f)
   ·simp[fx,jH (by omega:d.length<=i)]
  have z:=lH (d.getD i 0) ω;rw[aM];omega
 ·rw[ot];exact au _
def E5(o:fK)(w:World):Calls prog 37 #[fg o] w λe w'=>e=.returned (.int .i64 (if gA o then 0 else 9))/\Fr w w':=by
 have d:=ad (λW=>Qr ⟨o.b,o.plain,o.bu,0,0,0⟩ ⟨rfl,rfl,rfl⟩ W);have h:Hid ((if gA ⟨o.b,o.plain,o.bu,0,0,0⟩then(0:Int)else 9)=if gA o then 0 else 9):=rfl;rw[h.out]at d;generalize (if gA o then(0:Int)else 9)=R at *;go_in;go_wp2_with fail;refine(d.out _).mono ?_;rintro e p ⟨rfl,m⟩;go_wp2;go_ret;exact⟨rfl,((Fr.refl w).alloc _).trans m⟩
def Jb(o:fK)(w:World):Calls prog 83 #[fg o] w λe w'=>e=.returned (.int .i64 (if gA o then 0 else 9))/\Fr w w':=by
 have d:=ad (λW=>Pr ⟨o.b,o.plain,o.bu,0,0,0⟩ ⟨rfl,rfl,rfl⟩ W);have h:Hid ((if gA ⟨o.b,o.plain,o.bu,0,0,0⟩then(0:Int)else 9)=if gA o then 0 else 9):=rfl;rw[h.out]at d;generalize (if gA o then(0:Int)else 9)=R at *;go_in;go_wp2_with fail;refine(d.out _).mono ?_;rintro e p ⟨rfl,m⟩;go_wp2;go_ret;exact⟨rfl,((Fr.refl w).alloc _).trans m⟩
def aF{w:World}{v:Value}{l:List Nat}(h:ao w eJ v l)(k:Nat)(e:k<l.length):∃b d f,v=.slice (some ⟨b,d,none⟩) l.length f/\w.cell? ⟨b,d+k,none⟩=some (N l[k]):=h.cell1 N rfl k e
def rt(l:List Nat)(k:Nat)(h:k<l.length):(l.take (k+1)).sum=(l.take k).sum+l[k]:=by
 rw[ea h,mC];simp
def NH(v:Value)(l:List Nat)(w:World)(h:ao w eJ v l)(O:l.length<=1000000)(Q:l.sum<=1000000000):Calls prog 104 #[v] w λe w'=>e=.returned (N l.sum)/\w=w':=by
 have A:=ad (λk o=>aF h k o);have D:=ad (rV l);have F:=ad (rt l);have G:Hid ((l.take l.length).sum=l.sum):=by show _=_;rw[dP]
 obtain⟨R,U,p,V,W,X⟩:=h.shape;go_in;go_wp2;go_loopw [3,8] (λI d wr=>∃k:Nat,k<=l.length/\d=N k/\I=N (l.take k).sum/\w=wr) (λ_ d _=>l.length-(intOf d).toNat);·exact⟨0,ax _,rfl,σ,rfl⟩
 ·
  obtain⟨k,o,rfl,rfl,rfl⟩:=hrel;by_cases q:k<l.length;·obtain⟨b,Y,Z,p,c0⟩:=A.out k q;cases p;have J:=ad (F.out k q);have h2:=D.out (k+1);generalize K:(l.take (k+1)).sum=m2 at *;have L:=ad K;generalize (l.take k).sum=m at *;generalize l[k]=x at *;have M:=J.out;have z:=ad M;have hw:IntKind.i64.wrap ((m:Int)+x)=(m:Int)+x:=aA _ (by have:=z.out;omega);go_wp2_with fail;exact⟨⟨k+1,ω,γ,by rw[L.out,z.out];go_num,by first | rfl | trivial⟩,by simp[intOf];omega⟩
  ·obtain rfl:k=l.length:=ω;rw[G.out];go_wp2;go_ret;exact⟨rfl,rfl⟩
def pN(d:Nat->U0)(k:Nat):List Nat:=(List.range k).map λi=>(d i).length
def MO(g:Nat)(cv sv:Value)(d:List Nat)(o:Nat->U0)(a b:Nat)(w:World)(hg:w.heap[g]?=some (.cells #[cv,sv,N a,N b] 69 (0,0)))(hc:ao w eJ cv d)(hs:ao w eJ sv (pN o d.length))
  (hl:d.length<=60) (hsum:d.sum<=60) (hfr:∀k,(o k).length<=6025) (ha:a<=1000000) (hb:b<=1000000) :
  Calls prog 44 #[.pointer (some ⟨g,0,none⟩)] w λe w'=>∃u,e=.returned u/\Ow w' w.heap.size eB u (rZ d o a b)/\Fr w w':=by
 have U:=ad (λn (h:n<18446744073709551616) W=>Fl n h W);have bq:=ad (λW (h:ao W eJ cv d)=>NH cv d W h ω ω);have a6:∀x∈d,x<=60:=λx hx=>by obtain⟨i,hi,rfl⟩:=uX.1 hx;have h1:=rV d (i+1);rw[rt d i hi]at h1;omega
 have cl:=ad a6;have bs:=ad (λk=>Js d o 6025 ω hfr (λx hx=>by have:=a6 x hx;omega) k);have cm:=ad (λk h=>Jr d o k h);have HD:Hid (rZ d o a b=(((bE d.sum++bE d.length)++kU d o d.length)++bE a)++bE b):=rfl;have cn:Hid (kU d o 0=[]):=rfl;have cp:=ad hfr;have cq:Hid (∀k (h:k<d.length) (h2:k<(pN o d.length).length),(pN o d.length)[k]=(o k).length):=λk h h2=>by simp[pN]
 have a9:(pN o d.length).length=d.length:=by simp[pN]
 have HC:=ad (λW (h:Fr w W) k hk=>aF (hc.fr h) k hk);have HS:=ad (λW (h:Fr w W) k hk=>aF (hs.fr h) k hk);have cz:=ad (λW (h:Fr w W)=>hc.fr h);have bt:=ad a9;obtain⟨ca,cc,rfl,_⟩:=hc.shape;obtain⟨V,sc,bx,_⟩:=hs.shape;rw[a9]at bx;subst bx;have HG:=ad (λW (h:Fr w W)=>h.heap hg);clear hc hs a6 hfr a9;generalize hT:rZ d o a b=T at *;clear hT;have x0:=af hg 0 rfl;have aC:=lH d.sum ω;have ba:=lH d.length ω;have K:=ad (U.out d.sum ω);have X:=ad (U.out d.length ω);have b3:=λW va vb V sb=>EC va vb (bE d.sum) (bE d.length) W V sb ω;have L:=ad b3;have b4:Hid (∀m,m=(bE d.sum++bE d.length)->m.length<=20):=λm h=>by rw[h,aM];omega
 clear b3;generalize d.sum=S0 at *;have bb:IntKind.u64.wrap (S0:Int)=(S0:Int):=cW _ ω;have dj:IntKind.u64.wrap (d.length:Int)=(d.length:Int):=cW _ ω;go_in;go_upto_region 1 with fail
 go_region_held3 (λw' => w'.cell? ⟨g, 0, none⟩ = some (.slice ca d.length cc))
  (first | go_keep)
  ((first
    | (go_at_call 104; refine (bq.out _ (cz.out _ (Fr.refl w).drew)).mono ?_; rintro e w1 ⟨rfl, rfl⟩)
    | (go_at_call_of 97 (Value.int IntKind.u64 (S0 : Int)); refine (K.out _).mono ?_; rintro e w2 ⟨v2, rfl, D, z⟩; obtain ⟨p2, z2, ai⟩ := D.shape'; subst ai; have M := z.cell x0)
    | (go_at_call_of 97 (Value.int IntKind.u64 (d.length : Int)); refine (X.out _).mono ?_; rintro e w3 ⟨v3, rfl, F, p⟩; obtain ⟨p3, z3, aj⟩ := F.shape'; subst aj; have O := p.cell M)
    | (go_at_call 46; refine (L.out _ _ _ (D.fr p).see F.see).mono ?_; rintro e w4 ⟨v4, rfl, I, A⟩; have u0 := A.cell O)))
 have bL:Fr w w4:=(Fr.refl w).drew.trans (z.trans (p.trans A));obtain⟨Q,bd⟩:∃Q,Q=bE S0++bE d.length:=⟨_,rfl⟩;have dl:=b4.out Q bd;rw[<- bd]at I HD;have Y:Ow w4 w.heap.size eB v4 Q:=by exact I.rebase (by have:=((Fr.refl w).drew.trans (z.trans p)).size;exact this)
 clear bd b4 L K X bq D F I z p A x0 M O aC ba bb;have c4:w4.cell? ⟨g,0,none⟩=some (.slice ca d.length cc):=u0;clear u0;obtain⟨p4,z4,rfl⟩:=Y.shape';go_wp2;go_loopw [3,27] (λov iv wr=>∃k:Nat,k<=d.length/\iv=N k/\Ow wr w.heap.size eB ov (Q++kU d o k)/\Fr w wr) (λ_ iv _=>d.length-(intOf iv).toNat);·exact⟨0,ax _,rfl,by rw[cn.out,iJ];exact Y,bL⟩
 ·
  clear Y bL c4;obtain⟨k,hk,rfl,R,hf⟩:=hrel;have a2:=HG.out wr hf;have bR:=bs.out k;by_cases am:k<d.length
  ·have x1:=af a2 1 rfl;obtain⟨b1,dv,dz,c8,d1⟩:=HC.out wr hf k am;cases c8;obtain⟨b2,cb,dE,cf,d2⟩:=HS.out wr hf k (by rw[bt.out];exact am);rw[bt.out]at cf;cases cf;rw[cq.out k am]at d2;have dT:=cl.out _ (co am);have eb:=cp.out k;have HN:=ad (cm.out k am);have cC:=bs.out (k+1);generalize ch:kU d o (k+1)=q2 at *;have cE:=ad ch;clear ch;generalize kU d o k=q at *;generalize d[k]=x at *;generalize (o k).length=y at *;have K:=ad (U.out x ω);have X:=ad (U.out y ω);have aC:=lH x ω;have ba:=lH y ω;have cF:k*20<=60*20:=cY _ ω;obtain⟨G,J⟩:∃G,G=Q++q:=⟨_,rfl⟩;rw[<- J]at R;have cL:G.length<=1300:=(by rw[J,aM];omega);have cN:=ad J;have L:=ad (λW va vb vc V sb sc=>EB va vb vc G (bE x) (bE y) W V sb sc ω);clear J bR cC cF;have bb:IntKind.u64.wrap (x:Int)=(x:Int):=cW _ ω;have cR:IntKind.u64.wrap (y:Int)=(y:Int):=cW _ ω;have i1:(0:Int)<=k:=ω;have i2:(k:Int)<d.length:=ω;obtain⟨oa,oc,rfl⟩:=R.shape';go_upto_region 5 with fail
   go_region_held3 (λw' => w'.cell? ⟨g, 1, none⟩ = some (.slice (some ⟨b2, cb, none⟩) d.length sc) ∧ w'.cell? ⟨b2, cb + k, none⟩ = some (N y))
    (first | go_keep)
    ((first
      | (go_at_call_of 97 (Value.int IntKind.u64 (x : Int)); refine (K.out _).mono ?_; rintro e w2 ⟨v2, rfl, D, z⟩; obtain ⟨p2, z2, ai⟩ := D.shape'; subst ai; have M := z.cell x1; have y1 := z.cell d2)
      | (go_at_call_of 97 (Value.int IntKind.u64 (y : Int)); refine (X.out _).mono ?_; rintro e w3 ⟨v3, rfl, F, p⟩; obtain ⟨p3, z3, aj⟩ := F.shape'; subst aj; have O := p.cell M; have z1 := p.cell y1)
      | (go_at_call 46; refine (L.out _ _ _ _ (R.see.fr ((Fr.refl wr).drew.trans (z.trans p))) (D.fr p).see F.see).mono ?_; rintro e w4 ⟨v4, rfl, I, A⟩; have u0 := A.cell O; have u1 := A.cell z1)))
   have Z:Fr w w3:=hf.trans ((Fr.refl wr).drew.trans (z.trans p));have db:=Z.trans A;have Y:=I.rebase Z.size;obtain⟨p4,z4,rfl⟩:=Y.shape';clear x1 d1 d2 M y1 O z1 u0 u1 D F I R z p A Z a2;go_wp2;go_roundw;·exact⟨k+1,ω,γ,by rw[cE.out,HN.out,<- iK,<- iK,<- cN.out];exact Y,db⟩
   ·exact μ
  ·obtain rfl:k=d.length:=ω;have em:¬(d.length:Int)<d.length:=ω;have x2:=af a2 2 rfl;have x3:=af a2 3 rfl;obtain⟨G,J⟩:∃G,G=Q++kU d o d.length:=⟨_,rfl⟩;rw[<- J]at R HD;have cL:G.length<=1300:=(by rw[J,aM];have:d.length*20<=60*20:=cY _ hl;omega);have K:=ad (U.out a ω);have X:=ad (U.out b ω);have aC:=lH a ω;have ba:=lH b ω;have L:=ad (λW va vb vc V sb sc=>EB va vb vc G (bE a) (bE b) W V sb sc ω);rw[<- HD.out]at L;clear J bR;have bb:IntKind.u64.wrap (a:Int)=(a:Int):=cW _ ω;have cR:IntKind.u64.wrap (b:Int)=(b:Int):=cW _ ω;obtain⟨oa,oc,rfl⟩:=R.shape';go_upto_region 7 with fail
   go_region_held3 (λw' => w'.cell? ⟨g, 2, none⟩ = some (N a) ∧ w'.cell? ⟨g, 3, none⟩ = some (N b))
    (first | go_keep)
    ((first
      | (go_at_call 97; refine (K.out _).mono ?_; rintro e w2 ⟨v2, rfl, D, z⟩; obtain ⟨p2, z2, ai⟩ := D.shape'; subst ai; have M := z.cell x2; have y1 := z.cell x3; clear K)
      | (go_at_call 97; refine (X.out _).mono ?_; rintro e w3 ⟨v3, rfl, F, p⟩; obtain ⟨p3, z3, aj⟩ := F.shape'; subst aj; have O := p.cell M; have z1 := p.cell y1)
      | (go_at_call 46; refine (L.out _ _ _ _ (R.see.fr ((Fr.refl wr).drew.trans (z.trans p))) (D.fr p).see F.see).mono ?_; rintro e w4 ⟨v4, rfl, I, A⟩; have u0 := A.cell O; have u1 := A.cell z1)))
   have Z:Fr w w3:=hf.trans ((Fr.refl wr).drew.trans (z.trans p));go_wp2;go_ret;exact⟨_,rfl,I.rebase Z.size,Z.trans A⟩
def wy(B base n q:Nat)(l:U0)(w:World)(z:aw w 247 B base l n q):Calls prog 195 #[.pointer (some ⟨B,0,none⟩)] w λe w'=>∃a d,e=.returned (.slice a (l.length-n) d)/\ao w' eB (.slice a (l.length-n) d) (l.drop n)/\Fr w w':=by
 obtain⟨⟨v,h,o⟩,A⟩:=z;obtain⟨F,d,rfl⟩:=o.shape';obtain⟨G,I,J,p⟩:=gN eB 22 sJ o.see n A;have K:=af h 0 rfl;have L:=af h 1 rfl;have D:=ad p;clear h o p;generalize l.length-n=m at *;go_in;go_wp2;go_quiet (fail);go_wp2;go_ret;exact⟨_,_,rfl,D.out.fr ((Fr.refl w).drewN _),(Fr.refl w).drewN _⟩
def jg(B base n d:Nat)(l:U0)(w:World)(m:aw w 247 B base l n d):Calls prog 122 #[.pointer (some ⟨B,0,none⟩)] w λe w'=>e=.returned (.int .i64 (d:Int))/\w=w':=by
 obtain⟨⟨v,h,o⟩,p⟩:=m;have c2:=af h 2 rfl;clear h o;go_in;go_wp2;go_ret;exact⟨rfl,rfl⟩
def Ha(Bn m k:Nat)(v:Value)(l:U0)(w:World)(d:w.heap[Bn]?=some (.cells #[N k] 3 (0,0)))(h:ao w eB v l)(o:l.length<k):Calls prog 239 #[v,.pointer (some ⟨Bn,0,none⟩),.pointer (some ⟨m,0,none⟩)] w λe w'=>e=.returned (.tuple #[.int .i64 0,.int .i64 1])/\w=w':=by
 obtain⟨p,q,rfl,_⟩:=h.shape;have z:=af d 0 rfl;have A:¬(k:Int)<0:=ω
 have D:(l.length:Int)<k:=ω
 clear h d;go_in;go_wp2;go_ret2;exact⟨rfl,rfl⟩
def GZ(Bn d k:Nat)(v O:Value)(l:U0)(w:World)(I:w.heap[Bn]?=some (.cells #[N k] 3 (0,0)))(J:w.heap[d]?=some (.cells #[O] 22 (0,0)))(Q:Bn≠d)(D:ao w eB v l)(R:k<=l.length)(hl:l.length<=1000000):Calls prog 239 #[v,.pointer (some ⟨Bn,0,none⟩),.pointer (some ⟨d,0,none⟩)] w λe w'=>e=.returned (.tuple #[N k,.int .i64 0])/\∃u,w'.heap[d]?=some (.cells #[u] 22 (0,0))/\Ow w' w.heap.size eB u (l.take k)/\ag (λb=>b=d) w w':=by
 obtain⟨a0,ac,rfl,_⟩:=D.shape;obtain⟨ah,K⟩:=gw eB 22 sJ D k R;have U:=af I 0 rfl;have h1:¬(k:Int)<0:=ω
 have h2:¬(l.length:Int)<k:=ω
 have L:=ad (jY _ (l.take k) w K (by rw[aP];omega));have ak:d<w.heap.size:=(aX.1 J).1;clear D K;generalize l.take k=q at *;go_in;go_wp2_with fail;apply L.z;rintro e F ⟨u,rfl,m,G⟩;obtain⟨p,z,rfl⟩:=m.shape';have o:=G.heap J;have M:=G.heap I;have d0:=af o 0 rfl;have z0:=aB o 0;have A:=ay F ⟨d,0,none⟩ (.slice p q.length z);have V:=aI o 0 (.slice p q.length z);have W:=A.heap M Q;have e0:(F.setCell ⟨d,0,none⟩ (.slice p q.length z)).cell? ⟨Bn,0,none⟩=some (N k):=by rw[aG W];rfl
 have X:=m.chg A (λi Y e=>by have h8:=(m.lt i Y).1;have e:i=d:=e;omega);have Z:ag (λb=>b=d) w (F.setCell ⟨d,0,none⟩ (.slice p q.length z)):=(G.chg _).trans A λ_ _ h=>h;clear m A M o L U;go_wp2;go_ret2;exact⟨rfl,_,V,X,Z⟩
def IW(B base n k Bn d:Nat)(L:Value)(l:U0)(w:World)(G:aw w 247 B base l n 0)(M:w.heap[Bn]?=some (.cells #[N k] 3 (0,0)))(F:w.heap[d]?=some (.cells #[L] 22 (0,0)))(ac:Bn≠d)(hk:n+k<=l.length)(hl:l.length<=1000000)(hb:base<=w.heap.size):Calls prog 181 #[.pointer (some ⟨B,0,none⟩),.func (.func 239) #[] #[.pointer (some ⟨Bn,0,none⟩),.pointer (some ⟨d,0,none⟩)]] w λe w'=>e=.returned (.bool true)/\∃u,w'.heap[d]?=some (.cells #[u] 22 (0,0))/\Ow w' w.heap.size eB u ((l.drop n).take k)/\aw w' 247 B base l (n+k) 0/\ag (λb=>b=d\/b=B) w w':=by
 have O:=ad (jg B base n 0 l w G);have Q:=ad (wy B base n 0 l w G);have ai:(l.drop n).length=l.length-n:=bn ..;have R:=ad (λW v (U:Fr w W) (hs:ao W eB v (l.drop n))=>GZ Bn d k v L (l.drop n) W (U.heap M) (U.heap F) ac hs ω ω);obtain⟨⟨v,o,I⟩,a4⟩:=G;have V:B≠d:=λe=>by rw[e,F]at o;cases o
 have a5:B<w.heap.size:=(aX.1 o).1;have a6:d<w.heap.size:=(aX.1 F).1;have ak:=I.ne_cells o δ;have al:=I.ne_cells F δ;have a7:=aA ((n:Int)+k) ω;clear M ai;generalize l.length-n=m,(l.drop n).take k=q at *;go_in;go_wp2_with fail;apply O.z;rintro e w1 ⟨rfl,rfl⟩;go_wp2_with fail;apply Q.z;rintro e w2 ⟨a,a9,rfl,X,p⟩;have Y:=ad (R.out w2 _ p X);go_wp2_with fail;apply Y.z;rintro e Z ⟨rfl,u,aa,J,K⟩;have z:=K.heap (p.heap o) V;have ab:=(I.fr p).chg K (λi A e=>al (by rw[A,show i=d from e]));have c1:=af z 1 rfl;have z1:=aB z 1;have D:=ay Z ⟨B,1,none⟩ (.int .i64 ((n:Int)+k));have ap:=aI z 1 (.int .i64 ((n:Int)+k));have av:=D.heap aa (λe=>V e.symm);have az:=J.chg D (λi A e=>(J.ne_cells z δ) (by rw[A,show i=B from e]));have a0:=ab.chg D (λi A e=>ak (by rw[A,show i=B from e]));have a1:ag (λb=>b=d\/b=B) w (Z.setCell ⟨B,1,none⟩ (.int .i64 ((n:Int)+k))):=((p.chg _).trans (K.mono λ_ _ h=>.inl h) λ_ _ h=>h).trans D λ_ _ h=>.inr h;clear O Q R Y X aa J z ab D;go_wp2;go_ret;exact⟨rfl,u,av,az.rebase p.size,⟨⟨v,ap,a0⟩,hk⟩,a1⟩
def yV(B base n k:Nat)(l:U0)(w:World)(m:aw w 247 B base l n 0)(L:n+k<=l.length)(M:l.length<=1000000)(O:base<=w.heap.size):Calls prog 177 #[.pointer (some ⟨B,0,none⟩),N k] w λe w'=>∃u,e=.returned u/\Ow w' w.heap.size eB u ((l.drop n).take k)/\aw w' 247 B base l (n+k) 0/\ag (λb=>b=B) w w':=by
 have X:∀(A:Fn) (first D:Array Value) (w:World),(Instr.makeFunc A first D).run prog w=.ok (.func A first D) w:=λ_ _ _ _=>rfl;have Y:B<w.heap.size:=by obtain⟨⟨v,Q,_⟩,_⟩:=m;exact(aX.1 Q).1
 have F:((w.alloc (.cells #[N k] 3)).alloc (.cells #[.slice none 0 0] 22)).heap[w.heap.size]?=some (.cells #[N k] 3 (0,0)):=by rw[gn _ _ _ σ,aD _ _ _ rfl]
 have G:((w.alloc (.cells #[N k] 3)).alloc (.cells #[.slice none 0 0] 22)).heap[w.heap.size+1]?=some (.cells #[.slice none 0 0] 22 (0,0)):=aD _ _ _ σ;have d:Fr w ((w.alloc (.cells #[N k] 3)).alloc (.cells #[.slice none 0 0] 22)):=((Fr.refl w).alloc _).alloc _;have I:=ad (IW B base n k w.heap.size (w.heap.size+1) (.slice none 0 0) l _ (m.fr d) F G ω L M (ar O d.size));have R:w.heap.size<=((w.alloc (.cells #[N k] 3)).alloc (.cells #[.slice none 0 0] 22)).heap.size:=d.size;clear F G m;generalize (l.drop n).take k=q at *;go_in;go_wp2_with fail;apply I.z;rintro e U ⟨rfl,u,J,o,hC,K⟩;have Z:=af J 0 rfl;have V:ag (λb=>b=B) w U:=(d.chg _).trans (G':=λb=>b=w.heap.size+1\/b=B) K λi hi h=>by
  rcases h with h | h;·omega
  ·exact h
 have W:=o.rebase R;obtain⟨p,z,rfl⟩:=o.shape';clear I J o K;go_wp2;go_ret;exact⟨_,rfl,W,hC,V⟩
def uP(B base n:Nat)(l:U0)(w:World)(h:aw w 247 B base l n 0)(q:n+1<=l.length)(z:l.length<=1000000)(A:base<=w.heap.size):Calls prog 118 #[.pointer (some ⟨B,0,none⟩)] w λe w'=>e=.returned (.int .u8 ((l.getD n 0).toNat:Int))/\aw w' 247 B base l (n+1) 0/\ag (λb=>b=B) w w':=by
 have d:=ad (yV B base n 1 l w h q z A);have m:(l.drop n).take 1=[l.getD n 0]:=by rw[ce l n 0 ω,kO ω];rfl
 rw[m]at d;clear m h;generalize l.getD n 0=x at *;go_in;go_wp2_with fail;apply d.z;rintro e D ⟨u,rfl,o,hC,F⟩;obtain⟨b,G,I,rfl,p⟩:=o.see.cell1 Fk.u8 rfl 0 σ;have J:D.cell? ⟨b,G,none⟩=some (.int .u8 (x.toNat:Int)):=p;clear o p d;go_wp2;go_ret;exact⟨rfl,hC,F⟩
def wU(a b:Nat)(d:a<18446744073709551616)(e:b<18446744073709551616):bits .or .u64 (a:Int) (b:Int)=((a ||| b:Nat):Int):=by
 have f:a ||| b<2^64:=Nat.or_lt_two_pow ω ω;show IntKind.u64.wrap ((BitVec.ofInt 64 (a:Int) ||| BitVec.ofInt 64 (b:Int)).toNat:Int)=_;rw[BitVec.toNat_or,fX 64 a ω,fX 64 b ω];exact cW _ ω
def uO(B base n k:Nat)(l:U0)(w:World)(D:aw w 247 B base l n 0)(az:1<=k)(a0:k<=8)(V:n+k<=l.length)(W:l.length<=1000000)(X:base<=w.heap.size):Calls prog 119 #[.pointer (some ⟨B,0,none⟩),N k] w λe w'=>e=.returned (.int .u64 (cd ((l.drop n).take k):Int))/\aw w' 247 B base l (n+k) 0/\ag (λb=>b=B) w w':=by
 have F:=ad (yV B base n k l w D V W X);have m:((l.drop n).take k).length=k:=by rw[aP,bn];omega
 have G:=ad m;have h1:¬(k:Int)<1:=ω
 have h8:¬(8:Int)<k:=ω
 have Y:=ad (λi h=>KS ((l.drop n).take k) i h);have I:Hid (cd (((l.drop n).take k).take k)=cd ((l.drop n).take k)):=by show _=_;rw[dN ω]
 have Z:Hid (cd (((l.drop n).take k).take 0)=0):=rfl;have J:Hid (∀i,i<=k->cd (((l.drop n).take k).take i)<2^(8*i)):=λi K=>by have:=lJ (((l.drop n).take k).take i);rw[aP,m,kf K,show(256:Nat)=2^8 from rfl,<- Nat.pow_mul]at this;exact this
 clear D m;generalize (l.drop n).take k=q at *;go_in;go_wp2_with fail;apply F.z;rintro e w1 ⟨u,rfl,o,hC,ab⟩;obtain⟨p,z,L⟩:=o.shape';rw[G.out]at L;subst L;have HO:=ad o.see;clear o F;go_wp2_with fail;go_loop [5,20] (λxv A=>∃i:Nat,i<=k/\A=N i/\xv=.int .u64 (cd (q.take i):Int)) (λ_ A=>k-(intOf A).toNat);·exact⟨0,ax _,rfl,by rw[Z.out];rfl⟩
 ·
  obtain⟨i,K,rfl,rfl⟩:=hrel;by_cases ai:i<k
  ·have M:i<q.length:=(by rw[G.out];exact ai);obtain⟨b,aj,cp,O,Q⟩:=HO.out.cell1 Fk.u8 rfl i M;simp only[dt]at O;obtain⟨rfl,_,rfl⟩:=O;have d0:w1.cell? ⟨b,aj+i,none⟩=some (.int .u8 (q[i].toNat:Int)):=Q;clear Q;have i1:(i:Int)<k:=ω;have i2:(0:Int)<=i:=ω;have R:=ad (Y.out i M);have ak:=J.out i ω;have al:=J.out (i+1) ω;have a7:=q[i].toNat_lt;generalize q[i].toNat=d at *;have U:(2:Nat)^(8*i)<=2^56:=dn ω ω;have am:(2:Nat)^56=72057594037927936:=δ;have ap:d*2^(8*i)<=255*2^56:=bo ω U;have HB:Hid (bits .or .u64 ((cd (q.take i):Nat):Int) (IntKind.u64.wrap ((d:Int)*2^(8*i)))=((cd (q.take (i+1)):Nat):Int)):=(by show _=_;rw[show(d:Int)*2^(8*i)=((d*2^(8*i):Nat):Int) by simp,cW _ ω,wU _ _ ω ω,R.out]);clear U am ap ak al R;go_wp2_with fail;go_round;·exact⟨i+1,ω,γ,by rw[HB.out]⟩
   ·exact μ
  ·obtain rfl:k=i:=ω;have a8:¬((k:Int)<k):=ω;have HA:=ad I.out;rw[I.out];go_wp2;go_ret;exact⟨rfl,hC,ab⟩
def AY(v:Value)(l:U0)(w:World)(O:ao w eB v l)(hl:l.length<=1000000):Calls prog 245 #[v] w λe w'=>e=.returned (.tuple #[.int .u64 ((bN l).1:Int),N (bN l).2.1,.int .i64 ((bN l).2.2:Int)])/\w=w':=by
 obtain⟨a0,a9,rfl,_⟩:=O.shape;have HS:=ad O;have HN:Hid (bN l=fq 0 0 (l.drop 0)):=rfl;generalize bN l=R at *;go_in;go_wp2_with fail;go_loop [2,9] (λxv G=>∃i x:Nat,i<=l.length/\i<=9/\G=N i/\xv=.int .u64 (x:Int)/\Hid (x<128^i)/\Hid (R=fq i x (l.drop i))) (λ_ G=>l.length-(intOf G).toNat);·exact⟨0,0,ax _,ω,rfl,rfl,by show 0<_;decide,HN.out⟩
 ·
  obtain⟨i,x,hi,Q,rfl,rfl,z,p⟩:=hrel;by_cases U:i<l.length
  ·obtain⟨b,aj,cp,hv,V⟩:=HS.out.cell1 Fk.u8 rfl i U;cases hv;have d0:w.cell? ⟨b,aj+i,none⟩=some (.int .u8 (l[i].toNat:Int)):=V;have q:=ad (Ch l i x U);have W:=l[i].toNat_lt;clear V;generalize l[i].toNat=c at *;have i1:(i:Int)<l.length:=ω;have i2:(0:Int)<=i:=ω;by_cases m:(i=9/\¬c=1)\/(0<i/\c=0)
   ·have d:Hid (R=(0,0,2)):=ad (by rw[p.out,q.out,an m]);clear p q z;by_cases A:i=9
    ·subst A;by_cases h1:c=1;·omega
     ·have I:¬(c:Int)=1:=ω;clear m h1;go_wp2;go_ret3;rw[d.out];exact⟨rfl,rfl⟩
    ·have k0:¬(i:Int)=9:=ω;have I:(0:Int)<i:=ω;have X:c=0:=ω;subst X;clear m A;go_wp2;go_ret3;rw[d.out];exact⟨rfl,rfl⟩
   ·have J:¬(i=9/\¬c=1):=λh=>m (.inl h);have K:=Cg i c x Q W z.out J;have ap:=Ou c W;have F:=ad (Ju i);have av:c%128<128:=jB _ ω;have w1:IntKind.u64.wrap ((c%128:Nat):Int)=((c%128:Nat):Int):=cW _ ω;have w2:=aA (7*(i:Int)) ω;have w3:IntKind.u64.wrap (((c%128:Nat):Int)*2^(7*i))=((c%128*128^i:Nat):Int):=(by rw[cW _ (by rw[show((c%128:Nat):Int)*2^(7*i)=((c%128*2^(7*i):Nat):Int) by simp,<- F.out];omega),F.out];simp);have w4:bits .or .u64 (x:Int) ((c%128*128^i:Nat):Int)=((x+c%128*128^i:Nat):Int):=(by rw[wU _ _ ω ω,F.out,tX _ _ _ (by rw[<- F.out];exact z.out)]);have s1:¬(7*(i:Int))<0:=ω;have s2:(7*(i:Int)).toNat=7*i:=ω;by_cases A:i=9;·have a5:c=1:=ω;have Y:=z.out;subst A a5;have L:(128:Nat)^9=9223372036854775808:=δ;rw[L]at Y;have Z:bits .or .u64 (x:Int) (IntKind.u64.wrap (IntKind.u64.wrap (bits .andNot .u8 1 128)*9223372036854775808))=((x+9223372036854775808:Nat):Int):=(by rw[show IntKind.u64.wrap (IntKind.u64.wrap (bits .andNot .u8 1 128)*9223372036854775808)=((1*2^63:Nat):Int)from by decide +kernel,wU _ _ ω δ,tX _ _ _ ω]);have d:Hid (R=(x+9223372036854775808,10,0)):=ad (by rw[p.out,q.out,ae m,an ω,L]);have HW:=ad Z;clear w1 w2 w3 w4 Z s1 s2 ap av K m J p q z Y L;go_wp2;go_ret3;rw[d.out,HW.out];exact⟨rfl,rfl⟩
    have k0:¬(i:Int)=9:=ω;have aa:=ad K.1;have be:i<=8:=ω;have o:Hid (R=if c<128 then(x+c%128*128^i,i+1,0)else fq (i+1) (x+c%128*128^i) (l.drop (i+1))):=ad (by rw[p.out,q.out,ae m]);have M:=ad m;clear p q m K J A Q;generalize c%128*128^i=y at *;generalize ab:c%128=cm at *;have bk:=ad ab;clear ab;by_cases bl:0<i
    ·have I:(0:Int)<i:=ω;have X:¬(c:Int)=0:=(by have:=M.out;omega);clear M;by_cases D:c<128;·have k3:(c:Int)<128:=ω;have d:Hid (R=(x+y,i+1,0)):=ad (by rw[o.out,an D]);clear o;go_wp2;go_ret3;rw[d.out];exact⟨by simp[N],rfl⟩
     ·have k3:¬(c:Int)<128:=ω;have d:Hid (R=fq (i+1) (x+y) (l.drop (i+1))):=ad (by rw[o.out,ae D]);clear o;go_wp2_with fail;go_round;·exact⟨i+1,x+y,ω,ω,γ,rfl,aa.out,d.out⟩
      ·exact μ
    ·have I:¬(0:Int)<i:=ω;clear M;by_cases D:c<128;·have k3:(c:Int)<128:=ω;have d:Hid (R=(x+y,i+1,0)):=ad (by rw[o.out,an D]);clear o;go_wp2;go_ret3;rw[d.out];exact⟨by simp[N],rfl⟩
     ·have k3:¬(c:Int)<128:=ω;have d:Hid (R=fq (i+1) (x+y) (l.drop (i+1))):=ad (by rw[o.out,ae D]);clear o;go_wp2_with fail;go_round;·exact⟨i+1,x+y,ω,ω,γ,rfl,aa.out,d.out⟩
      ·exact μ
  ·obtain rfl:i=l.length:=ω;have bm:¬((l.length:Int)<l.length):=ω;have d:Hid (R=(0,0,1)):=ad (by rw[p.out,Ci l _ x (au _)]);go_wp2;go_ret3;rw[d.out];exact⟨rfl,rfl⟩
def By(m:Value)(B base n d:Nat)(l:U0)(w:World)(h:aw w 247 B base l n d)(p:¬d=0):Calls prog 181 #[.pointer (some ⟨B,0,none⟩),m] w λe w'=>e=.returned (.bool false)/\w=w':=by
 have o:=ad (jg B base n d l w h);have q:¬(d:Int)=0:=ω
 clear h;go_in;go_wp2_with fail;apply o.z;rintro e z ⟨rfl,rfl⟩;go_wp2;go_ret;exact⟨rfl,rfl⟩
def IU(p:Nat)(q:List Value)(aj:(p=253/\∃a,q=[a])\/(p=182/\∃a b,q=[a,b])\/(p=239/\∃a b,q=[a,b])\/(p=254/\∃a b,q=[a,b]))(G:Nat->Prop)(Q:World->Prop)(B base n k d:Nat)(l:U0)(w:World)(K:aw w 247 B base l n 0)
  (HT:Hid (∀W v,Fr w W->ao W eB v (l.drop n)->Calls prog p (v::q).toArray W λe w'=>e=.returned (.tuple #[N k,.int .i64 (d:Int)])/\Q w'/\ag G W w'))
  (hk:d=0->n+k<=l.length) (hG:∀g,G g->g≠B/\∃V T f,w.heap[g]?=some (.cells V T f)/\T≠5) (hl:l.length<=1000000) :
  Calls prog 181 #[.pointer (some ⟨B,0,none⟩),.func (.func p) #[] q.toArray] w λe w'=>e=.returned (.bool (decide (d=0)))/\∃o,Q o/\ag G w o/\ag (λb=>b=B) o w'/\aw w' 247 B base l (if d=0 then n+k else n) d:=by
 have X:=ad (jg B base n 0 l w K);have Y:=ad (wy B base n 0 l w K);obtain⟨⟨v,Z,L⟩,ak⟩:=K;have al:¬G B:=λh=>(hG B h).1 rfl;have am:∀i,v.ownBlock=some i->¬G i:=λi A h=>by obtain⟨_,V,T,f,h2,h3⟩:=hG i h;exact L.ne_cells h2 h3 A
 have aa:=L.ne_cells Z δ;clear hG;generalize l.length-n=m at *;go_in;go_wp2_with fail;apply X.z;rintro e w1 ⟨rfl,rfl⟩;go_wp2_with fail;apply Y.z;rintro e M ⟨a,cp,rfl,ab,I⟩;have HX:Hid (Calls prog p (.slice a m cp::q).toArray M (λe w'=>e=.returned (.tuple #[N k,.int .i64 (d:Int)])/\Q w'/\ag G M w')):=HT.out M _ I ab;rcases aj with⟨rfl,D,rfl⟩ | ⟨rfl,D,c2,rfl⟩ | ⟨rfl,D,c2,rfl⟩ | ⟨rfl,D,c2,rfl⟩;all_goals go_wp2_with fail
 all_goals apply HX.z
 all_goals rintro e o ⟨rfl,hq,O⟩
 all_goals
  have z:=O.heap (I.heap Z) al;have J:=(L.fr I).chg O am;have ai:ag G w o:=(I.chg _).trans O λ_ _ h=>h;clear X Y HT HX ab;by_cases he:d=0;·subst he;have a1:=hk rfl;have a4:=aA ((n:Int)+k) ω;have D:=af z 1 rfl;have z1:=aB z 1;have F:=ay o ⟨B,1,none⟩ (.int .i64 ((n:Int)+k));have R:=aI z 1 (.int .i64 ((n:Int)+k));have U:=J.chg F (λi A e=>aa (by rw[A,show i=B from e]));clear J;go_wp2;go_ret;exact⟨rfl,o,hq,ai,F,⟨v,R,U⟩,a1⟩
  ·have a5:¬(d:Int)=0:=ω;have D:=af z 2 rfl;have z1:=aB z 2;have F:=ay o ⟨B,2,none⟩ (.int .i64 (d:Int));have R:=aI z 2 (.int .i64 (d:Int));have U:=J.chg F (λi A e=>aa (by rw[A,show i=B from e]));clear J;go_wp2;go_ret;exact⟨rfl,o,hq,ai,F,⟨v,R,U⟩,ak⟩
def tt(m:Nat)(o:List Value)(D:(m=253/\∃a,o=[a])\/(m=182/\∃a b,o=[a,b])\/(m=239/\∃a b,o=[a,b])\/(m=254/\∃a b,o=[a,b]))(G:Nat->Prop)(Q:World->Prop)(B base:Nat)(s:Cs)(r:Nat × Nat × Nat)(l:U0)(w:World)(z:aw w 247 B base l s.at_ s.er)
  (HT:Hid (∀W v,Fr w W->ao W eB v (l.drop s.at_)->Calls prog m (v::o).toArray W λe w'=>e=.returned (.tuple #[N r.2.1,.int .i64 (r.2.2:Int)])/\Q w'/\ag G W w'))
  (hk:r.2.2=0->s.at_+r.2.1<=l.length) (hG:∀g,G g->g≠B/\∃F T f,w.heap[g]?=some (.cells F T f)/\T≠5) (hl:l.length<=1000000) :
  Calls prog 181 #[.pointer (some ⟨B,0,none⟩),.func (.func m) #[] o.toArray] w λe w'=>e=.returned (.bool (decide (s.er=0/\r.2.2=0)))/\(¬s.er=0->w=w')/\∃p,(s.er=0->Q p)/\ag G w p/\ag (λb=>b=B) p w'/\aw w' 247 B base l (s.step r).at_ (s.step r).er:=by
 by_cases d:s.er=0
 ·rw[d]at z;refine(IU m o D G Q B base s.at_ r.2.1 r.2.2 l w z HT hk hG hl).mono ?_;rintro e I ⟨rfl,p,J,K,L,q⟩;refine⟨by simp[d],λh=>absurd d h,p,λ_=>J,K,L,?_⟩;unfold Cs.step;rw[an d];by_cases A:r.2.2=0;·rw[an A]at q ⊢;rw[A]at q;exact q
  ·rw[ae A]at q ⊢;exact q
 ·refine(By _ B base s.at_ s.er l w z d).mono ?_;rintro e I ⟨rfl,rfl⟩;refine⟨by simp[d],λ_=>rfl,w,λh=>absurd h d,ag.refl _ _,ag.refl _ _,?_⟩;unfold Cs.step;rw[ae d];exact z
def CC(d:Nat)(I:d<9223372036854775808)(v:Value)(l:U0)(w:World)(o:ao w eB v l)(J:l.length<=1000000):Calls prog 183 #[v,N d] w λe w'=>e=.returned (.tuple #[N (aE d l).1,N (aE d l).2.1,.int .i64 ((aE d l).2.2:Int)])/\w=w':=by
 have p:=ad (AY v l w o J);have L:=xi l;have h:Hid (aE d l=if(bN l).2.2=0 then(if d<(bN l).1 then(0,0,6)else bN l)else(0,0,(bN l).2.2)):=rfl;obtain⟨M,O,rfl,_⟩:=o.shape;clear o;generalize bN l=q,aE d l=R at *;obtain⟨x,n,z⟩:=q;by_cases A:z=0
 ·subst A;have Q:¬(d:Int)<0:=ω;by_cases D:d<x;·have m:Hid (R=(0,0,6)):=ad (by rw[h.out,an rfl,an D]);have F:(d:Int)<x:=ω;have U:=ad I;have K:IntKind.u64.wrap (d:Int)=(d:Int):=cW _ ω;clear h;go_in;go_wp2_with fail;apply p.z;rintro e G ⟨rfl,rfl⟩;go_wp2;go_ret3;rw[m.out];exact⟨rfl,rfl⟩
  ·have m:Hid (R=(x,n,0)):=ad (by rw[h.out,an rfl,ae D]);have F:¬(d:Int)<x:=ω;have K:IntKind.u64.wrap (d:Int)=(d:Int):=cW _ ω;have V:IntKind.i64.wrap (x:Int)=(x:Int):=aA _ ω;clear h;go_in;go_wp2_with fail;apply p.z;rintro e G ⟨rfl,rfl⟩;go_wp2;go_ret3;rw[m.out];exact⟨rfl,rfl⟩
 ·have m:Hid (R=(0,0,z)):=(by show _=_;rw[h.out];simp only;rw[ae A]);have F:¬(z:Int)=0:=ω;clear h;go_in;go_wp2_with fail;apply p.z;rintro e G ⟨rfl,rfl⟩;go_wp2;go_ret3;rw[m.out];exact⟨rfl,rfl⟩
def Kf(d:Nat)(o v:Value)(l:U0)(w:World)(h:w.heap[d]?=some (.cells #[o] 52 (0,0)))(m:ao w eB v l)(p:l.length<=1000000):Calls prog 253 #[v,.pointer (some ⟨d,0,none⟩)] w λe w'=>e=.returned (.tuple #[N (bN l).2.1,.int .i64 ((bN l).2.2:Int)])/\w'.heap[d]?=some (.cells #[.int .u64 ((bN l).1:Int)] 52 (0,0))/\ag (λb=>b=d) w w':=by
 have z:=ad (AY v l w m p);have F:=af h 0 rfl;have G:=aB h 0;have A:=ay w ⟨d,0,none⟩ (.int .u64 ((bN l).1:Int));have D:=aI h 0 (.int .u64 ((bN l).1:Int));obtain⟨I,J,rfl,_⟩:=m.shape;clear m;generalize bN l=q at *;go_in;go_wp2_with fail;apply z.z;rintro e K ⟨rfl,rfl⟩;go_wp2;go_ret2;exact⟨rfl,D,A⟩
def Lk(d:Nat)(z:d<9223372036854775808)(p h:Nat)(A v:Value)(l:U0)(w:World)(D:w.heap[p]?=some (.cells #[N d] 3 (0,0)))(m:w.heap[h]?=some (.cells #[A] 3 (0,0)))(o:ao w eB v l)(F:l.length<=1000000):Calls prog 182 #[v,.pointer (some ⟨p,0,none⟩),.pointer (some ⟨h,0,none⟩)] w λe w'=>e=.returned (.tuple #[N (aE d l).2.1,.int .i64 ((aE d l).2.2:Int)])/\w'.heap[h]?=some (.cells #[N (aE d l).1] 3 (0,0))/\ag (λb=>b=h) w w':=by
 have G:=ad (CC d z v l w o F);have K:=af D 0 rfl;have L:=af m 0 rfl;have M:=aB m 0;have I:=ay w ⟨h,0,none⟩ (N (aE d l).1);have J:=aI m 0 (N (aE d l).1);obtain⟨O,Q,rfl,_⟩:=o.shape;clear o;generalize aE d l=q at *;go_in;go_wp2_with fail;apply G.z;rintro e R ⟨rfl,rfl⟩;go_wp2;go_ret2;exact⟨rfl,J,I⟩
def Qs(B base:Nat)(s:Cs)(l:U0)(w:World)(z:aw w 247 B base l s.at_ s.er)(Q:l.length<=1000000):Calls prog 196 #[.pointer (some ⟨B,0,none⟩)] w λe w'=>e=.returned (.int .u64 ((s.num l).1:Int))/\aw w' 247 B base l (s.num l).2.at_ (s.num l).2.er/\ag (λb=>b=B) w w':=by
 have ac:∀(J:Fn) (first K:Array Value) (w:World),(Instr.makeFunc J first K).run prog w=.ok (.func J first K) w:=λ_ _ _ _=>rfl;have ah:B<w.heap.size:=by obtain⟨⟨v,R,_⟩,_⟩:=z;exact(aX.1 R).1
 have D:(w.alloc (.cells #[.int .u64 0] 52)).heap[w.heap.size]?=some (.cells #[.int .u64 0] 52 (0,0)):=aD _ _ _ rfl;have F:Fr w (w.alloc (.cells #[.int .u64 0] 52)):=(Fr.refl w).alloc _;have L:(l.drop s.at_).length<=1000000:=by rw[bn];omega
 have U:s.at_<=l.length:=z.le
 have m := ad (tt 253 [.pointer (some ⟨w.heap.size, 0, none⟩)] (.inl ⟨rfl, _, rfl⟩) (fun b => b = w.heap.size) (fun W => W.heap[w.heap.size]? = some (.cells #[.int .u64 ((bN (l.drop s.at_)).1 : Int)] 52 (0, 0))) B base s (bN (l.drop s.at_)) l _ (z.fr F)
   (ad λW v V X => (Kf w.heap.size _ v _ W (V.heap D) X L)) (λh => by have := tN _ h; rw[bn] at this; omega)
   (by intro g Y; obtain rfl : g = w.heap.size := Y; exact ⟨ω, _, _, _, D, by decide⟩) Q)
 have M:Hid (s.num l=(s.val (bN (l.drop s.at_)),s.step (bN (l.drop s.at_)))):=rfl;have A:Hid (s.val (bN (l.drop s.at_))=if s.er=0/\(bN (l.drop s.at_)).2.2=0 then(bN (l.drop s.at_)).1 else 0):=rfl;rw[M.out];clear D z L U M;generalize bN (l.drop s.at_)=q,s.val (bN (l.drop s.at_))=x2,s.step (bN (l.drop s.at_))=s2 at *;by_cases d:s.er=0/\q.2.2=0;·rw[bz d]at m;rw[an d]at A;have Z:=ad d.1;clear d;go_in;go_wp2_with fail;apply m.z;rintro e G ⟨rfl,_,w2,hQ,p,o,hC⟩;have O:=o.heap (hQ Z.out) ω;have c1:=af O 0 rfl;have I:ag (λb=>b=B) w G:=((F.chg _).trans (G':=λb=>b=w.heap.size) p λi hi h=>by omega).trans o λi _ h=>h;clear m p o hQ O;go_wp2;go_ret;rw[A.out];exact⟨rfl,hC,I⟩
 ·rw[bw d]at m;rw[ae d]at A;clear d;go_in;go_wp2_with fail;apply m.z;rintro e G ⟨rfl,_,w2,hQ,p,o,hC⟩;have I:ag (λb=>b=B) w G:=((F.chg _).trans (G':=λb=>b=w.heap.size) p λi hi h=>by omega).trans o λi _ h=>h;clear m p o hQ;go_wp2;go_ret;rw[A.out];exact⟨rfl,hC,I⟩
def pp(d:Nat)(V:d<9223372036854775808)(B base:Nat)(s:Cs)(l:U0)(w:World)(A:aw w 247 B base l s.at_ s.er)(X:l.length<=1000000):Calls prog 121 #[.pointer (some ⟨B,0,none⟩),N d] w λe w'=>e=.returned (N (s.int l d).1)/\aw w' 247 B base l (s.int l d).2.at_ (s.int l d).2.er/\ag (λb=>b=B) w w':=by
 have aj:∀(K:Fn) (first L:Array Value) (w:World),(Instr.makeFunc K first L).run prog w=.ok (.func K first L) w:=λ_ _ _ _=>rfl;have ak:B<w.heap.size:=by obtain⟨⟨v,Y,_⟩,_⟩:=A;exact(aX.1 Y).1
 have M:((w.alloc (.cells #[N d] 3)).alloc (.cells #[.int .i64 0] 3)).heap[w.heap.size]?=some (.cells #[N d] 3 (0,0)):=by rw[gn _ _ _ σ,aD _ _ _ rfl]
 have F:((w.alloc (.cells #[N d] 3)).alloc (.cells #[.int .i64 0] 3)).heap[w.heap.size+1]?=some (.cells #[.int .i64 0] 3 (0,0)):=aD _ _ _ σ;have G:Fr w ((w.alloc (.cells #[N d] 3)).alloc (.cells #[.int .i64 0] 3)):=((Fr.refl w).alloc _).alloc _;have O:(l.drop s.at_).length<=1000000:=by rw[bn];omega
 have Z:s.at_<=l.length:=A.le
 have o := ad (tt 182 [.pointer (some ⟨w.heap.size, 0, none⟩), .pointer (some ⟨w.heap.size + 1, 0, none⟩)] (.inr (.inl ⟨rfl, _, _, rfl⟩)) (fun b => b = w.heap.size + 1) (fun W => W.heap[w.heap.size + 1]? = some (.cells #[N (aE d (l.drop s.at_)).1] 3 (0, 0))) B base s (aE d (l.drop s.at_)) l _ (A.fr G)
   (ad λW v Q hs => (Lk d V w.heap.size (w.heap.size + 1) _ v _ W (Q.heap M) (Q.heap F) hs O)) (λh => by have := jN _ _ h; rw[bn] at this; omega)
   (by intro g hg; obtain rfl : g = w.heap.size + 1 := hg; exact ⟨ω, _, _, _, F, by decide⟩) X)
 have R:Hid (s.int l d=(s.val (aE d (l.drop s.at_)),s.step (aE d (l.drop s.at_)))):=rfl;have D:Hid (s.val (aE d (l.drop s.at_))=if s.er=0/\(aE d (l.drop s.at_)).2.2=0 then(aE d (l.drop s.at_)).1 else 0):=rfl;rw[R.out];clear M F A O Z R;generalize aE d (l.drop s.at_)=q,s.val (aE d (l.drop s.at_))=x2,s.step (aE d (l.drop s.at_))=s2 at *;by_cases m:s.er=0/\q.2.2=0;·rw[bz m]at o;rw[an m]at D;have h0:=ad m.1;clear m;go_in;go_wp2_with fail;apply o.z;rintro e I ⟨rfl,_,w2,hQ,z,p,hC⟩;have U:=p.heap (hQ h0.out) ω;have c1:=af U 0 rfl;have J:ag (λb=>b=B) w I:=((G.chg _).trans (G':=λb=>b=w.heap.size+1) z λi hi h=>by omega).trans p λi _ h=>h;clear o z p hQ U;go_wp2;go_ret;rw[D.out];exact⟨rfl,hC,J⟩
 ·rw[bw m]at o;rw[ae m]at D;clear m;go_in;go_wp2_with fail;apply o.z;rintro e I ⟨rfl,_,w2,hQ,z,p,hC⟩;have J:ag (λb=>b=B) w I:=((G.chg _).trans (G':=λb=>b=w.heap.size+1) z λi hi h=>by omega).trans p λi _ h=>h;clear o z p hQ;go_wp2;go_ret;rw[D.out];exact⟨rfl,hC,J⟩
def GP(d:Nat)(O:d<9223372036854775808)(G p:Nat)(v:Value)(l:U0)(w:World)(Q:w.heap[G]?=some (.cells #[N d] 3 (0,0)))(z:w.heap[p]?=some (.cells #[S []] 9 (0,0)))(o:ao w eB v l)(R:l.length<=1000000):Calls prog 254 #[v,.pointer (some ⟨G,0,none⟩),.pointer (some ⟨p,0,none⟩)] w λe w'=>e=.returned (.tuple #[N (fy d l).2.1,.int .i64 ((fy d l).2.2:Int)])/\w'.heap[p]?=some (.cells #[S (fy d l).1] 9 (0,0))/\ag (λb=>b=p) w w':=by
 have A:=ad (CC d O v l w o R);have m0:=af Q 0 rfl;have c0:=af z 0 rfl;have z0:=aB z 0;have m:Hid (fy d l=if(aE d l).2.2=0 then(if l.length<(aE d l).2.1+(aE d l).1 then([],0,1)else((l.drop (aE d l).2.1).take (aE d l).1,(aE d l).2.1+(aE d l).1,0))else([],0,(aE d l).2.2)):=rfl;have F:=jN d l;obtain⟨U,V,rfl,_⟩:=o.shape;generalize fy d l=T at *;by_cases h:(aE d l).2.2=0
 ·have I:=F h;rw[an h]at m;have aj:=aA ((l.length:Int)-((aE d l).2.1:Int)) ω;by_cases D:l.length<(aE d l).2.1+(aE d l).1;·rw[an D]at m;have X:(l.length:Int)-((aE d l).2.1:Int)<((aE d l).1:Int):=ω;clear o F I D;rw[h]at A;clear h;generalize (aE d l).2.1=n,(aE d l).1=x at *;go_in;go_wp2_with fail;apply A.z;rintro e J ⟨rfl,rfl⟩;go_wp2;go_ret2;rw[m.out];exact⟨rfl,z,ag.refl _ _⟩
  ·rw[ae D]at m;have X:¬(l.length:Int)-((aE d l).2.1:Int)<((aE d l).1:Int):=ω;have K:(l.take ((aE d l).2.1+(aE d l).1)).drop (aE d l).2.1=(l.drop (aE d l).2.1).take (aE d l).1:=(by rw[lQ,nt]);obtain⟨Y,Z,L,M⟩:=l9 eB 22 sJ o (aE d l).2.1 ((aE d l).2.1+(aE d l).1) ω ω;rw[K,nt]at *;have ak:∀W,(Instr.slice 22 (.slice U l.length V) (some (.int .i64 ((aE d l).2.1:Int))) (some (.int .i64 (((aE d l).2.1:Int)+((aE d l).1:Int)))) none).run prog W=.ok (.slice Y (aE d l).1 Z) W:=L;have al:=mX _ _ w M;have am:=aA (((aE d l).2.1:Int)+((aE d l).1:Int)) ω;have aa:=ay w ⟨p,0,none⟩ (S ((l.drop (aE d l).2.1).take (aE d l).1));have ab:=aI z 0 (S ((l.drop (aE d l).2.1).take (aE d l).1));clear o F I D M L K;rw[h]at A;clear h;generalize (aE d l).2.1=n,(aE d l).1=x,(l.drop (aE d l).2.1).take (aE d l).1=q at *;go_in;go_wp2_with fail;apply A.z;rintro e J ⟨rfl,rfl⟩;go_wp2;go_ret2;rw[m.out];exact⟨σ,ab,aa⟩
 ·rw[ae h]at m;have D:¬((aE d l).2.2:Int)=0:=ω;clear o F h;generalize (aE d l).2.2=er at *;go_in;go_wp2_with fail;apply A.z;rintro e J ⟨rfl,rfl⟩;go_wp2;go_ret2;rw[m.out];exact⟨rfl,z,ag.refl _ _⟩
def yU(d:Nat)(Z:d<9223372036854775808)(B base:Nat)(s:Cs)(l:U0)(w:World)(p:aw w 247 B base l s.at_ s.er)(hl:l.length<=1000000):Calls prog 197 #[.pointer (some ⟨B,0,none⟩),N d] w λe w'=>e=.returned (S (s.text l d).1)/\aw w' 247 B base l (s.text l d).2.at_ (s.text l d).2.er/\ag (λb=>b=B) w w':=by
 have al:∀(G:Fn) (first I:Array Value) (w:World),(Instr.makeFunc G first I).run prog w=.ok (.func G first I) w:=λ_ _ _ _=>rfl;have am:B<w.heap.size:=by obtain⟨⟨v,h1,_⟩,_⟩:=p;exact(aX.1 h1).1
 obtain⟨m,o⟩:∃m,m=(w.alloc (.cells #[N d] 3)).alloc (.cells #[S []] 9):=⟨_,rfl⟩;have J:m.heap[w.heap.size]?=some (.cells #[N d] 3 (0,0)):=by rw[o,gn _ _ _ σ,aD _ _ _ rfl]
 have z:m.heap[w.heap.size+1]?=some (.cells #[S []] 9 (0,0)):=by rw[o];exact aD _ _ _ σ
 have K:Fr w m:=by rw[o];exact((Fr.refl w).alloc _).alloc _
 have L:(l.drop s.at_).length<=1000000:=by rw[bn];omega
 have ac:s.at_<=l.length:=p.le
 have M := ad (tt 254 [.pointer (some ⟨w.heap.size, 0, none⟩), .pointer (some ⟨w.heap.size + 1, 0, none⟩)] (.inr (.inr (.inr ⟨rfl, _, _, rfl⟩))) (fun b => b = w.heap.size + 1) (fun W => W.heap[w.heap.size + 1]? = some (.cells #[S (fy d (l.drop s.at_)).1] 9 (0, 0))) B base s (0, (fy d (l.drop s.at_)).2) l m (p.fr K)
   (ad λW v O hs => (GP d Z w.heap.size (w.heap.size + 1) v _ W (O.heap J) (O.heap z) hs L)) (λh => by have := (sU _ _ h).2.1; rw[bn] at this; show s.at_ + (fy d (l.drop s.at_)).2.1 ≤ _; omega)
   (by intro g hg; obtain rfl : g = w.heap.size + 1 := hg; exact ⟨ω, _, _, _, z, by decide⟩) hl)
 have Q:Hid (s.text l d=(if s.er=0 then(fy d (l.drop s.at_)).1 else [],s.step (0,(fy d (l.drop s.at_)).2))):=rfl;rw[Q.out];clear J p L ac Q;generalize (fy d (l.drop s.at_)).1=q,decide (s.er=0/\(0,(fy d (l.drop s.at_)).2).2.2=0)=ok,s.step (0,(fy d (l.drop s.at_)).2)=s2 at *;have R:=ad z;obtain⟨A,D⟩:∃A,A=(if s.er=0 then q else []):=⟨_,rfl⟩;rw[<- D];have aj:=ad D;clear D;clear z;go_in;go_wp2_with fail;rw[<- o];apply M.z;rintro e U ⟨rfl,V,w2,hQ,X,F,hC⟩;have ak:ag (λb=>b=B) w U:=((K.chg _).trans (G':=λb=>b=w.heap.size+1) X λi hi h=>by omega).trans F λi _ h=>h;have Y:U.heap[w.heap.size+1]?=some (.cells #[S A] 9 (0,0)):=by
  rw[aj.out];by_cases h:s.er=0;·rw[an h];exact F.heap (hQ h) ω
  ·rw[ae h,<- V h];exact R.out
 have c1:=af Y 0 rfl;clear M X F hQ Y V R o;go_wp2;go_ret;exact⟨rfl,hC,ak⟩
def EJ(B base k:Nat)(s:Cs)(l:U0)(w:World)(m:aw w 247 B base l s.at_ s.er)(Z:¬s.er=0\/l.length<s.at_+k)(hl:l.length<=1000000):Calls prog 177 #[.pointer (some ⟨B,0,none⟩),N k] w λe w'=>e=.returned (.slice none 0 0)/\aw w' 247 B base l (s.step (0,0,1)).at_ (s.step (0,0,1)).er/\ag (λb=>b=B) w w':=by
 have al:∀(D:Fn) (first F:Array Value) (w:World),(Instr.makeFunc D first F).run prog w=.ok (.func D first F) w:=λ_ _ _ _=>rfl;have am:B<w.heap.size:=by obtain⟨⟨v,q,_⟩,_⟩:=m;exact(aX.1 q).1
 obtain⟨d,o⟩:∃d,d=(w.alloc (.cells #[N k] 3)).alloc (.cells #[.slice none 0 0] 22):=⟨_,rfl⟩;have G:d.heap[w.heap.size]?=some (.cells #[N k] 3 (0,0)):=by rw[o,gn _ _ _ σ,aD _ _ _ rfl]
 have I:d.heap[w.heap.size+1]?=some (.cells #[.slice none 0 0] 22 (0,0)):=by rw[o];exact aD _ _ _ σ
 have p:Fr w d:=by rw[o];exact((Fr.refl w).alloc _).alloc _
 have J:(l.drop s.at_).length=l.length-s.at_:=by rw[bn]
 have K:Hid (∃R:Ending->World->Prop,Calls prog 181 #[.pointer (some ⟨B,0,none⟩),.func (.func 239) #[] #[.pointer (some ⟨w.heap.size,0,none⟩),.pointer (some ⟨w.heap.size+1,0,none⟩)]] d R/\∀e w',R e w'->(∃b,e=.returned (.bool b))/\ag (λb=>b=B) d w'/\aw w' 247 B base l (s.step (0,0,1)).at_ (s.step (0,0,1)).er):=by
  by_cases L:s.er=0;·have HT:Hid (∀W v,Fr d W->ao W eB v (l.drop s.at_)->Calls prog 239 (v::[.pointer (some ⟨w.heap.size,0,none⟩),.pointer (some ⟨w.heap.size+1,0,none⟩)]).toArray W λe w'=>e=.returned (.tuple #[N (0:Nat),.int .i64 ((1:Nat):Int)])/\True/\ag (λ_=>False) W w'):=λW v hW hs=>(Ha w.heap.size (w.heap.size+1) k v _ W (hW.heap G) hs (by rw[J];have:=m.le;omega)).mono (by rintro e w' ⟨rfl,rfl⟩;exact⟨rfl,trivial,ag.refl _ _⟩);refine⟨_,tt 239 [.pointer (some ⟨w.heap.size,0,none⟩),.pointer (some ⟨w.heap.size+1,0,none⟩)] (.inr (.inr (.inl ⟨rfl,_,_,rfl⟩))) (λ_=>False) (λ_=>True) B base s (0,0,1) l d (m.fr p) HT (λh=>by cases h) (λg h=>h.elim) hl,?_⟩;rintro e w' ⟨rfl,_,z,_,q,h2,h3⟩;exact⟨⟨_,rfl⟩,(q.mono λ_ _ h=>h.elim).trans h2 λ_ _ h=>h,h3⟩
  ·refine⟨_,By _ B base s.at_ s.er l d (m.fr p) L,?_⟩;rintro e w' ⟨rfl,rfl⟩;refine⟨⟨_,rfl⟩,ag.refl _ _,?_⟩;unfold Cs.step;rw[ae L];exact m.fr p
 obtain⟨R,M,O⟩:=K.out;have Q:=ad M;have U:=ad O;have V:=ad I;clear K M O G I J Z;generalize s.step (0,0,1)=s2 at *;go_in;go_wp2_with fail;rw[<- o];apply Q.z;intro e z X;obtain⟨⟨b,rfl⟩,A,hC⟩:=U.out e z X;have Y:=A.heap V.out ω;have c1:=af Y 0 rfl;have ak:ag (λb=>b=B) w z:=(p.chg _).trans A λ_ _ h=>h;clear Q U V X Y A o;go_wp2;go_ret;exact⟨rfl,hC,ak⟩
def yW(B base k:Nat)(s:Cs)(l:U0)(w:World)(o:aw w 247 B base l s.at_ s.er)(p:l.length<=1000000)(A:base<=w.heap.size):Calls prog 177 #[.pointer (some ⟨B,0,none⟩),N k] w λe w'=>∃u,e=.returned u/\Ow w' w.heap.size eB u (s.take l k).1/\aw w' 247 B base l (s.take l k).2.at_ (s.take l k).2.er/\ag (λb=>b=B) w w':=by
 by_cases d:s.er=0
 ·by_cases q:l.length<s.at_+k;·refine(EJ B base k s l w o (.inr q) p).mono ?_;rintro e w' ⟨rfl,hC,h⟩;have m:s.take l k=([],⟨s.at_,1⟩):=(by unfold Cs.take;rw[an d,an q]);have z:s.step (0,0,1)=⟨s.at_,1⟩:=(by unfold Cs.step;rw[an d,ae δ]);rw[m];rw[z]at hC;exact⟨_,rfl,Ow.nil,hC,h⟩
  ·rw[d]at o;refine(yV B base s.at_ k l w o ω p A).mono ?_;rintro e w' ⟨u,rfl,D,hC,h⟩;have m:s.take l k=((l.drop s.at_).take k,⟨s.at_+k,0⟩):=(by unfold Cs.take;rw[an d,ae q]);rw[m];exact⟨u,rfl,D,hC,h⟩
 ·refine(EJ B base k s l w o (.inl d) p).mono ?_;rintro e w' ⟨rfl,hC,h⟩;have m:s.take l k=([],s):=(by unfold Cs.take;rw[ae d]);have z:s.step (0,0,1)=s:=(by unfold Cs.step;rw[ae d]);rw[m];rw[z]at hC;exact⟨_,rfl,Ow.nil,hC,h⟩
def Hb(s:Cs)(l:U0):(s.take l 1).1=[]\/∃x,(s.take l 1).1=[x]:=by
 unfold Cs.take;split
 ·split;·exact .inl rfl
  ·show(l.drop s.at_).take 1=[]\/∃x,(l.drop s.at_).take 1=[x]
   cases l.drop s.at_ with
   | nil=>exact .inl rfl
   | cons x t=>exact .inr ⟨x,rfl⟩
 ·exact .inl rfl
def F0(B base:Nat)(s:Cs)(l:U0)(w:World)(o:aw w 247 B base l s.at_ s.er)(G:l.length<=1000000)(I:base<=w.heap.size):Calls prog 118 #[.pointer (some ⟨B,0,none⟩)] w λe w'=>e=.returned (.int .u8 ((s.byte l).1:Int))/\aw w' 247 B base l (s.byte l).2.at_ (s.byte l).2.er/\ag (λb=>b=B) w w':=by
 have h:=ad (yW B base 1 s l w o G I);have A:Hid (s.byte l=((((s.take l 1).1).getD 0 0).toNat,(s.take l 1).2)):=rfl;rw[A.out];have J:=Hb s l;clear o A;generalize (s.take l 1).2=s2,(s.take l 1).1=q at *;rcases J with rfl | ⟨x,rfl⟩;·go_in;go_wp2_with fail;apply h.z;rintro e D ⟨u,rfl,d,hC,m⟩;obtain⟨p,z,rfl⟩:=d.shape';clear h d;go_wp2;go_ret;exact⟨rfl,hC,m⟩
 ·go_in;go_wp2_with fail;apply h.z;rintro e D ⟨u,rfl,d,hC,m⟩;obtain⟨b,K,L,rfl,F⟩:=d.see.cell1 Fk.u8 rfl 0 σ;have M:D.cell? ⟨b,K,none⟩=some (.int .u8 (x.toNat:Int)):=F;clear d F h;go_wp2;go_ret;exact⟨rfl,hC,m⟩
def Fm(B base n d:Nat)(l:U0)(w:World)(h:aw w 247 B base l n d):Calls prog 132 #[.pointer (some ⟨B,0,none⟩)] w λe w'=>e=.returned (N (l.length-n))/\Fr w w':=by
 have o:=ad (wy B base n d l w h);clear h;generalize l.length-n=m at *;go_in;go_wp2_with fail;apply o.z;rintro e q ⟨a,z,rfl,_,p⟩;clear o;go_wp2;go_ret;exact⟨rfl,p⟩
def sy(B base n h:Nat)(l:U0)(w:World)(m:aw w 247 B base l n h):Calls prog 131 #[.pointer (some ⟨B,0,none⟩)] w λe w'=>e=.returned (N n)/\w=w':=by
 obtain⟨⟨v,d,o⟩,p⟩:=m;have q:=af d 1 rfl;clear d o;go_in;go_wp2;go_ret;exact⟨rfl,rfl⟩
def sw(d:Nat)(B base:Nat)(s:Cs)(l:U0)(w:World)(A:aw w 247 B base l s.at_ s.er):Calls prog 178 #[.pointer (some ⟨B,0,none⟩),.int .i64 (d:Int)] w λe w'=>e=.returned (.tuple #[])/\aw w' 247 B base l (s.fail d).at_ (s.fail d).er/\ag (λb=>b=B) w w':=by
 obtain⟨⟨v,h,m⟩,q⟩:=A;have c2:=af h 2 rfl;by_cases o:s.er=0;·have p:Hid (s.fail d=⟨s.at_,d⟩):=(by show _=_;unfold Cs.fail;rw[an o]);rw[o]at c2;have K:=aB h 2;have D:=m.ne_cells h δ;have z:=ay w ⟨B,2,none⟩ (.int .i64 (d:Int));have F:=aI h 2 (.int .i64 (d:Int));have G:=m.chg z (λi I e=>D (by rw[I,show i=B from e]));clear m o;go_in;go_wp2;go_end0;rw[p.out];exact⟨rfl,⟨⟨v,F,G⟩,q⟩,z⟩
 ·have p:Hid (s.fail d=s):=(by show _=_;unfold Cs.fail;rw[ae o]);have L:¬(s.er:Int)=0:=ω;have J:=ad (aw.mk ⟨v,h,m⟩ q);clear h m o;go_in;go_wp2;go_end0;rw[p.out];exact⟨rfl,J.out,ag.refl _ _⟩
def Fx(B base:Nat)(s:Cs)(l:U0)(w:World)(d:aw w 247 B base l s.at_ s.er):Calls prog 123 #[.pointer (some ⟨B,0,none⟩)] w λe w'=>e=.returned (.int .i64 ((s.fin l).er:Int))/\aw w' 247 B base l (s.fin l).at_ (s.fin l).er/\ag (λb=>b=B) w w':=by
 have A:=ad (Fm B base s.at_ s.er l w d);have J:=d.le;by_cases D:s.at_<l.length
 ·have q:Hid (s.fin l=s.fail 2):=by
    show _=_;unfold Cs.fin Cs.fail;by_cases h:s.er=0;·rw[an ⟨h,D⟩,an h]
    ·rw[ae (λe=>h e.1),ae h]
  rw[q.out];have K:=ad (λW (h:Fr w W)=>sw 2 B base s l W (d.fr h));have F:=ad (λ(o:Cs) W (h:aw W 247 B base l o.at_ o.er)=>jg B base o.at_ o.er l W h);obtain⟨m,z⟩:∃m,m=l.length-s.at_:=⟨_,rfl⟩;have U:(0:Int)<m:=ω;rw[<- z]at A;clear d z D J q;generalize s.fail 2=o at *;go_in;go_wp2_with fail;apply A.z;rintro e G ⟨rfl,p⟩;have L:=ad (K.out G p);go_wp2_with fail;apply L.z;rintro e M ⟨rfl,hC,O⟩;have I:=ad (F.out o M hC);go_wp2_with fail;apply I.z;rintro e Q ⟨rfl,rfl⟩;go_wp2;go_ret;exact⟨rfl,hC,(p.chg _).trans O λ_ _ h=>h⟩
 ·have q:Hid (s.fin l=s):=(by show _=_;unfold Cs.fin;rw[ae (λe=>D e.2)]);rw[q.out];have F:=ad (λW (h:Fr w W)=>jg B base s.at_ s.er l W (d.fr h));have R:=ad d;obtain z:l.length-s.at_=0:=ω;rw[z]at A;clear d z D J q;go_in;go_wp2_with fail;apply A.z;rintro e G ⟨rfl,p⟩;have I:=ad (F.out G p);go_wp2_with fail;apply I.z;rintro e Q ⟨rfl,rfl⟩;go_wp2;go_ret;exact⟨rfl,R.out.fr p,p.chg _⟩
def Cx(l:U0)(h:l.length<=4):eE l=(0,1):=by unfold eE;rw[an h]
def Cz(l:U0)(h:¬l.length<=4)(d:¬l.take 4=[70,73,82,75]):eE l=(0,3):=by unfold eE;rw[ae h,ae d]
def Cw(l:U0)(h:¬l.length<=4)(d:l.take 4=[70,73,82,75])(e:1<=(l.getD 4 0).toNat/\(l.getD 4 0).toNat<=3):eE l=((l.getD 4 0).toNat,0):=by unfold eE;rw[ae h,an d,an e]
def Cy(l:U0)(h:¬l.length<=4)(d:l.take 4=[70,73,82,75])(e:¬(1<=(l.getD 4 0).toNat/\(l.getD 4 0).toNat<=3)):eE l=(0,4):=by unfold eE;rw[ae h,an d,ae e]
def Qq(v:Value)(l:U0)(w:World)(p:ao w eB v l):Calls prog 176 #[v] w λe w'=>e=.returned (.tuple #[N (eE l).1,.int .i64 ((eE l).2:Int)])/\Fr w w':=by
 obtain⟨U,V,rfl,X,I,_⟩:=p.shape;unfold maxLen at I;by_cases o:l.length<=4;·have J:(l.length:Int)<=4:=ω;have m:=ad (Cx l o);rw[m.out];go_in;go_wp2;go_ret2;exact⟨rfl,Fr.refl w⟩
 ·have J:¬(l.length:Int)<=4:=ω;obtain⟨Y,D⟩:=gw eB 22 sJ p 4 ω;have q:=λW (h:Fr w W)=>mX _ (l.take 4) W (D.fr h);have Z:=ad q;have K:=q w (Fr.refl w);clear q;have i1:(4:Int)<l.length:=ω;by_cases d:l.take 4=[70,73,82,75]
  ·rw[d]at K;obtain⟨b,L,cp,F,z⟩:=p.cell1 Fk.u8 rfl 4 ω;simp only[dt]at F;obtain⟨rfl,M,rfl⟩:=F;clear M;rw[<- ce l 4 0 ω]at z;have ac:w.cell? ⟨b,L+4,none⟩=some (.int .u8 ((l.getD 4 0).toNat:Int)):=z;have O:=ad (Cw l o d);have Q:=ad (Cy l o d);have R:=ad (λx=>mN x 1 3);have ah:=(l.getD 4 0).toNat_lt;generalize eE l=mv,(l.getD 4 0).toNat=x at *;have ai:IntKind.i64.wrap (x:Int)=(x:Int):=dS _ ω;clear z D d;go_in;go_wp2_with fail;refine((R.out _) _).mono ?_;rintro e w1 ⟨rfl,rfl⟩;by_cases G:1<=x/\x<=3;·have m:=ad (O.out G);have A:decide ((1:Int)<=(x:Int)/\(x:Int)<=3)=true:=bz ω;rw[A];go_wp2;go_ret2;exact⟨by rw[m.out];rfl,Fr.refl w⟩
   ·have m:=ad (Q.out G);have A:decide ((1:Int)<=(x:Int)/\(x:Int)<=3)=false:=bw ω;rw[A];go_wp2;go_ret2;exact⟨by rw[m.out];rfl,Fr.refl w⟩
  ·have m:=ad (Cz l o d);rw[m.out];have ak:¬(⟨(l.take 4).toArray⟩:ByteArray)=⟨#[70,73,82,75]⟩:=(by intro e;have:=iG (λb:ByteArray=>b.data.toList) e;exact d (by simpa using this));have al:(l.take 4 == [70,73,82,75])=false:=(by simpa using d);have am:¬(l.take 4).toArray=#[70,73,82,75]:=λe=>d (by simpa using iG Array.toList e);go_in;go_wp2;go_ret2;exact⟨rfl,Fr.refl w⟩
def D4(l:U0):(cM l=0)↔bQ l=true:=by
 unfold cM;cases h:bQ l;·simp;split <;> omega
 ·simp
def DU(v:Value)(l:U0)(w:World)(m:ao w eB v l)(U:l.length<=1000000)(I:dm w):Calls prog 116 #[v] w λe w'=>e=.returned (.bool (it l))/\Fr w w':=by
 have V:=ad (qC v l w m U I);have J:=ad (λW (h:Fr w W)=>Qq v l W (m.fr h));have o:Hid (it l=(bQ l && decide (eE l=(3,0)))):=rfl;have K:=ad (D4 l);obtain⟨a0,ac,rfl,_⟩:=m.shape;clear m I;generalize it l=R at *;generalize X:eE l=Y at *;obtain⟨A,L⟩:=Y;clear X;generalize aY l=q,cM l=ec,bQ l=M at *;simp only at J;go_in;go_wp2_with fail;apply V.z;rintro e w1 ⟨u,rfl,O,Q⟩;obtain⟨p1,z1,rfl⟩:=O.shape';clear O;go_wp2_with fail;refine(J.out _ Q).mono ?_;rintro e w2 ⟨rfl,Z⟩;have p:=Q.trans Z;by_cases z:ec=0
 ·have D:=K.out.1 z;subst D z;by_cases F:L=0
  ·subst F;by_cases G:A=3;·subst G;have d:Hid (R=true):=ad (by rw[o.out];rfl);go_wp2;go_ret;exact⟨by rw[d.out];rfl,p⟩
   ·have aa:¬(A:Int)=3:=ω;have d:Hid (R=false):=(by show _=_;rw[o.out,qV];exact bw (λe=>G (Prod.mk.inj e).1));have hb:((A:Int) == 3)=false:=(by simpa using aa);clear G;go_wp2;go_ret;exact⟨by rw[d.out];rfl,p⟩
  ·have am:¬(L:Int)=0:=ω;have d:Hid (R=false):=(by show _=_;rw[o.out,qV];exact bw (λe=>F (Prod.mk.inj e).2));clear F;go_wp2;go_ret;exact⟨by rw[d.out];rfl,p⟩
 ·have D:M=false:=(by cases M;rfl;exact absurd (K.out.2 rfl) z);have ap:¬(ec:Int)=0:=ω;have d:Hid (R=false):=ad (by rw[o.out,D];rfl);clear z;go_wp2;go_ret;exact⟨by rw[d.out];rfl,p⟩
def MW(v:Value)(l:U0)(w:World)(d:ao w eB v l)(h:l.length<42):Calls prog 58 #[v] w λe w'=>e=.returned (.tuple #[.slice none 0 0,.slice none 0 0,.bool false])/\Fr w w':=by
 obtain⟨m,o,rfl,_⟩:=d.shape;have p:(l.length:Int)<42:=ω
 go_in;go_wp2_with fail;exact aT (by simp[results,results58,go_sem, *]) rfl ⟨rfl,Fr.refl w⟩
def DW(v:Value)(l:U0)(w:World)(d:ao w eB v l)(I:42<=l.length):Calls prog 58 #[v] w λe w'=>∃h o,e=.returned (.tuple #[h,o,.bool true])/\ao w' eB h (l.take 21)/\ao w' eB o (l.drop (l.length-21))/\Fr w w':=by
 obtain⟨J,K,rfl,L,z,_⟩:=d.shape;unfold maxLen at z;have M:¬(l.length:Int)<42:=ω
 obtain⟨O,p⟩:=gw eB 22 sJ d 21 ω;obtain⟨Q,R,U,q⟩:=gN eB 22 sJ d (l.length-21) ω;have V:IntKind.i64.wrap ((l.length:Int)-21)=((l.length-21:Nat):Int):=by rw[show(l.length:Int)-21=((l.length-21:Nat):Int) by omega];exact aA _ ω
 have D:=ad p;have F:=ad q;clear p q d;generalize l.length-(l.length-21)=m at *;generalize G:l.length-21=k at *;clear G;go_in;go_wp2;go_quiet (fail);go_wp2_with fail;exact aT (by simp[results,results58,go_sem, *]) rfl ⟨_,_,rfl,D.out.fr ((Fr.refl w).drewN _),F.out.fr ((Fr.refl w).drewN _),(Fr.refl w).drewN _⟩
def aq(l:U0):U0:=if it (l.take 21)then l.take 21 else l.drop (l.length-21)
def iD(l:U0):Bool:=it (l.take 21) || it (l.drop (l.length-21))
def Nu(v:Value)(l:U0)(w:World)(d:ao w eB v l)(h:l.length<42):Calls prog 55 #[v] w λe w'=>e=.returned (.tuple #[.slice none 0 0,.int .i64 1])/\Fr w w':=by
 have m:=ad (MW v l w d h);obtain⟨p,q,rfl,_⟩:=d.shape;clear d;go_in;go_wp2_with fail;apply m.z;rintro e z ⟨rfl,o⟩;go_wp2;go_ret2;exact⟨rfl,o⟩
def Nv(v:Value)(l:U0)(w:World)(p:ao w eB v l)(X:42<=l.length)(z:dm w):Calls prog 55 #[v] w λe w'=>∃u,e=.returned (.tuple #[u,.int .i64 ((if iD l then 0 else 5:Nat):Int)])/\(iD l=true->ao w' eB u (aq l))/\(iD l=false->u=.slice none 0 0)/\Fr w w':=by
 have Y:=ad (DW v l w p X);have Z:=ad (λW m (h:ao W eB m (l.take 21)) (A:Fr w W)=>DU m (l.take 21) W h (by rw[aP];omega) (z.fr A));have H2:=ad (λW m (h:ao W eB m (l.drop (l.length-21))) (A:Fr w W)=>DU m (l.drop (l.length-21)) W h (by rw[bn];omega) (z.fr A));have D:Hid (iD l=(it (l.take 21) || it (l.drop (l.length-21)))):=rfl;have M:Hid (aq l=if it (l.take 21)then l.take 21 else l.drop (l.length-21)):=rfl;obtain⟨a0,al,rfl,_⟩:=p.shape;clear p z;generalize l.drop (l.length-21)=L2,l.take 21=O at *;generalize aq l=H,iD l=R,it L2=b2,it O=b1 at *;obtain⟨ec,F⟩:∃q:Nat,q=(if R then 0 else 5):=⟨_,rfl⟩;rw[<- F];have G:=ad F;clear F;go_in;go_wp2_with fail;apply Y.z;rintro e w1 ⟨m,v2,rfl,I,J,Q⟩;have ah:=ad (Z.out w1 m I Q);obtain⟨p1,z1,rfl,_⟩:=I.shape;obtain⟨p2,z2,rfl,_⟩:=J.shape;go_wp2_with fail;apply ah.z;rintro e w2 ⟨rfl,o⟩;have K:=Q.trans o
 cases b1 with
 | true=>have d:Hid (R=true):=ad (by rw[D.out];rfl);have L:Hid (H=O):=ad (by rw[M.out];rfl);go_wp2;go_ret2;exact⟨_,by rw[G.out,d.out];rfl,λ_=>by rw[L.out];exact I.fr o,λh=>(by rw[d.out]at h;cases h),K⟩
 | false=>
  have L:Hid (H=L2):=ad (by rw[M.out];rfl);have aj:=ad (H2.out w2 _ (J.fr o) K);go_wp2_with fail;apply aj.z;rintro e w3 ⟨rfl,U⟩;have V:=K.trans U
  cases b2 with
  | true=>have d:Hid (R=true):=ad (by rw[D.out];rfl);go_wp2;go_ret2;exact⟨_,by rw[G.out,d.out];rfl,λ_=>by rw[L.out];exact J.fr (o.trans U),λh=>(by rw[d.out]at h;cases h),V⟩
  | false=>have d:Hid (R=false):=ad (by rw[D.out];rfl);go_wp2;go_ret2;exact⟨_,by rw[G.out,d.out];rfl,λh=>(by rw[d.out]at h;cases h),λ_=>rfl,V⟩
def qA(v:Value)(l:U0)(w:World)(p:ao w eB v l)(hn:l.length<=1000000):Calls prog 20 #[v] w λe w'=>∃u,e=.returned (.tuple #[u,.int .i64 (cM l:Int)])/\Ow w' w.heap.size eB u (aY l)/\Fr w w':=by
 obtain⟨a0,ap,rfl,av,X,_⟩:=p.shape;unfold maxLen at X;by_cases D:l.length<4;·have F:bQ l=false:=(by unfold bQ;rw[bw ω,Bool.false_and]);have d:Hid (cM l=1):=(by show _=_;unfold cM;rw[F];simp[D]);have m:Hid (aY l=[]):=(by show _=_;unfold aY;rw[F];simp);rw[m.out,d.out];have az:(l.length:Int)<4:=ω;clear F d m;go_in;go_wp2;go_ret2;exact⟨_,rfl,Ow.nil,Fr.refl w⟩
 ·obtain⟨n,G⟩:∃n,n=l.length-4:=⟨_,rfl⟩;obtain⟨a1,I⟩:=gw eB 22 sJ p n ω;have M:(l.take n).length=n:=(by rw[aP];omega);have O:bQ l=decide (bD (l.take n)=l):=(by unfold bQ;rw[bz ω,qV,G]);have Y:=ad (λW (h:Fr w W)=>Pj _ (l.take n) W (I.fr h) ω);have Q:=ad (λW v' (h:Fr w W) (Z:ao W eB v' (bD (l.take n)))=>ze v' _ (bD (l.take n)) l W Z (p.fr h));rw[<- O]at Q;have HT:=ad (λW (h:Fr w W)=>I.fr h);have d:Hid (cM l=if bQ l then 0 else 5):=(by show _=_;unfold cM;simp[D]);have m:Hid (aY l=if bQ l then l.take n else []):=ad (by rw[G];rfl);have hw:IntKind.i64.wrap ((l.length:Int)-4)=(n:Int):=(by rw[aA _ ω];omega);have a3:¬(l.length:Int)<4:=ω;have ab:=ad M;have a4:n<=1000000:=ω;rw[d.out,m.out];clear d m O p I M G D;generalize l.take n=q,bD (l.take n)=B,bQ l=R at *;go_in;go_wp2_with fail;refine(Y.out _ (Fr.refl w)).mono ?_;rintro e o ⟨v1,rfl,J,z⟩;have ah:=ad (Q.out o v1 z J.see);obtain⟨p1,z1,rfl⟩:=J.shape';clear J;go_wp2_with fail;refine ah.out.mono ?_;rintro e w2 ⟨rfl,rfl⟩;cases R;·go_wp2;go_ret2;exact⟨_,rfl,Ow.nil,z⟩
  ·have K:Ow (o.alloc (.cells #[] 5)) w.heap.size eB (.slice (some ⟨o.heap.size,0,none⟩) 0 0) []:=md eB o #[] [] 0 rfl (ax _) z.size;have A:Fr w (o.alloc (.cells #[] 5)):=z.alloc _;have U:=HT.out _ A;go_wp2_with (at_builtin;refine fT eB rfl (.tmp 16) (.tmp 21) 22 rfl sJ w.heap.size rfl K _ _ rfl U ?c1 A.size ?_);case c1=>rw[ab.out];simp;omega
   intro v5 w5 L;have ak:=L.below K A (au _) A.size;have V:Ow w5 w.heap.size eB v5 q:=(by simpa using L.own);obtain⟨p5,z5,rfl⟩:=V.shape';clear L K U;go_wp2;go_ret2;exact⟨_,rfl,V,ak⟩
def PG(v:Value)(l:U0)(w:World)(G:ao w eB v l):Calls prog 21 #[v] w λe w'=>e=.returned (.tuple #[N (eE l).1,.int .i64 ((eE l).2:Int)])/\w=w':=by
 obtain⟨a0,a3,rfl,a4,ac,_⟩:=G.shape;unfold maxLen at ac;by_cases I:l.length<=4;·have a5:(l.length:Int)<5:=ω;have d:=ad (Cx l I);generalize eE l=mv at *;go_in;go_wp2;go_ret2;exact⟨by rw[d.out];rfl,rfl⟩
 ·obtain⟨b,q,cp,V,c0⟩:=G.cell1 Fk.u8 rfl 0 ω;simp only[dt]at V;obtain⟨rfl,_,rfl⟩:=V;have o:∀i (h:i<l.length),w.cell? ⟨b,q+i,none⟩=some (.int .u8 (l[i].toNat:Int)):=λi h=>(by obtain⟨b',a8,a9,W,c'⟩:=G.cell1 Fk.u8 rfl i h;simp only[dt,ji,pI,lj]at W;obtain⟨⟨rfl,rfl⟩,_,_⟩:=W;exact c');have L:=o 0 ω;have X:=o 1 ω;have Y:=o 2 ω;have Z:=o 3 ω;have d4:=o 4 ω;rw[g8]at L;have ht:l.take 4=[l[0]'ω,l[1]'ω,l[2]'ω,l[3]'ω]:=by
   apply jI;·simp;omega
   ·intro i ba ak;rw[n5];have:i<4:=by simpa using ak
    match i,this with
    | 0,_=>rfl
    | 1,_=>rfl
    | 2,_=>rfl
    | 3,_=>rfl
  have M:=ad (λm=>Cz l I m);have J:=ad (λm=>Cw l I m);have K:=ad (λm=>Cy l I m);rw[ht]at M J K;rw[ce l 4 0 ω]at J K;have i0:¬(l.length:Int)<5:=ω;have i1:(0:Int)<l.length:=ω;have i2:(1:Int)<l.length:=ω;have i3:(2:Int)<l.length:=ω;have i4:(3:Int)<l.length:=ω;have i5:(4:Int)<l.length:=ω;clear o c0 G ht;generalize l[0]'ω=z at *;generalize l[1]'ω=A at *;generalize l[2]'ω=D at *;generalize l[3]'ω=F at *;generalize l[4]'ω=p at *;generalize eE l=mv at *;by_cases O:z=70/\A=73/\D=82/\F=75
  ·obtain⟨rfl,rfl,rfl,rfl⟩:=O;have e0:w.cell? ⟨b,q,none⟩=some (.int .u8 70):=L;have e1:w.cell? ⟨b,q+1,none⟩=some (.int .u8 73):=X;have e2:w.cell? ⟨b,q+2,none⟩=some (.int .u8 82):=Y;have e3:w.cell? ⟨b,q+3,none⟩=some (.int .u8 75):=Z;clear L X Y Z;by_cases hx:1<=p.toNat/\p.toNat<=3;·have d:=ad (J.out rfl hx);have al:¬(p.toNat:Int)<1:=ω;have am:¬(3:Int)<p.toNat:=ω;generalize p.toNat=x at *;go_in;go_wp2;go_ret2;exact⟨by rw[d.out];rfl,rfl⟩
   ·have d:=ad (K.out rfl hx);generalize p.toNat=x at *;by_cases al:(x:Int)<1;·go_in;go_wp2;go_ret2;exact⟨by rw[d.out];rfl,rfl⟩
    ·have am:(3:Int)<x:=ω;go_in;go_wp2;go_ret2;exact⟨by rw[d.out];rfl,rfl⟩
  ·have d:=ad (M.out (λe=>O (by simpa using e)));clear M J K;by_cases Q:z=70
   ·subst Q;by_cases R:A=73
    ·subst R;by_cases m:D=82
     ·subst m;by_cases U:F=75;·subst U;exact absurd ⟨rfl,rfl,rfl,rfl⟩ O
      ·have ap:¬(F.toNat:Int)=75:=λe=>U (fO.1 (by show F.toNat=75;omega));have bt:((F.toNat:Int) != 75)=true:=(by simpa using ap);clear U;go_in;go_wp2;go_ret2;exact⟨by rw[d.out];rfl,rfl⟩
     ·have av:¬(D.toNat:Int)=82:=λe=>m (fO.1 (by show D.toNat=82;omega));have bu:((D.toNat:Int) != 82)=true:=(by simpa using av);clear m;go_in;go_wp2;go_ret2;exact⟨by rw[d.out];rfl,rfl⟩
    ·have az:¬(A.toNat:Int)=73:=λe=>R (fO.1 (by show A.toNat=73;omega));have bv:((A.toNat:Int) != 73)=true:=(by simpa using az);clear R;go_in;go_wp2;go_ret2;exact⟨by rw[d.out];rfl,rfl⟩
   ·have a1:¬(z.toNat:Int)=70:=λe=>Q (fO.1 (by show z.toNat=70;omega));have bx:((z.toNat:Int) != 70)=true:=(by simpa using a1);clear Q;go_in;go_wp2;go_ret2;exact⟨by rw[d.out];rfl,rfl⟩
def zh(v:Value)(l:U0)(w:World)(m:ao w eB v l)(Q:l.length<=1000000):Calls prog 10 #[v] w λe w'=>e=.returned (.bool (it l))/\Fr w w':=by
 have U:=ad (qA v l w m Q);have I:=ad (λW (h:Fr w W)=>PG v l W (m.fr h));have o:Hid (it l=(bQ l && decide (eE l=(3,0)))):=rfl;have J:=ad (D4 l);obtain⟨Z,aa,rfl,_⟩:=m.shape;clear m;generalize it l=R at *;generalize V:eE l=X at *;obtain⟨A,K⟩:=X;clear V;generalize aY l=q,cM l=ec,bQ l=L at *;simp only at I;go_in;go_wp2_with fail;apply U.z;rintro e w1 ⟨u,rfl,M,O⟩;obtain⟨p1,z1,rfl⟩:=M.shape';clear M;go_wp2_with fail;refine(I.out _ O).mono ?_;rintro e w2 ⟨rfl,rfl⟩;have p:=O;by_cases z:ec=0
 ·have D:=J.out.1 z;subst D z;by_cases F:K=0
  ·subst F;by_cases G:A=3;·subst G;have d:Hid (R=true):=ad (by rw[o.out];rfl);go_wp2;go_ret;exact⟨by rw[d.out];rfl,p⟩
   ·have Y:¬(A:Int)=3:=ω;have d:Hid (R=false):=(by show _=_;rw[o.out,qV];exact bw (λe=>G (Prod.mk.inj e).1));have hb:((A:Int) == 3)=false:=(by simpa using Y);clear G;go_wp2;go_ret;exact⟨by rw[d.out];rfl,p⟩
  ·have ak:¬(K:Int)=0:=ω;have d:Hid (R=false):=(by show _=_;rw[o.out,qV];exact bw (λe=>F (Prod.mk.inj e).2));clear F;go_wp2;go_ret;exact⟨by rw[d.out];rfl,p⟩
 ·have D:L=false:=(by cases L;rfl;exact absurd (J.out.2 rfl) z);have al:¬(ec:Int)=0:=ω;have d:Hid (R=false):=ad (by rw[o.out,D];rfl);clear z;go_wp2;go_ret;exact⟨by rw[d.out];rfl,p⟩
def Rc(b:U0):Nat × Nat:=
 if(eE b).1=1\/(eE b).1=2 then((eE b).1,0)
 else if(decide (42<=b.length) && iD b)=true then(3,0)
 else if(eE b).1=3 then(0,5)
 else(0,(eE b).2)
def QW(v:Value)(m:List Hd)(d:List U0)(w:World)(p:cV w aS eB v m d)(hn:d.flatten.length<=100000000):Calls prog 105 #[v] w λe w'=>∃v,e=.returned v/\Ow w' w.heap.size eB v d.flatten/\Fr w w':=by
 obtain⟨a,av,Y,az,Z,q⟩:=p.1.shape;unfold maxLen at Z;subst Y;have Q:=p.2.1;have z:=ad Q;have HN:=ad q;clear Q q;have a1:d.length<=9223372036854775807:=by have:=z.out;omega
 go_in;go_wp2_with fail;go_loop [3,11] (λnv o=>∃k n:Nat,k<=m.length/\o=N k/\nv=N n/\Hid (n=(d.take k).flatten.length)) (λ_ o=>m.length-(intOf o).toNat);·exact⟨0,0,ax _,rfl,rfl,rfl⟩
 ·
  obtain⟨k,n,hk,rfl,rfl,G⟩:=hrel;have a4:n<=100000000:=(by have h1:=mW d k;have:=G.out;omega);by_cases A:k<m.length
  ·obtain⟨b,ab,ac,I,R⟩:=p.1.cell1 (λ(h:Hd)=>h.v) rfl k A;have D:k<d.length:=(by have:=z.out;omega);have M:=p.2.2 k A D;have J:Hid (n+d[k].length=(d.take (k+1)).flatten.length):=ad (by rw[oY d k D,aM,<- G.out]);have O:=mW d (k+1);have ah:n+d[k].length<=100000000:=(by have:=J.out;omega);obtain⟨a2,c2,U,_⟩:=M.shape;generalize m[k]=h at *;obtain⟨ha,K,a8⟩:=h;simp only[Hd.v,dt]at U;obtain⟨rfl,q,rfl⟩:=U;rw[<- q]at J ah;clear q O;simp only[Hd.v]at R;cases I;have i1:(0:Int)<=k:=ω;have i2:(k:Int)<m.length:=ω;have a9:=aA ((n:Int)+K) ω;have aC:¬(n:Int)+K<0:=ω;go_wp2_with fail;go_round;·exact⟨k+1,n+K,ω,γ,γ,J⟩
   ·exact μ
  ·have J:Hid (n=d.flatten.length):=(by have:=G.out;rw[dN (by have:=z.out;omega)]at this;exact this);clear G;go_wp2_with fail;refine(F5 n _ ω).mono ?_;rintro e w1 ⟨v1,rfl,V,ak⟩;go_wp2;go_loopw [6,27] (λov o wr=>∃k:Nat,k<=m.length/\o=N k/\Ow wr w.heap.size eB ov (d.take k).flatten/\Fr w wr) (λ_ o _=>m.length-(intOf o).toNat);·exact⟨0,ax _,rfl,V,ak⟩
   ·
    clear V;obtain⟨k,bc,rfl,L,F⟩:=hrel;by_cases A:k<m.length
    ·have I:=p.fr F;obtain⟨b,ab,ac,am,R⟩:=I.1.cell1 (λ(h:Hd)=>h.v) rfl k A;have D:k<d.length:=(by have:=z.out;omega);have M:=I.2.2 k A D;have W:Hid ((d.take (k+1)).flatten=(d.take k).flatten++d[k]):=oY d k D;have O:=mW d (k+1);rw[W.out,aM]at O;generalize m[k]=h at *;cases am;have i1:(0:Int)<=k:=ω;have i2:(k:Int)<m.length:=ω;go_wp2_with (at_builtin;refine fT eB rfl (.tmp 31) (.tmp 32) 22 rfl sJ w.heap.size rfl L _ _ rfl M ?c1 F.size ?_);case c1=>omega
     intro v' w4 X;go_wp2;go_roundw;·exact⟨k+1,ω,γ,by rw[W.out];exact X.own,X.below L F (au _) F.size⟩
     ·exact μ
    ·rw[dN (by have:=z.out;omega)]at L;go_wp2;go_ret;exact⟨_,rfl,L,F⟩
def QY(v:Value)(h:List Hd)(d:List U0)(w:World)(m:cV w aS eB v h d)(o:d.flatten.length<=100000000):Calls prog 46 #[v] w λe w'=>∃v,e=.returned v/\Ow w' w.heap.size eB v d.flatten/\Fr w w':=by
 obtain⟨a,D,p,_⟩:=m.1.shape;have q:=ad (QW v h d w m o);subst p;go_in;go_wp2_with fail;refine q.out.mono ?_;rintro e F ⟨G,rfl,z,A⟩;go_wp2;go_ret;exact⟨_,rfl,z,A⟩
def O1(m o p:Value)(d lb h:U0)(W:World)(q:ao W eB m d)(z:ao W eB o lb)(A:ao W eB p h)(M:d.length+lb.length+h.length<=100000000):Calls prog 46 #[.slice (some ⟨W.heap.size,0,none⟩) 3 3] (W.alloc (.cells #[m,o,p] 22)) λe w'=>∃v,e=.returned v/\Ow w' W.heap.size eB v (d++lb++h)/\Fr W w':=by
 obtain⟨D,rfl⟩:=nS q;obtain⟨F,rfl⟩:=nS z;obtain⟨G,rfl⟩:=nS A;have I := rN W #[D.v, F.v, G.v] 22 [D, F, G] [d, lb, h] 3 rfl rfl rfl (by simp) (fun i J I => by
   match i, J with
   | 0, _ => exact q
   | 1, _ => exact z
   | 2, _ => exact A)
 refine(QY _ _ _ _ I (by simp;omega)).mono ?_;rintro e w' ⟨v,rfl,K,L⟩;exact⟨v,rfl,by simpa using K.rebase (b:=W.heap.size) σ,((Fr.refl W).alloc _).trans L⟩
def NE(B base n a:Nat)(l:U0)(w:World)(d:ez w B base l n a)(Y:l.length<=1000000):Calls prog 293 #[.pointer (some ⟨B,0,none⟩)] w λe w'=>e=.returned (.tuple #[N (dg l a).1,.int .i64 ((dg l a).2.2:Int)])/\ez w' B base l n (dg l a).2.1/\ag (λb=>b=B) w w':=by
 have J:=ad (λW j (h:Qt w W) (Z:j<n)=>E6 B base n a j l W (d.fr h.fr) Y Z);have K:=ad d;have a1:n<=8000000:=by have:=d.eq;omega
 have L:Hid (dg l a=match fV l (n-a) a with | some i=>(i-a,i+1,0) | none=>(0,a,1)):=by show _=_;unfold dg;rw[d.eq];cases fV l (8*l.length-a) a <;> rfl
 have HS:Hid (∀i,i<n->fV l (n-i) i=if cA l i=1 then some i else fV l (n-(i+1)) (i+1)):=λi h=>by have h2:=d.eq;subst h2;exact zV l i h
 have HE:Hid (fV l (n-n) n=none):=by show _=_;rw[eA];rfl
 obtain⟨⟨v,A,M⟩,hn,ai⟩:=d;have c1:=af A 1 rfl;have c2:=af A 2 rfl;have ak:=M.ne_cells A δ;clear hn;generalize dg l a=U at *;go_in;go_wp2;go_loopw [4] (λF wr=>∃i:Nat,a<=i/\i<=n/\F=N i/\Hid (fV l (n-a) a=fV l (n-i) i)/\Qt w wr) (λF _=>n-(intOf F).toNat);·exact⟨a,au _,ai,rfl,rfl,Qt.refl _⟩
 ·
  obtain⟨i,a2,a3,rfl,m,o⟩:=hrel;have O:=o.fr.cell c1;by_cases Q:i<n
  ·have p:=ad (J.out wr i o Q);have D:=ad (HS.out i Q);have R:=ni l i;by_cases q:cA l i=1;·have G:Hid (U=(i-a,i+1,0)):=ad (by rw[L.out,m.out,D.out,an q]);rw[q]at p;clear D m q R;go_wp2_with fail;apply p.z;rintro e w1 ⟨rfl,rfl⟩;have z:=o;have I:=z.fr.heap A;have d2:=af I 2 rfl;have z2:=aB I 2;have V:=ay wr ⟨B,2,none⟩ (.int .i64 ((i:Int)+1));have am:=aI I 2 (.int .i64 ((i:Int)+1));have ap:=(M.fr z.fr).chg V (λi hi e=>ak (by rw[hi,show i=B from e]));have az:=(z.fr.chg _).trans V λ_ _ h=>h;clear p J O;go_wp2;go_ret2;rw[G.out];exact⟨by simp[N];omega,⟨⟨v,am,ap⟩,K.out.eq,by show i+1<=n;omega⟩,az⟩
   ·have X:cA l i=0:=ω;have a0:Hid (fV l (n-a) a=fV l (n-(i+1)) (i+1)):=ad (by rw[m.out,D.out,ae q]);rw[X]at p;clear D m q R X;go_wp2_with fail;apply p.z;rintro e w1 ⟨rfl,rfl⟩;have z:=o;clear p O;go_wp2;go_roundw;·exact⟨i+1,ω,ω,γ,a0.out,z⟩
    ·exact μ
  ·obtain rfl:i=n:=ω;have G:Hid (U=(0,a,1)):=ad (by rw[L.out,m.out,HE.out]);have j1:¬((i:Int)<i):=ω;clear m;go_wp2;go_ret2;rw[G.out];exact⟨rfl,K.out.fr o.fr,o.fr.chg _⟩
