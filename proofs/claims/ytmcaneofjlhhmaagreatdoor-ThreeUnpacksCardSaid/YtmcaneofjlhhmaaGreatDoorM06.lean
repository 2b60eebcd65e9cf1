/- Lemmas. -/
import Derived.Test.YtmcaneofjlhhmaaGreatDoorM01
import Derived.Test.YtmcaneofjlhhmaaGreatDoorM04
set_option linter.all false
set_option maxHeartbeats 8000000
set_option maxRecDepth 100000
namespace Go.Fk
abbrev aT:=@Go.bodyPost_ret
abbrev lN:=@Nat.mul_le_mul_left
end Go.Fk
namespace Go.Proofs
open RowKit Fk Tryz
abbrev B8(n:Nat):Value:=.int .u8 (n:Int)
def qk(x:Nat)(h:x<256):Value.int .u8 (x:Int)=Fk.u8 (UInt8.ofNat x):=by
 show _=Value.int .u8 _;rw[lk];congr 1;omega
def L3:iF 256 (λa=>(a &&& 128) == (if a<128 then 0 else 128))=true:=by decide +kernel
def L0(a:Nat)(d:a<256):bits .and .u8 (a:Int) 128=if a<128 then 0 else 128:=by
 have h:a &&& 128=if a<128 then 0 else 128:=by simpa using iR 256 _ L3 a d
 rw[show(128:Int)=((128:Nat):Int)from rfl,E8 a 128 d ω,h];split <;> rfl
def KG:iF 256 (λa=>(a &&& 1) == a%2)=true:=by decide +kernel
def KF(a:Nat)(d:a<256):bits .and .u8 (a:Int) 1=((a%2:Nat):Int):=by
 have h:a &&& 1=a%2:=beq_iff_eq.1 (iR 256 _ KG a d);rw[show(1:Int)=((1:Nat):Int)from rfl,E8 a 1 d ω,h]
def vI(a:Nat)(o:a<256)(w:World):Calls prog 282 #[B8 a] w λe w'=>e=.returned (B8 (fo a))/\w=w':=by
 have m:=L0 a o;by_cases h:a<128;·rw[an h]at m;have d:Hid (fo a=2*a):=(by show _=_;unfold fo;rw[an h]);go_in;go_wp2;go_ret;exact⟨by rw[d.out];go_num,rfl⟩
 ·rw[ae h]at m;have p:bits .xor .u8 ((a:Int)*2%256) 29=(((2*a-256) ^^^ 29:Nat):Int):=(by rw[show(a:Int)*2%256=((2*a-256:Nat):Int) by omega];exact ow (2*a-256) 29 ω ω);have d:Hid (fo a=(2*a-256) ^^^ 29):=(by show _=_;unfold fo;rw[ae h]);go_in;go_wp2;go_ret;exact⟨by rw[d.out];go_num,rfl⟩
def Km(f:Nat)(a o:Nat):kX f a 0 o=o:=by cases f <;> simp[kX]
def zm(a b:Nat)(I:a<256)(J:b<256)(w:World):Calls prog 281 #[B8 a,B8 b] w λe w'=>e=.returned (B8 (aO a b))/\w=w':=by
 go_in;go_wp2_with fail;go_loop [0,1,5] (λK p L=>∃(f x y o:Nat),K=B8 x/\p=B8 y/\L=B8 o/\x<256/\y<2^f/\f<=8/\o<256/\Hid (aO a b=kX f x y o)) (λ_ p _=>(intOf p).toNat);·exact⟨8,a,b,0,rfl,rfl,rfl,I,J,au _,ω,rfl⟩
 ·
  obtain⟨f,x,y,o,rfl,rfl,rfl,d,D,M,q,z⟩:=hrel;by_cases m:y=0;·subst m;have h:Hid (aO a b=o):=ad (by rw[z.out,Km]);go_wp2;go_ret;exact⟨by rw[h.out];rfl,rfl⟩
  ·have V:((y:Int) != 0)=true:=(by simp;omega);have O:y<256:=jk D (dn ω M);have F:=KF y O;have W:=ow o x q d;have G:=o0 x d
   cases f with
   | zero=>exact absurd (by omega:y=0) m
   | succ f=>
    rw[gE]at D;by_cases A:y%2=1
    ·have h:Hid (aO a b=kX f (fo x) (y / 2) (o ^^^ x)):=ad (by rw[z.out,kX,ae m,an A]);have Q:o ^^^ x<2^8:=ix q d;rw[A]at F;go_wp2_with fail;refine(vI x d _).mono ?_;rintro e R ⟨rfl,rfl⟩;go_wp2_with fail;go_round;·exact⟨f,fo x,y / 2,o ^^^ x,rfl,γ,rfl,G,ω,ω,Q,h⟩
     ·exact μ
    ·have U:y%2=0:=ω;have h:Hid (aO a b=kX f (fo x) (y / 2) o):=ad (by rw[z.out,kX,ae m,ae A]);rw[U]at F;go_wp2_with fail;refine(vI x d _).mono ?_;rintro e R ⟨rfl,rfl⟩;go_wp2_with fail;go_round;·exact⟨f,fo x,y / 2,o,rfl,γ,rfl,G,ω,ω,q,h⟩
     ·exact μ
def Jt(f:Nat)(a o:Nat):lB f a 0 o=o:=by cases f <;> simp[lB]
def Qk(a n:Nat)(K:a<256)(L:a≠0)(M:n≠0)(hn:n<255)(w:World):Calls prog 236 #[B8 a,.int .u64 (n:Int)] w λe w'=>e=.returned (B8 (lB 8 a n 1))/\w=w':=by
 have O:((n:Int) == 0)=false:=by simp;exact M
 have Q:((a:Int) == 0)=false:=by simp;exact L
 have k3:(n:Int)%255=n:=ω
 generalize D:lB 8 a n 1=R;have U:=ad D;clear D;go_in;go_wp2_with fail;go_loop [0,1,5] (λV p W=>∃(f x y o:Nat),V=B8 x/\p=.int .u64 (y:Int)/\W=B8 o/\x<256/\y<2^f/\f<=8/\o<256/\Hid (R=lB f x y o)) (λ_ p _=>(intOf p).toNat);·exact⟨8,a,n,1,rfl,by rw[k3],rfl,K,ω,au _,ω,U.out.symm⟩
 ·
  obtain⟨f,x,y,o,rfl,rfl,rfl,d,F,X,q,z⟩:=hrel;clear O Q k3;by_cases m:y=0;·subst m;have h:Hid (R=o):=ad (by rw[z.out,Jt]);go_wp2;go_ret;exact⟨by rw[h.out];rfl,rfl⟩
  ·have ab:(0:Int)<y:=ω;have ac:y<256:=jk F (dn ω X);have G:bits .and .u64 (y:Int) 1=((y%2:Nat):Int):=(by have:=bits_and_u64_nat y 1 ω ω;rw[Nat.and_one_is_mod]at this;exact this);have I:=kp x x d;have Y:=kp o x q
   cases f with
   | zero=>exact absurd (by omega:y=0) m
   | succ f=>
    rw[gE]at F;by_cases A:y%2=1
    ·have h:Hid (R=lB f (aO x x) (y / 2) (aO o x)):=ad (by rw[z.out,lB,ae m,an A]);rw[A]at G;go_wp2_with fail;refine(zm o x q d _).mono ?_;rintro e J ⟨rfl,rfl⟩;go_wp2_with fail;refine(zm x x d d _).mono ?_;rintro e J ⟨rfl,rfl⟩;go_wp2_with fail;go_round;·exact⟨f,aO x x,y / 2,aO o x,rfl,γ,rfl,I,ω,ω,Y,h⟩
     ·exact μ
    ·have Z:y%2=0:=ω;have h:Hid (R=lB f (aO x x) (y / 2) o):=ad (by rw[z.out,lB,ae m,ae A]);rw[Z]at G;go_wp2_with fail;refine(zm x x d d _).mono ?_;rintro e J ⟨rfl,rfl⟩;go_wp2_with fail;go_round;·exact⟨f,aO x x,y / 2,o,rfl,γ,rfl,I,ω,ω,q,h⟩
     ·exact μ
def nP(a:Nat):Value:=if a=0 then .tuple #[B8 0,.int .i64 13]else .tuple #[B8 (iB a),.int .i64 0]
def Fs(a:Nat)(h:a<256)(w:World):Calls prog 173 #[B8 a] w λe w'=>e=.returned (nP a)/\w=w':=by
 by_cases d:a=0;·subst d;go_in;go_wp2_with fail;exact aT (v:=.tuple #[B8 0,.int .i64 13]) (by simp[results,results173,go_sem, *]) rfl ⟨rfl,rfl⟩
 ·have p:((a:Int) == 0)=false:=(by simp;exact d);have m:Hid (nP a=.tuple #[B8 (iB a),.int .i64 0]):=(by show _=_;unfold nP;rw[ae d]);have o:Hid (∀W,Calls prog 236 #[B8 a,.int .u64 254] W λe w'=>e=.returned (B8 (iB a))/\W=w'):=λW=>Qk a 254 h d ω ω W;generalize iB a=i at *;go_in;go_wp2_with fail;refine(o.out _).mono ?_;rintro e q ⟨rfl,rfl⟩;go_wp2_with fail;exact aT (v:=.tuple #[B8 i,.int .i64 0]) (by simp[results,results173,go_sem, *]) rfl ⟨by rw[m.out],rfl⟩
def Eu(b k:Nat):((b:Int) / 2^k).tmod 2=((b / 2^k%2:Nat):Int):=by
 rw[show(b:Int) / 2^k=((b / 2^k:Nat):Int) by simp];rfl
def AT(a k:Nat)(h:a*2^k<9223372036854775808):IntKind.i64.wrap ((a:Int)*2^k)=((a*2^k:Nat):Int):=by
 rw[show(a:Int)*2^k=((a*2^k:Nat):Int) by simp];exact dS _ h
def AS(a k m n:Nat)(d:a<2^m)(e:k<=n):a*2^k<2^(m+n):=by
 rw[Nat.pow_add];have f:2^k<=2^n:=dn ω e
 calc a * 2^k ≤ a * 2^n := lN _ f
  _<2^m*2^n:=Nat.mul_lt_mul_of_pos_right d (lm n)
def IP(q f:Nat)(m:q<2^(f+1+8))(h:q / 2^(f+8)%2=1):q ^^^ (285*2^f)<2^(f+8):=by
 apply Nat.lt_pow_two_of_testBit;intro j p;rw[Nat.testBit_xor,Nat.testBit_mul_two_pow];by_cases e:j=f+8;·subst e;have d:q.testBit (f+8)=true:=(by rw[Nat.testBit_eq_decide_div_mod_eq];simpa using h);rw[d,show f+8-f=8 by omega];simp;decide
 ·have d:q.testBit j=false:=Nat.testBit_lt_two_pow (jk m (dn ω ω));have o:Nat.testBit 285 (j-f)=false:=Nat.testBit_lt_two_pow (jk (by decide:285<2^9) (dn ω ω));rw[d,o];simp
def IM(q f:Nat)(d:q<2^(f+1+8))(h:¬q / 2^(f+8)%2=1):q<2^(f+8):=by
 have e:q / 2^(f+8)<2:=by rw[show f+1+8=(f+8)+1 by omega,gE]at d;exact Nat.div_lt_of_lt_mul d
 have m:q / 2^(f+8)=0:=(by omega:∀x:Nat,x<2->¬x%2=1->x=0) _ e h;exact(Nat.div_eq_zero_iff_lt (lm _)).1 m
def uF(a b:Nat)(O:a<256)(Z:b<256)(w:World):Calls prog 268 #[B8 a,B8 b] w λe w'=>e=.returned (B8 (aO a b))/\w=w':=by
 go_in;go_wp2_with fail;go_loop [5,7] (λF m=>∃(f p:Nat),f<=8/\m=.int .i64 ((8-f:Nat):Int)/\F=.int .i64 (p:Int)/\p<32768/\Hid (ko a b 8 0=ko a b f p)) (λ_ m=>8-(intOf m).toNat);·exact⟨8,0,au _,rfl,rfl,ω,rfl⟩
 ·
  obtain⟨f,p,V,rfl,rfl,G,A⟩:=hrel
  cases f with
  | zero=>
   have W:Hid (aO a b=gx 7 p):=(by show _=_;rw[<- Kk a b O];unfold xB;rw[A.out];rfl);clear A;go_wp2_with fail;go_loop [5,8] (λF m=>∃(f q:Nat),f<=7/\m=.int .i64 ((f+7:Nat):Int)/\F=.int .i64 (q:Int)/\q<2^(f+8)/\Hid (aO a b=gx f q)) (λ_ m=>(intOf m).toNat);·exact⟨7,p,au _,rfl,rfl,G,W⟩
   ·
    obtain⟨f,q,V,rfl,rfl,D,I⟩:=hrel
    cases f with
    | zero=>have d:Hid (aO a b=q):=ad (by rw[I.out];rfl);have aa:q<256:=D;have ab:IntKind.u8.wrap (q:Int)=q:=(by rw[oy];omega);go_wp2;go_ret;exact⟨by rw[d.out];rfl,rfl⟩
    | succ f=>
     have o:=Eu q (f+8);have ac:q<2^15:=jk D (dn ω ω);have Q:285*2^f<2^15:=(by have:=AS 285 f 9 6 δ ω;exact this);have X:IntKind.i64.wrap ((285:Int)*2^f)=((285*2^f:Nat):Int):=AT 285 f ω;have J:=ad (vu q (285*2^f) ω ω);have i1:(f:Int)+8<=14:=ω;have i2:(0:Int)<=f:=ω;have i3:(f:Int)+1+7=f+8:=ω;have i4:((f:Int)+8).toNat=f+8:=ω;have i5:(8:Int)<=(f:Int)+8:=ω;rw[show((f+1+7:Nat):Int)=(f:Int)+8 by omega];by_cases h:q / 2^(f+8)%2=1
     ·have d:Hid (aO a b=gx f (q ^^^ (285*2^f))):=ad (by rw[I.out,gx,an h]);have K:=IP q f D h;rw[h]at o;go_wp2_with fail;go_round;·exact⟨f,q ^^^ (285*2^f),ω,γ,by rw[show(285:Int)*2^f=((285*2^f:Nat):Int) by simp,J.out],K,d⟩
      ·exact μ
     ·have L:q / 2^(f+8)%2=0:=ω;have d:Hid (aO a b=gx f q):=ad (by rw[I.out,gx,ae h]);have K:=IM q f D h;rw[L]at o;go_wp2_with fail;go_round;·exact⟨f,q,ω,γ,rfl,K,d⟩
      ·exact μ
  | succ f=>
   have M:8-(f+1)=7-f:=ω;rw[M];obtain⟨k,z⟩:∃k,7-f=k:=⟨_,rfl⟩;rw[z];have k7:(k:Int)<8:=ω;have k0:(0:Int)<=k:=ω;have o:=Eu b k;have Q:=AS a k 8 7 O ω;have X:=AT a k ω;have R:=vu p (a*2^k) ω ω;have J:=ad R;clear R;have Y:p ^^^ (a*2^k)<2^15:=ix G Q;have U:8-f=k+1:=ω;by_cases h:b / 2^k%2=1
   ·have d:Hid (ko a b 8 0=ko a b f (p ^^^ (a*2^k))):=ad (by rw[A.out,ko,z,an h]);rw[h]at o;clear M z;go_wp2_with fail;go_round;·exact⟨f,p ^^^ (a*2^k),ω,by rw[U];go_num,by rw[show(a:Int)*2^k=((a*2^k:Nat):Int) by simp,J.out],Y,d⟩
    ·exact μ
   ·have L:b / 2^k%2=0:=ω;have d:Hid (ko a b 8 0=ko a b f p):=ad (by rw[A.out,ko,z,ae h]);rw[L]at o;clear M z;go_wp2_with fail;go_round;·exact⟨f,p,ω,by rw[U];go_num,rfl,G,d⟩
    ·exact μ
def EZ(a:Nat)(o:a<256)(w:World):Calls prog 266 #[B8 a] w λe w'=>e=.returned (nP a)/\w=w':=by
 have J:Hid (∀i,1<=i->i<256->aO a i=1->nP a=.tuple #[B8 i,.int .i64 0]):=by intro i d z p;have h:a≠0:=(by rintro rfl;rw[xr]at p;cases p);unfold nP;rw[ae h,Le a i h o z p]
 go_in;go_wp2_with fail;go_loop [4] (λq=>∃i:Nat,1<=i/\i<=256/\q=N i/\Hid (∀j,1<=j->j<i->aO a j≠1)) (λq=>256-(intOf q).toNat);·exact⟨1,au _,ω,rfl,by intro j d z;omega⟩
 ·
  obtain⟨i,K,V,rfl,D⟩:=hrel;by_cases F:i<256
  ·have W:IntKind.u8.wrap (i:Int)=i:=(by rw[oy];omega);have X:(i:Int)<256:=ω;have G:=ad (uF a i o F);by_cases d:aO a i=1;·have L:=ad (J.out i K F d);have M:=ad d;clear d;go_wp2_with fail;refine(G.out _).mono ?_;rintro e O ⟨I,rfl⟩;rw[M.out]at I;subst I;go_wp2_with fail;exact aT (v:=.tuple #[B8 i,.int .i64 0]) (by simp[results,results266,go_sem, *]) rfl ⟨by rw[L.out],rfl⟩
   ·have Q:Hid (∀j,1<=j->j<i+1->aO a j≠1):=by
      intro j R Y;by_cases e:j=i;·subst e;exact d
      ·exact D.out j R ω
    have Z:((aO a i:Int) == 1)=false:=(by simp;omega);generalize U:aO a i=m at *;clear U d;go_wp2_with fail;refine(G.out _).mono ?_;rintro e O ⟨rfl,rfl⟩;go_wp2_with fail;go_round;·exact⟨i+1,ω,ω,γ,Q⟩
    ·exact μ
  ·obtain rfl:i=256:=ω;have h:a=0:=(by apply pF;intro h;have:=rT a h o;exact D.out (iB a) (Lf a h o) this.1 this.2.1);subst h;go_wp2_with fail;exact aT (v:=.tuple #[B8 0,.int .i64 13]) (by simp[results,results266,go_sem, *]) rfl ⟨rfl,rfl⟩
