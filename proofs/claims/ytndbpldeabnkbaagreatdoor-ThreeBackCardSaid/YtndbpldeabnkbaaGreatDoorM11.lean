/- Lemmas for ThreeTurned. -/
import Derived.Test.YtndbpldeabnkbaaGreatDoorM04
import Derived.Test.YtndbpldeabnkbaaGreatDoorM10
set_option linter.all false
set_option maxHeartbeats 8000000
set_option maxRecDepth 100000
namespace Go.Fk
abbrev bFQb:=@Go.bodyPost_ret
end Go.Fk
namespace Go.Proofs.YtndbpldeabnkbaaGreatDoor
open Go.RowKit Go.Fk
abbrev B8(n:Nat):Value:=.int .u8 (n:Int)
def sd(x:Nat)(h:x<256):Value.int .u8 (x:Int)=Fk.u8 (UInt8.ofNat x):=by
 show _=Value.int .u8 _;rw[jp];congr 1;omega
def Sf:jn 256 (λa=>(a &&& 128) == (if a<128 then 0 else 128))=true:=by decide +kernel
def Se(a:Nat)(d:a<256):bits .and .u8 (a:Int) 128=if a<128 then 0 else 128:=by
 have h:a &&& 128=if a<128 then 0 else 128:=by simpa using jT 256 _ Sf a d
 rw[show(128:Int)=((128:Nat):Int)from rfl,IY a 128 d ω,h];split <;> rfl
def Q8:jn 256 (λa=>(a &&& 1) == a%2)=true:=by decide +kernel
def Q7(a:Nat)(d:a<256):bits .and .u8 (a:Int) 1=((a%2:Nat):Int):=by
 have h:a &&& 1=a%2:=beq_iff_eq.1 (jT 256 _ Q8 a d);rw[show(1:Int)=((1:Nat):Int)from rfl,IY a 1 d ω,h]
def zL(a:Nat)(o:a<256)(w:World):Calls Tryz.prog 210 #[B8 a] w λe w'=>e=.returned (B8 (gh a))/\w=w':=by
 have m:=Se a o;by_cases h:a<128;·rw[af h]at m;have d:Hid (gh a=2*a):=(by show _=_;unfold gh;rw[af h]);go_in;go_wp2;go_ret;exact⟨by rw[d.out];go_num,rfl⟩
 ·rw[ae h]at m;have z:bits .xor .u8 ((a:Int)*2%256) 29=(((2*a-256) ^^^ 29:Nat):Int):=(by rw[show(a:Int)*2%256=((2*a-256:Nat):Int) by omega];exact uB (2*a-256) 29 ω ω);have d:Hid (gh a=(2*a-256) ^^^ 29):=(by show _=_;unfold gh;rw[ae h]);go_in;go_wp2;go_ret;exact⟨by rw[d.out];go_num,rfl⟩
def Qf(f:Nat)(a o:Nat):ny f a 0 o=o:=by cases f <;> simp[ny]
def Cm(a b:Nat)(K:a<256)(L:b<256)(w:World):Calls Tryz.prog 209 #[B8 a,B8 b] w λe w'=>e=.returned (B8 (aS a b))/\w=w':=by
 go_in;go_wp2_with fail;go_loop [0,1,5] (λM z O=>∃(f x y o:Nat),M=B8 x/\z=B8 y/\O=B8 o/\x<256/\y<2^f/\f<=8/\o<256/\Hid (aS a b=ny f x y o)) (λ_ z _=>(intOf z).toNat);case atStart=>exact⟨8,a,b,0,rfl,rfl,rfl,K,L,al _,ω,rfl⟩
 case round=>
  obtain⟨f,x,y,o,rfl,rfl,rfl,d,G,Q,A,D⟩:=hrel;by_cases m:y=0;·subst m;have h:Hid (aS a b=o):=ad (by rw[D.out,Qf]);go_wp2;go_ret;exact⟨by rw[h.out];rfl,rfl⟩
  ·have Y:((y:Int) != 0)=true:=(by simp;omega);have R:y<256:=nJ G (fp ω Q);have I:=Q7 y R;have Z:=uB o x A d;have J:=r9 x d
   cases f with
   | zero=>exact absurd (by omega:y=0) m
   | succ f=>
    rw[gC]at G;by_cases F:y%2=1
    ·have h:Hid (aS a b=ny f (gh x) (y / 2) (o ^^^ x)):=ad (by rw[D.out,ny,ae m,af F]);have U:o ^^^ x<2^8:=jV A d;rw[F]at I;go_wp2_with fail;refine(zL x d _).mono ?_;rintro e V ⟨rfl,rfl⟩;go_wp2_with fail;go_round;case rel=>exact⟨f,gh x,y / 2,o ^^^ x,rfl,γ,rfl,J,ω,ω,U,h⟩
     case measure=>exact μ
    ·have X:y%2=0:=ω;have h:Hid (aS a b=ny f (gh x) (y / 2) o):=ad (by rw[D.out,ny,ae m,ae F]);rw[X]at I;go_wp2_with fail;refine(zL x d _).mono ?_;rintro e V ⟨rfl,rfl⟩;go_wp2_with fail;go_round;case rel=>exact⟨f,gh x,y / 2,o,rfl,γ,rfl,J,ω,ω,A,h⟩
     case measure=>exact μ
def OG(f:Nat)(a o:Nat):nQ f a 0 o=o:=by cases f <;> simp[nQ]
def WZ(a n:Nat)(M:a<256)(O:a≠0)(Q:n≠0)(hn:n<255)(w:World):Calls Tryz.prog 165 #[B8 a,.int .u64 (n:Int)] w λe w'=>e=.returned (B8 (nQ 8 a n 1))/\w=w':=by
 have U:((n:Int) == 0)=false:=by simp;exact Q
 have V:((a:Int) == 0)=false:=by simp;exact O
 have k3:(n:Int)%255=n:=ω
 generalize G:nQ 8 a n 1=R;have X:=ad G;clear G;go_in;go_wp2_with fail;go_loop [0,1,5] (λY z Z=>∃(f x y o:Nat),Y=B8 x/\z=.int .u64 (y:Int)/\Z=B8 o/\x<256/\y<2^f/\f<=8/\o<256/\Hid (R=nQ f x y o)) (λ_ z _=>(intOf z).toNat);case atStart=>exact⟨8,a,n,1,rfl,by rw[k3],rfl,M,ω,al _,ω,X.out.symm⟩
 case round=>
  obtain⟨f,x,y,o,rfl,rfl,rfl,d,I,hf,A,D⟩:=hrel;clear U V k3;by_cases m:y=0;·subst m;have h:Hid (R=o):=ad (by rw[D.out,OG]);go_wp2;go_ret;exact⟨by rw[h.out];rfl,rfl⟩
  ·have ak:(0:Int)<y:=ω;have ap:y<256:=nJ I (fp ω hf);have J:bits .and .u64 (y:Int) 1=((y%2:Nat):Int):=(by have:=bits_and_u64_nat y 1 ω ω;rw[Nat.and_one_is_mod]at this;exact this);have K:=nU x x d;have ab:=nU o x A
   cases f with
   | zero=>exact absurd (by omega:y=0) m
   | succ f=>
    rw[gC]at I;by_cases F:y%2=1
    ·have h:Hid (R=nQ f (aS x x) (y / 2) (aS o x)):=ad (by rw[D.out,nQ,ae m,af F]);rw[F]at J;go_wp2_with fail;refine(Cm o x A d _).mono ?_;rintro e L ⟨rfl,rfl⟩;go_wp2_with fail;refine(Cm x x d d _).mono ?_;rintro e L ⟨rfl,rfl⟩;go_wp2_with fail;go_round;case rel=>exact⟨f,aS x x,y / 2,aS o x,rfl,γ,rfl,K,ω,ω,ab,h⟩
     case measure=>exact μ
    ·have h3:y%2=0:=ω;have h:Hid (R=nQ f (aS x x) (y / 2) o):=ad (by rw[D.out,nQ,ae m,ae F]);rw[h3]at J;go_wp2_with fail;refine(Cm x x d d _).mono ?_;rintro e L ⟨rfl,rfl⟩;go_wp2_with fail;go_round;case rel=>exact⟨f,aS x x,y / 2,o,rfl,γ,rfl,K,ω,ω,A,h⟩
     case measure=>exact μ
def vx(a:Nat):Value:=if a=0 then .tuple #[B8 0,.int .i64 13]else .tuple #[B8 (n9 a),.int .i64 0]
def J8(a:Nat)(h:a<256)(w:World):Calls Tryz.prog 130 #[B8 a] w λe w'=>e=.returned (vx a)/\w=w':=by
 by_cases d:a=0;·subst d;go_in;go_wp2_with fail;exact bFQb (v:=.tuple #[B8 0,.int .i64 13]) (by simp[results,Tryz.results130,go_sem, *]) rfl ⟨rfl,rfl⟩
 ·have z:((a:Int) == 0)=false:=(by simp;exact d);have m:Hid (vx a=.tuple #[B8 (n9 a),.int .i64 0]):=(by show _=_;unfold vx;rw[ae d]);have o:Hid (∀W,Calls Tryz.prog 165 #[B8 a,.int .u64 254] W λe w'=>e=.returned (B8 (n9 a))/\W=w'):=λW=>WZ a 254 h d ω ω W;generalize n9 a=i at *;go_in;go_wp2_with fail;refine(o.out _).mono ?_;rintro e D ⟨rfl,rfl⟩;go_wp2_with fail;exact bFQb (v:=.tuple #[B8 i,.int .i64 0]) (by simp[results,Tryz.results130,go_sem, *]) rfl ⟨by rw[m.out],rfl⟩
