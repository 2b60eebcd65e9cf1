/- Parts of the proof of ArchPacks: G1 G2. -/
import Derived.Test.YtdamnfpigajmoaaGreatDoorM01
import Derived.Test.YtdamnfpigajmoaaGreatDoorM10
import Derived.Test.YtdamnfpigajmoaaGreatDoorM11
set_option linter.unusedVariables false
set_option linter.unusedSectionVars false
set_option linter.unusedSimpArgs false
set_option maxHeartbeats 8000000
set_option maxRecDepth 100000
namespace Go.Fk
abbrev b6Qb:=@Go.bodyPost_ret
end Go.Fk
namespace Go.Proofs.YtdamnfpigajmoaaGreatDoor
open Go.RowKit Go.Fk
abbrev B8(n:Nat):Value:=.int .u8 (n:Int)
theorem mB(x:Nat)(h:x<256):Value.int .u8 (x:Int)=Fk.u8 (UInt8.ofNat x):=by
 show _=Value.int .u8 _;rw [jL];congr 1;omega
theorem Gz:iN 256 (fun a=>(a &&& 128) == (if a<128 then 0 else 128))=true:=by decide +kernel
theorem Gy(a:Nat)(d:a<256):bits .and .u8 (a:Int) 128=if a<128 then 0 else 128:=by
 have h:a &&& 128=if a<128 then 0 else 128:=by simpa using ka 256 _ Gz a d
 rw [show(128:Int)=((128:Nat):Int)from rfl,A8 a 128 d (by omega),h];split <;> rfl
theorem FE:iN 256 (fun a=>(a &&& 1) == a % 2)=true:=by decide +kernel
theorem FD(a:Nat)(d:a<256):bits .and .u8 (a:Int) 1=((a % 2:Nat):Int):=by
 have h:a &&& 1=a % 2:=beq_iff_eq.1 (ka 256 _ FE a d);rw [show(1:Int)=((1:Nat):Int)from rfl,A8 a 1 d (by omega),h]
theorem sJ (a : Nat) (o : a < 256) (w : World) :
    Calls Tryz.prog 273 #[B8 a] w fun e w'=>e=.returned (B8 (dE a))/\w=w':=by
  have m:=Gy a o;by_cases h:a<128;· rw [ai h]at m;have d:Hid (dE a=2*a):=(by show _=_;unfold dE;rw [ai h]);go_enter Tryz.func273, Tryz.ntmps273;go_wp2_with fail;go_ret;exact⟨by rw [d.out];go_num,rfl⟩
  · rw [ah h]at m;have q:bits .xor .u8 ((a:Int)*2 % 256) 29=(((2*a - 256) ^^^ 29:Nat):Int):=(by rw [show(a:Int)*2 % 256=((2*a - 256:Nat):Int) by omega];exact mT (2*a - 256) 29 (by omega) (by omega));have d:Hid (dE a=(2*a - 256) ^^^ 29):=(by show _=_;unfold dE;rw [ah h]);go_enter Tryz.func273, Tryz.ntmps273;go_wp2_with fail;go_ret;exact⟨by rw [d.out];go_num,rfl⟩
theorem Fv(f:Nat)(a o:Nat):jE f a 0 o=o:=by cases f <;> simp [jE]
theorem vu(a b:Nat)(J:a<256)(K:b<256)(w:World) :
  Calls Tryz.prog 272 #[B8 a,B8 b] w fun e w'=>e=.returned (B8 (aO a b))/\w=w':=by
 go_enter Tryz.func272, Tryz.ntmps272;go_wp2_with fail;go_loop [0,1,5] (fun L q M=>∃ (f x y o:Nat),L=B8 x/\q=B8 y/\M=B8 o/\x<256/\y<2 ^ f/\f<=8/\o<256/\Hid (aO a b=jE f x y o)) (fun _ q _=>(intOf q).toNat);case atStart=>exact⟨8,a,b,0,rfl,rfl,rfl,J,K,ag _,by omega,rfl⟩
 case round=>
  obtain⟨f,x,y,o,rfl,rfl,rfl,d,F,O,z,A⟩:=hrel;by_cases m:y=0;· subst m;have h:Hid (aO a b=o):=(by show _=_;rw [A.out,Fv]);go_wp2_with fail;go_ret;exact⟨by rw [h.out];rfl,rfl⟩
  · have V:((y:Int) != 0)=true:=(by simp;omega);have Q:y<256:=jN F (eC (by omega) O);have G:=FD y Q;have X:=mT o x z d;have I:=o8 x d
    cases f with
    | zero=>exact absurd (by omega:y=0) m
    | succ f=>
     rw [eA]at F;by_cases D:y % 2=1
     · have h:Hid (aO a b=jE f (dE x) (y / 2) (o ^^^ x)):=(by show _=_;rw [A.out,jE,ah m,ai D]);have R:o ^^^ x<2 ^ 8:=iw z d;rw [D]at G;go_wp2_with fail;refine(sJ x d _).mono ?_;rintro e T ⟨rfl,rfl⟩;go_wp2_with fail;go_round;case rel=>exact⟨f,dE x,y / 2,o ^^^ x,rfl,by go_num,rfl,I,by omega,by omega,R,h⟩
       case measure=>simp [intOf];omega
     · have U:y % 2=0:=(by omega);have h:Hid (aO a b=jE f (dE x) (y / 2) o):=(by show _=_;rw [A.out,jE,ah m,ah D]);rw [U]at G;go_wp2_with fail;refine(sJ x d _).mono ?_;rintro e T ⟨rfl,rfl⟩;go_wp2_with fail;go_round;case rel=>exact⟨f,dE x,y / 2,o,rfl,by go_num,rfl,I,by omega,by omega,z,h⟩
       case measure=>simp [intOf];omega
theorem E5(f:Nat)(a o:Nat):jT f a 0 o=o:=by cases f <;> simp [jT]
theorem KF(a n:Nat)(L:a<256)(M:a≠0)(O:n≠0)(hn:n<255)(w:World) :
  Calls Tryz.prog 229 #[B8 a,.int .u64 (n:Int)] w fun e w'=>e=.returned (B8 (jT 8 a n 1))/\w=w':=by
 have Q:((n:Int) == 0)=false:=by simp;exact O
 have T:((a:Int) == 0)=false:=by simp;exact M
 have k3:(n:Int) % 255=n:=by omega
 generalize F:jT 8 a n 1=R;have U:=ad F;clear F;go_enter Tryz.func229, Tryz.ntmps229;go_wp2_with fail;go_loop [0,1,5] (fun V q X=>∃ (f x y o:Nat),V=B8 x/\q=.int .u64 (y:Int)/\X=B8 o/\x<256/\y<2 ^ f/\f<=8/\o<256/\Hid (R=jT f x y o)) (fun _ q _=>(intOf q).toNat);case atStart=>exact⟨8,a,n,1,rfl,by rw [k3],rfl,L,by omega,ag _,by omega,U.out.symm⟩
 case round=>
  obtain⟨f,x,y,o,rfl,rfl,rfl,d,G,Y,z,A⟩:=hrel;clear Q T k3;by_cases m:y=0;· subst m;have h:Hid (R=o):=(by show _=_;rw [A.out,E5]);go_wp2_with fail;go_ret;exact⟨by rw [h.out];rfl,rfl⟩
  · have ac:(0:Int)<y:=(by omega);have aj:y<256:=jN G (eC (by omega) Y);have I:bits .and .u64 (y:Int) 1=((y % 2:Nat):Int):=(by have:=bits_and_u64_nat y 1 (by omega) (by omega);rw [Nat.and_one_is_mod]at this;exact this);have J:=n9 x x d;have Z:=n9 o x z
    cases f with
    | zero=>exact absurd (by omega:y=0) m
    | succ f=>
     rw [eA]at G;by_cases D:y % 2=1
     · have h:Hid (R=jT f (aO x x) (y / 2) (aO o x)):=(by show _=_;rw [A.out,jT,ah m,ai D]);rw [D]at I;go_wp2_with fail;refine(vu o x z d _).mono ?_;rintro e K ⟨rfl,rfl⟩;go_wp2_with fail;refine(vu x x d d _).mono ?_;rintro e K ⟨rfl,rfl⟩;go_wp2_with fail;go_round;case rel=>exact⟨f,aO x x,y / 2,aO o x,rfl,by go_num,rfl,J,by omega,by omega,Z,h⟩
       case measure=>simp [intOf];omega
     · have h3:y % 2=0:=(by omega);have h:Hid (R=jT f (aO x x) (y / 2) o):=(by show _=_;rw [A.out,jT,ah m,ah D]);rw [h3]at I;go_wp2_with fail;refine(vu x x d d _).mono ?_;rintro e K ⟨rfl,rfl⟩;go_wp2_with fail;go_round;case rel=>exact⟨f,aO x x,y / 2,o,rfl,by go_num,rfl,J,by omega,by omega,z,h⟩
       case measure=>simp [intOf];omega
def lJ(a:Nat):Value:=if a=0 then .tuple #[B8 0,.int .i64 13]else .tuple #[B8 (fT a),.int .i64 0]
theorem Lc(a:Nat)(h:a<256)(w:World) :
  Calls Tryz.prog 170 #[B8 a] w fun e w'=>e=.returned (lJ a)/\w=w':=by
 by_cases d:a=0;· subst d;go_enter Tryz.func170, Tryz.ntmps170;go_wp2_with fail;exact b6Qb (v:=.tuple #[B8 0,.int .i64 13]) (by simp [results,Tryz.results170,go_sem, *]) rfl ⟨rfl,rfl⟩
 · have q:((a:Int) == 0)=false:=(by simp;exact d);have m:Hid (lJ a=.tuple #[B8 (fT a),.int .i64 0]):=(by show _=_;unfold lJ;rw [ah d]);have o:Hid (∀ W,Calls Tryz.prog 229 #[B8 a,.int .u64 254] W fun e w'=>e=.returned (B8 (fT a))/\W=w'):=fun W=>KF a 254 h d (by omega) (by omega) W;generalize fT a=i at *;go_enter Tryz.func170, Tryz.ntmps170;go_wp2_with fail;refine(o.out _).mono ?_;rintro e y ⟨rfl,rfl⟩;go_wp2_with fail;exact b6Qb (v:=.tuple #[B8 i,.int .i64 0]) (by simp [results,Tryz.results170,go_sem, *]) rfl ⟨by rw [m.out],rfl⟩
theorem Aw(b k:Nat):((b:Int) / 2 ^ k).tmod 2=((b / 2 ^ k % 2:Nat):Int):=by
 rw [show(b:Int) / 2 ^ k=((b / 2 ^ k:Nat):Int) by simp];rfl
theorem xG(a k:Nat)(h:a*2 ^ k<9223372036854775808):IntKind.i64.wrap ((a:Int)*2 ^ k)=((a*2 ^ k:Nat):Int):=by
 rw [show(a:Int)*2 ^ k=((a*2 ^ k:Nat):Int) by simp];exact mV _ h
theorem xF(a k m n:Nat)(d:a<2 ^ m)(e:k<=n):a*2 ^ k<2 ^ (m+n):=by
 rw [Nat.pow_add];have h:2 ^ k<=2 ^ n:=eC (by omega) e
 calc a * 2 ^ k ≤ a * 2 ^ n := pM _ h
  _<2 ^ m*2 ^ n:=Nat.mul_lt_mul_of_pos_right d (kf n)
theorem Ee(q f:Nat)(m:q<2 ^ (f+1+8))(h:q / 2 ^ (f+8) % 2=1):q ^^^ (285*2 ^ f)<2 ^ (f+8):=by
 apply Nat.lt_pow_two_of_testBit;intro j y;rw [Nat.testBit_xor,Nat.testBit_mul_two_pow];by_cases e:j=f+8;· subst e;have d:q.testBit (f+8)=true:=(by rw [vH];simpa using h);rw [d,show f+8 - f=8 by omega];simp;decide
 · have d:q.testBit j=false:=Nat.testBit_lt_two_pow (jN m (eC (by omega) (by omega)));have o:Nat.testBit 285 (j - f)=false:=Nat.testBit_lt_two_pow (jN (by decide:285<2 ^ 9) (eC (by omega) (by omega)));rw [d,o];simp
theorem Ec(q f:Nat)(d:q<2 ^ (f+1+8))(h:¬q / 2 ^ (f+8) % 2=1):q<2 ^ (f+8):=by
 have e:q / 2 ^ (f+8)<2:=by rw [show f+1+8=(f+8)+1 by omega,eA]at d;exact Nat.div_lt_of_lt_mul d
 have m:q / 2 ^ (f+8)=0:=(by omega:∀ x:Nat,x<2->¬x % 2=1->x=0) _ e h;exact(Nat.div_eq_zero_iff_lt (kf _)).1 m
theorem AT(a b:Nat)(M:a<256)(Y:b<256)(w:World) :
  Calls Tryz.prog 239 #[B8 a,B8 b] w fun e w'=>e=.returned (B8 (aO a b))/\w=w':=by
 go_enter Tryz.func239, Tryz.ntmps239;go_wp2_with fail;go_loop [5,7] (fun D m=>∃ (f p:Nat),f<=8/\m=.int .i64 ((8 - f:Nat):Int)/\D=.int .i64 (p:Int)/\p<32768/\Hid (ja a b 8 0=ja a b f p)) (fun _ m=>8 - (intOf m).toNat);case atStart=>exact⟨8,0,ag _,rfl,rfl,by omega,rfl⟩
 case round=>
  obtain⟨f,p,T,rfl,rfl,F,z⟩:=hrel
  cases f with
  | zero=>
   have U:Hid (aO a b=ep 7 p):=(by show _=_;rw [<- Ft a b M];unfold tU;rw [z.out];rfl);clear z;go_wp2_with fail;go_loop [5,8] (fun D m=>∃ (f q:Nat),f<=7/\m=.int .i64 ((f+7:Nat):Int)/\D=.int .i64 (q:Int)/\q<2 ^ (f+8)/\Hid (aO a b=ep f q)) (fun _ m=>(intOf m).toNat);case atStart=>exact⟨7,p,ag _,rfl,rfl,F,U⟩
   case round=>
    obtain⟨f,q,T,rfl,rfl,A,G⟩:=hrel
    cases f with
    | zero=>have d:Hid (aO a b=q):=(by show _=_;rw [G.out];rfl);have Z:q<256:=A;have aa:IntKind.u8.wrap (q:Int)=q:=(by rw [km];omega);go_wp2_with fail;go_ret;exact⟨by rw [d.out];rfl,rfl⟩
    | succ f=>
     have o:=Aw q (f+8);have ab:q<2 ^ 15:=jN A (eC (by omega) (by omega));have O:285*2 ^ f<2 ^ 15:=(by have:=xF 285 f 9 6 (by decide) (by omega);exact this);have V:IntKind.i64.wrap ((285:Int)*2 ^ f)=((285*2 ^ f:Nat):Int):=xG 285 f (by omega);have I:=ad (sj q (285*2 ^ f) (by omega) (by omega));have i1:(f:Int)+8<=14:=(by omega);have i2:(0:Int)<=f:=(by omega);have i3:(f:Int)+1+7=f+8:=(by omega);have i4:((f:Int)+8).toNat=f+8:=(by omega);have i5:(8:Int)<=(f:Int)+8:=(by omega);rw [show((f+1+7:Nat):Int)=(f:Int)+8 by omega];by_cases h:q / 2 ^ (f+8) % 2=1
     · have d:Hid (aO a b=ep f (q ^^^ (285*2 ^ f))):=(by show _=_;rw [G.out,ep,ai h]);have J:=Ee q f A h;rw [h]at o;go_wp2_with fail;go_round;case rel=>exact⟨f,q ^^^ (285*2 ^ f),by omega,by go_num,by rw [show(285:Int)*2 ^ f=((285*2 ^ f:Nat):Int) by simp,I.out],J,d⟩
       case measure=>simp [intOf];omega
     · have K:q / 2 ^ (f+8) % 2=0:=(by omega);have d:Hid (aO a b=ep f q):=(by show _=_;rw [G.out,ep,ah h]);have J:=Ec q f A h;rw [K]at o;go_wp2_with fail;go_round;case rel=>exact⟨f,q,by omega,by go_num,rfl,J,d⟩
       case measure=>simp [intOf];omega
  | succ f=>
   have L:8 - (f+1)=7 - f:=(by omega);rw [L];obtain⟨k,y⟩:∃ k,7 - f=k:=⟨_,rfl⟩;rw [y];have k7:(k:Int)<8:=(by omega);have k0:(0:Int)<=k:=(by omega);have o:=Aw b k;have O:=xF a k 8 7 M (by omega);have V:=xG a k (by omega);have Q:=sj p (a*2 ^ k) (by omega) (by omega);have I:=ad Q;clear Q;have X:p ^^^ (a*2 ^ k)<2 ^ 15:=iw F O;have R:8 - f=k+1:=(by omega);by_cases h:b / 2 ^ k % 2=1
   · have d:Hid (ja a b 8 0=ja a b f (p ^^^ (a*2 ^ k))):=(by show _=_;rw [z.out,ja,y,ai h]);rw [h]at o;clear L y;go_wp2_with fail;go_round;case rel=>exact⟨f,p ^^^ (a*2 ^ k),by omega,by rw [R];go_num,by rw [show(a:Int)*2 ^ k=((a*2 ^ k:Nat):Int) by simp,I.out],X,d⟩
     case measure=>simp [intOf];omega
   · have K:b / 2 ^ k % 2=0:=(by omega);have d:Hid (ja a b 8 0=ja a b f p):=(by show _=_;rw [z.out,ja,y,ah h]);rw [K]at o;clear L y;go_wp2_with fail;go_round;case rel=>exact⟨f,p,by omega,by rw [R];go_num,rfl,F,d⟩
     case measure=>simp [intOf];omega
theorem JX(a:Nat)(o:a<256)(w:World) :
  Calls Tryz.prog 238 #[B8 a] w fun e w'=>e=.returned (lJ a)/\w=w':=by
 have J:Hid (∀ i,1<=i->i<256->aO a i=1->lJ a=.tuple #[B8 i,.int .i64 0]):=by intro i d z q;have h:a≠0:=(by rintro rfl;rw [yB]at q;cases q);unfold lJ;rw [ah h,Gd a i h o z q]
 go_enter Tryz.func238, Tryz.ntmps238;go_wp2_with fail;go_loop [4] (fun y=>∃ i:Nat,1<=i/\i<=256/\y=N i/\Hid (∀ j,1<=j->j<i->aO a j≠1)) (fun y=>256 - (intOf y).toNat);case atStart=>exact⟨1,ag _,by omega,rfl,by intro j d z;omega⟩
 case round=>
  obtain⟨i,K,U,rfl,D⟩:=hrel;by_cases F:i<256
  · have V:IntKind.u8.wrap (i:Int)=i:=(by rw [km];omega);have X:(i:Int)<256:=(by omega);have G:=ad (AT a i o F);by_cases d:aO a i=1;· have L:=ad (J.out i K F d);have M:=ad d;clear d;go_wp2_with fail;refine(G.out _).mono ?_;rintro e O ⟨I,rfl⟩;rw [M.out]at I;subst I;go_wp2_with fail;exact b6Qb (v:=.tuple #[B8 i,.int .i64 0]) (by simp [results,Tryz.results238,go_sem, *]) rfl ⟨by rw [L.out],rfl⟩
    · have Q:Hid (∀ j,1<=j->j<i+1->aO a j≠1):=by
        intro j R Y;by_cases e:j=i;· subst e;exact d
        · exact D.out j R (by omega)
      have Z:((aO a i:Int) == 1)=false:=(by simp;omega);generalize T:aO a i=m at *;clear T d;go_wp2_with fail;refine(G.out _).mono ?_;rintro e O ⟨rfl,rfl⟩;go_wp2_with fail;go_round;case rel=>exact⟨i+1,by omega,by omega,by go_num,Q⟩
      case measure=>simp [intOf];omega
  · obtain rfl:i=256:=(by omega);have h:a=0:=(by apply Classical.byContradiction;intro h;have:=qZ a h o;exact D.out (fT a) (Ge a h o) this.1 this.2.1);subst h;go_wp2_with fail;exact b6Qb (v:=.tuple #[B8 0,.int .i64 13]) (by simp [results,Tryz.results238,go_sem, *]) rfl ⟨rfl,rfl⟩
end Go.Proofs.YtdamnfpigajmoaaGreatDoor
