/- Parts of the proof of ArchEnds: G1 G2. -/
import Derived.Test.YtfpijnhhdfoohaaGreatDoorM03
import Derived.Test.YtfpijnhhdfoohaaGreatDoorM07
import Derived.Test.YtfpijnhhdfoohaaGreatDoorM00
set_option linter.unusedVariables false
set_option linter.unusedSectionVars false
set_option linter.unusedSimpArgs false
set_option maxHeartbeats 8000000
set_option maxRecDepth 100000
namespace Go.Fk
abbrev aL:=@Go.bodyPost_ret
end Go.Fk
namespace Go.Proofs.YtfpijnhhdfoohaaGreatDoor
open Go.RowKit Go.Fk
abbrev B8(n:Nat):Value:=.int .u8 (n:Int)
theorem pT(x:Nat)(h:x<256):Value.int .u8 (x:Int)=Fk.u8 (UInt8.ofNat x):=by
 show _=Value.int .u8 _;rw [lP];congr 1;omega
theorem Ng:gP 256 (fun a=>(a &&& 128) == (if a<128 then 0 else 128))=true:=by decide +kernel
theorem Nf(a:Nat)(d:a<256):bits .and .u8 (a:Int) 128=if a<128 then 0 else 128:=by
 have h:a &&& 128=if a<128 then 0 else 128:=by simpa using iD 256 _ Ng a d
 rw [show(128:Int)=((128:Nat):Int)from rfl,Eo a 128 d (by omega),h];split <;> rfl
theorem LW:gP 256 (fun a=>(a &&& 1) == a % 2)=true:=by decide +kernel
theorem LV(a:Nat)(d:a<256):bits .and .u8 (a:Int) 1=((a % 2:Nat):Int):=by
 have h:a &&& 1=a % 2:=beq_iff_eq.1 (iD 256 _ LW a d);rw [show(1:Int)=((1:Nat):Int)from rfl,Eo a 1 d (by omega),h]
theorem vX (a : Nat) (o : a < 256) (w : World) :
    Calls Tryz.prog 230 #[B8 a] w fun e q=>e=.returned (B8 (ew a))/\w=q:=by
  have m:=Nf a o;by_cases h:a<128;· rw [ag h]at m;have d:Hid (ew a=2*a):=(by show _=_;unfold ew;rw [ag h]);go_enter Tryz.func230, Tryz.ntmps230;go_wp2_with fail;go_ret;exact⟨by rw [d.out];go_num,rfl⟩
  · rw [ae h]at m;have z:bits .xor .u8 ((a:Int)*2 % 256) 29=(((2*a - 256) ^^^ 29:Nat):Int):=(by rw [show(a:Int)*2 % 256=((2*a - 256:Nat):Int) by omega];exact tF (2*a - 256) 29 (by omega) (by omega));have d:Hid (ew a=(2*a - 256) ^^^ 29):=(by show _=_;unfold ew;rw [ae h]);go_enter Tryz.func230, Tryz.ntmps230;go_wp2_with fail;go_ret;exact⟨by rw [d.out];go_num,rfl⟩
theorem L0(f:Nat)(a o:Nat):lF f a 0 o=o:=by cases f <;> simp [lF]
theorem zd(a b:Nat)(I:a<256)(J:b<256)(w:World) :
  Calls Tryz.prog 229 #[B8 a,B8 b] w fun e K=>e=.returned (B8 (aJ a b))/\w=K:=by
 go_enter Tryz.func229, Tryz.ntmps229;go_wp2_with fail;go_loop [0,1,5] (fun L q M=>∃ (f x y o:Nat),L=B8 x/\q=B8 y/\M=B8 o/\x<256/\y<2 ^ f/\f<=8/\o<256/\Hid (aJ a b=lF f x y o)) (fun _ q _=>(intOf q).toNat);case atStart=>exact⟨8,a,b,0,rfl,rfl,rfl,I,J,am _,by omega,rfl⟩
 case round=>
  obtain⟨f,x,y,o,rfl,rfl,rfl,d,D,O,z,A⟩:=hrel;by_cases m:y=0;· subst m;have h:Hid (aJ a b=o):=(by show _=_;rw [A.out,L0]);go_wp2_with fail;go_ret;exact⟨by rw [h.out];rfl,rfl⟩
  · have X:((y:Int) != 0)=true:=(by simp;omega);have Q:y<256:=nt D (ep (by omega) O);have F:=LV y Q;have Y:=tF o x z d;have G:=pd x d
    cases f with
    | zero=>exact absurd (by omega:y=0) m
    | succ f=>
     rw [kG]at D;by_cases B:y % 2=1
     · have h:Hid (aJ a b=lF f (ew x) (y / 2) (o ^^^ x)):=(by show _=_;rw [A.out,lF,ae m,ag B]);have R:o ^^^ x<2 ^ 8:=jz z d;rw [B]at F;go_wp2_with fail;refine(vX x d _).mono ?_;rintro e U ⟨rfl,rfl⟩;go_wp2_with fail;go_round;case rel=>exact⟨f,ew x,y / 2,o ^^^ x,rfl,by go_num,rfl,G,by omega,by omega,R,h⟩
       case measure=>simp [intOf];omega
     · have V:y % 2=0:=(by omega);have h:Hid (aJ a b=lF f (ew x) (y / 2) o):=(by show _=_;rw [A.out,lF,ae m,ae B]);rw [V]at F;go_wp2_with fail;refine(vX x d _).mono ?_;rintro e U ⟨rfl,rfl⟩;go_wp2_with fail;go_round;case rel=>exact⟨f,ew x,y / 2,o,rfl,by go_num,rfl,G,by omega,by omega,z,h⟩
       case measure=>simp [intOf];omega
theorem JY(f:Nat)(a o:Nat):mf f a 0 o=o:=by cases f <;> simp [mf]
theorem RC(a n:Nat)(K:a<256)(L:a≠0)(M:n≠0)(hn:n<255)(w:World) :
  Calls Tryz.prog 193 #[B8 a,.int .u64 (n:Int)] w fun e O=>e=.returned (B8 (mf 8 a n 1))/\w=O:=by
 have Q:((n:Int) == 0)=false:=by simp;exact M
 have U:((a:Int) == 0)=false:=by simp;exact L
 have k3:(n:Int) % 255=n:=by omega
 generalize D:mf 8 a n 1=R;have V:=ad D;clear D;go_enter Tryz.func193, Tryz.ntmps193;go_wp2_with fail;go_loop [0,1,5] (fun X q Y=>∃ (f x y o:Nat),X=B8 x/\q=.int .u64 (y:Int)/\Y=B8 o/\x<256/\y<2 ^ f/\f<=8/\o<256/\Hid (R=mf f x y o)) (fun _ q _=>(intOf q).toNat);case atStart=>exact⟨8,a,n,1,rfl,by rw [k3],rfl,K,by omega,am _,by omega,V.out.symm⟩
 case round=>
  obtain⟨f,x,y,o,rfl,rfl,rfl,d,F,Z,z,A⟩:=hrel;clear Q U k3;by_cases m:y=0;· subst m;have h:Hid (R=o):=(by show _=_;rw [A.out,JY]);go_wp2_with fail;go_ret;exact⟨by rw [h.out];rfl,rfl⟩
  · have aj:(0:Int)<y:=(by omega);have ak:y<256:=nt F (ep (by omega) Z);have G:bits .and .u64 (y:Int) 1=((y % 2:Nat):Int):=(by have:=bits_and_u64_nat y 1 (by omega) (by omega);rw [Nat.and_one_is_mod]at this;exact this);have I:=mT x x d;have aa:=mT o x z
    cases f with
    | zero=>exact absurd (by omega:y=0) m
    | succ f=>
     rw [kG]at F;by_cases B:y % 2=1
     · have h:Hid (R=mf f (aJ x x) (y / 2) (aJ o x)):=(by show _=_;rw [A.out,mf,ae m,ag B]);rw [B]at G;go_wp2_with fail;refine(zd o x z d _).mono ?_;rintro e J ⟨rfl,rfl⟩;go_wp2_with fail;refine(zd x x d d _).mono ?_;rintro e J ⟨rfl,rfl⟩;go_wp2_with fail;go_round;case rel=>exact⟨f,aJ x x,y / 2,aJ o x,rfl,by go_num,rfl,I,by omega,by omega,aa,h⟩
       case measure=>simp [intOf];omega
     · have h3:y % 2=0:=(by omega);have h:Hid (R=mf f (aJ x x) (y / 2) o):=(by show _=_;rw [A.out,mf,ae m,ae B]);rw [h3]at G;go_wp2_with fail;refine(zd x x d d _).mono ?_;rintro e J ⟨rfl,rfl⟩;go_wp2_with fail;go_round;case rel=>exact⟨f,aJ x x,y / 2,o,rfl,by go_num,rfl,I,by omega,by omega,z,h⟩
       case measure=>simp [intOf];omega
def si(a:Nat):Value:=if a=0 then .tuple #[B8 0,.int .i64 13]else .tuple #[B8 (lJ a),.int .i64 0]
theorem EG(a:Nat)(m:a<256)(w:World) :
  Calls Tryz.prog 161 #[B8 a] w fun e h=>e=.returned (si a)/\w=h:=by
 by_cases d:a=0;· subst d;go_enter Tryz.func161, Tryz.ntmps161;go_wp2_with fail;exact aL (v:=.tuple #[B8 0,.int .i64 13]) (by simp [results,Tryz.results161,go_sem, *]) rfl ⟨rfl,rfl⟩
 · have z:((a:Int) == 0)=false:=(by simp;exact d);have o:Hid (si a=.tuple #[B8 (lJ a),.int .i64 0]):=(by show _=_;unfold si;rw [ae d]);have q:Hid (∀ W,Calls Tryz.prog 193 #[B8 a,.int .u64 254] W fun e h=>e=.returned (B8 (lJ a))/\W=h):=fun W=>RC a 254 m d (by omega) (by omega) W;generalize lJ a=i at *;go_enter Tryz.func161, Tryz.ntmps161;go_wp2_with fail;refine(q.out _).mono ?_;rintro e B ⟨rfl,rfl⟩;go_wp2_with fail;exact aL (v:=.tuple #[B8 i,.int .i64 0]) (by simp [results,Tryz.results161,go_sem, *]) rfl ⟨by rw [o.out],rfl⟩
end Go.Proofs.YtfpijnhhdfoohaaGreatDoor
