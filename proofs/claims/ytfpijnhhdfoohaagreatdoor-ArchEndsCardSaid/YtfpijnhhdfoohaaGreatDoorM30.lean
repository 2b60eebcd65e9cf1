/- Parts of the proof of ArchEnds: O1 O2. -/
import Derived.Test.YtfpijnhhdfoohaaGreatDoorM03
import Derived.Test.YtfpijnhhdfoohaaGreatDoorM09
set_option linter.unusedVariables false
set_option linter.unusedSectionVars false
set_option linter.unusedSimpArgs false
set_option maxHeartbeats 8000000
set_option maxRecDepth 100000
namespace Go.Fk
abbrev awQc:=@Go.IntWalk.i64_in
abbrev bt:=@decide_eq_true
end Go.Fk
namespace Go.Proofs.YtfpijnhhdfoohaaGreatDoor
open Go.RowKit Go.Fk
structure dN where
 b:Int
 plain:Bool
 bu:Int
 d:Int
 p:Int
 c:Int
abbrev cS(o:dN):Value:=.agg #[.int .i64 o.b,.bool o.plain,.int .i64 o.bu,.int .i64 o.d,.int .i64 o.p,.int .i64 o.c]
def ou(o:dN):Bool:=decide (1<=o.d/\o.d<=255) && (decide (0<=o.p/\o.p<=255 - o.d) && decide (1<=o.c/\o.c<=4096))
def gY(o:dN):Bool:=decide (16<=o.b/\o.b<=32768) && (ou o && decide (1<=o.bu/\o.bu<=64))
theorem mR(x m o:Int)(w:World):Calls Tryz.prog 42 #[.int .i64 x,.int .i64 m,.int .i64 o] w fun e D=>e=.returned (.bool (decide (m<=x/\x<=o)))/\w=D:=by
 generalize z:decide (m<=x/\x<=o)=R;have q:=ad z;clear z;by_cases A:m<=x
 · by_cases B:x<=o;· have d:Hid (R=true):=(by show _=_;rw [<- q.out];exact bt ⟨A,B⟩);go_enter Tryz.func42, Tryz.ntmps42;go_wp2_with fail;go_ret;exact⟨by rw [d.out];rfl,rfl⟩
   · have d:Hid (R=false):=(by show _=_;rw [<- q.out];exact aX (fun h=>B h.2));go_enter Tryz.func42, Tryz.ntmps42;go_wp2_with fail;go_ret;exact⟨by rw [d.out];rfl,rfl⟩
 · have d:Hid (R=false):=(by show _=_;rw [<- q.out];exact aX (fun h=>A h.1));go_enter Tryz.func42, Tryz.ntmps42;go_wp2_with fail;go_ret;exact⟨by rw [d.out];rfl,rfl⟩
theorem Iq(o:dN)(w:World):Calls Tryz.prog 54 #[cS o] w fun e B=>e=.returned (.bool (ou o))/\Fr w B:=by
 have h:=ad (mR o.d 1 255);have z:=ad (mR o.p 0 (255 - o.d));have A:=ad (mR o.c 1 4096);have m:Hid (ou o=(decide (1<=o.d/\o.d<=255) && (decide (0<=o.p/\o.p<=255 - o.d) && decide (1<=o.c/\o.c<=4096)))):=rfl;by_cases d:1<=o.d/\o.d<=255
 · have D:IntKind.i64.wrap (255 - o.d)=255 - o.d:=awQc _ (by omega);have F:=d.1;have G:=d.2;rw [bt d]at h m;clear d;generalize decide (0<=o.p/\o.p<=255 - o.d)=I at *;generalize decide (1<=o.c/\o.c<=4096)=Q at *;generalize ou o=R at *;obtain⟨J,K,L,M,op,O⟩:=o;simp only at h z A D F G;go_enter Tryz.func54, Tryz.ntmps54;go_wp2_with fail;refine(h.out _).mono ?_;rintro e q ⟨rfl,rfl⟩;go_wp2_with fail;refine(z.out _).mono ?_;rintro e q ⟨rfl,rfl⟩;cases I;· go_wp2_with fail;go_ret;exact⟨by rw [m.out];rfl,(Fr.refl w).alloc _⟩
   · go_wp2_with fail;refine(A.out _).mono ?_;rintro e q ⟨rfl,rfl⟩;go_wp2_with fail;go_ret;exact⟨by rw [m.out];rfl,(Fr.refl w).alloc _⟩
 · rw [aX d]at h m;clear d;generalize ou o=R at *;obtain⟨J,K,L,M,op,O⟩:=o;go_enter Tryz.func54, Tryz.ntmps54;go_wp2_with fail;refine(h.out _).mono ?_;rintro e q ⟨rfl,rfl⟩;go_wp2_with fail;go_ret;exact⟨by rw [m.out];rfl,(Fr.refl w).alloc _⟩
theorem RO(o:dN)(w:World):Calls Tryz.prog 28 #[.int .i64 3,cS o] w fun e L=>e=.returned (.int .i64 (if gY o then 0 else 9))/\Fr w L:=by
  have G:=ad (mR o.b 16 32768);have I:=ad (Iq o);have J:=ad (mR o.bu 1 64);have z:Hid ((if gY o then(0:Int)else 9)=if(decide (16<=o.b/\o.b<=32768) && (ou o && decide (1<=o.bu/\o.bu<=64)))=true then 0 else 9):=rfl;generalize decide (16<=o.b/\o.b<=32768)=M at *;generalize ou o=O at *;generalize decide (1<=o.bu/\o.bu<=64)=Q at *;generalize (if gY o then(0:Int)else 9)=R at *;obtain⟨V,X,Y,Z,op,oc⟩:=o;simp only at G I J;go_enter Tryz.func28, Tryz.ntmps28;go_wp2_with fail;refine(G.out _).mono ?_;rintro e w1 ⟨rfl,rfl⟩;cases M;· go_wp2_with fail;go_ret;exact⟨by rw [z.out];rfl,((Fr.refl w).alloc _).alloc _⟩
  · go_wp2_with fail;refine(I.out _).mono ?_;rintro e h ⟨rfl,A⟩;have d:=A.heap (a9 _ _ (w.heap.size+1) (by simp));have B:=A.heap ((ig _ _ w.heap.size (by simp)).trans (a9 _ _ _ rfl));have D:Fr w h:=(((Fr.refl w).alloc _).alloc _).trans A;generalize hg:w.heap.size=g at *;have c0:=af B 0 rfl;have c1:=af B 1 rfl;have c2:=af B 2 rfl;have d0:=af d 0 rfl;have d1:=af d 1 rfl;have d2:=af d 2 rfl;have d3:=af d 3 rfl;have d4:=af d 4 rfl;have d5:=af d 5 rfl;have z2:=al d 2;have z3:=al d 3;have z4:=al d 4;have z5:=al d 5;have aC:g+1<h.heap.size:=(aM.1 d).1;have m:w.heap.size<=g+1:=(by omega);have q:=D.size;have U:∀ i u,(h.setCell ⟨g+1,i,none⟩ u).heap.size=h.heap.size:=fun i u=>by simp [World.setCell]
    have K:∀ u:Value,Fr w ((((h.setCell ⟨g+1,3,none⟩ u).setCell ⟨g+1,4,none⟩ u).setCell ⟨g+1,5,none⟩ u).setCell ⟨g+1,2,none⟩ u):=fun u=>
      ex (ex (ex (ex D m q) m (by simpa [World.setCell] using q)) m (by simpa [World.setCell] using q)) m (by simpa [World.setCell] using q)
    have F:=ad (K (.int .i64 0));clear K U q m D A;cases O;· go_wp2_with fail;go_ret;exact⟨by rw [z.out];rfl,F.out⟩
    · go_wp2_with fail;refine(J.out _).mono ?_;rintro e w3 ⟨rfl,rfl⟩;cases Q;· go_wp2_with fail;go_ret;exact⟨by rw [z.out];rfl,F.out⟩
      · go_wp2_with fail;go_ret;exact⟨by rw [z.out];rfl,F.out⟩
def gF(o:dN):Bool:=decide (16<=o.b/\o.b<=32768) && decide (1<=o.bu/\o.bu<=64)
theorem EB(o:dN)(h:o.d=0/\o.p=0/\o.c=0)(w:World):Calls Tryz.prog 28 #[.int .i64 2,cS o] w fun e z=>e=.returned (.int .i64 (if gF o then 0 else 9))/\Fr w z:=by
 have m:=ad (mR o.b 16 32768);have q:=ad (mR o.bu 1 64);have d:Hid ((if gF o then(0:Int)else 9)=if(decide (16<=o.b/\o.b<=32768) && decide (1<=o.bu/\o.bu<=64))=true then 0 else 9):=rfl;generalize decide (16<=o.b/\o.b<=32768)=A at *;generalize decide (1<=o.bu/\o.bu<=64)=B at *;generalize (if gF o then(0:Int)else 9)=R at *;obtain⟨D,F,G,I,op,J⟩:=o;simp only at m q h;obtain⟨rfl,rfl,rfl⟩:=h;go_enter Tryz.func28, Tryz.ntmps28;go_wp2_with fail;refine(m.out _).mono ?_;rintro e K ⟨rfl,rfl⟩;cases A;· go_wp2_with fail;go_ret;exact⟨by rw [d.out];rfl,((Fr.refl w).alloc _).alloc _⟩
 · go_wp2_with fail;refine(q.out _).mono ?_;rintro e L ⟨rfl,rfl⟩;cases B;· go_wp2_with fail;go_ret;exact⟨by rw [d.out];rfl,((Fr.refl w).alloc _).alloc _⟩
   · go_wp2_with fail;go_ret;exact⟨by rw [d.out];rfl,((Fr.refl w).alloc _).alloc _⟩
theorem xy(o:dN):gY o=true↔16<=o.b/\o.b<=32768/\1<=o.d/\o.d<=255/\0<=o.p/\o.p<=255 - o.d/\1<=o.c/\o.c<=4096/\1<=o.bu/\o.bu<=64:=by
 unfold gY ou;simp only [iH,fx];constructor;· rintro⟨⟨a,b⟩,⟨⟨c,d⟩,⟨e,f⟩,g,h⟩,i,j⟩;exact⟨a,b,c,d,e,f,g,h,i,j⟩
 · rintro⟨a,b,c,d,e,f,g,h,i,j⟩;exact⟨⟨a,b⟩,⟨⟨c,d⟩,⟨e,f⟩,g,h⟩,i,j⟩
theorem uk(o:dN):gF o=true↔16<=o.b/\o.b<=32768/\1<=o.bu/\o.bu<=64:=by
 unfold gF;simp only [iH,fx];constructor;· rintro⟨⟨a,b⟩,i,j⟩;exact⟨a,b,i,j⟩
 · rintro⟨a,b,i,j⟩;exact⟨⟨a,b⟩,i,j⟩
theorem Rv(d h m op o:Int)(q:Value)(A:d<16)(w:World):Calls Tryz.prog 9 #[.int .i64 3,.agg #[.int .i64 d,q,.int .i64 h,.int .i64 m,.int .i64 op,.int .i64 o]] w fun e z=>e=.returned (.int .i64 9)/\Fr w z:=by
 go_enter Tryz.func9, Tryz.ntmps9;go_wp2_with fail;go_ret;exact⟨rfl,(Fr.refl w).alloc _⟩
theorem Ru(d h m op o:Int)(q:Value)(A:16<=d)(B:32768<d)(w:World):Calls Tryz.prog 9 #[.int .i64 3,.agg #[.int .i64 d,q,.int .i64 h,.int .i64 m,.int .i64 op,.int .i64 o]] w fun e z=>e=.returned (.int .i64 9)/\Fr w z:=by
 go_enter Tryz.func9, Tryz.ntmps9;go_wp2_with fail;go_ret;exact⟨rfl,(Fr.refl w).alloc _⟩
theorem Rs(d h m op o:Int)(q:Value)(A:16<=d)(B:d<=32768)(D:h<1)(w:World):Calls Tryz.prog 9 #[.int .i64 3,.agg #[.int .i64 d,q,.int .i64 h,.int .i64 m,.int .i64 op,.int .i64 o]] w fun e z=>e=.returned (.int .i64 9)/\Fr w z:=by
 go_enter Tryz.func9, Tryz.ntmps9;go_wp2_with fail;go_ret;exact⟨rfl,(Fr.refl w).alloc _⟩
theorem Rr(d h m op o:Int)(q:Value)(A:16<=d)(B:d<=32768)(D:1<=h)(F:64<h)(w:World):Calls Tryz.prog 9 #[.int .i64 3,.agg #[.int .i64 d,q,.int .i64 h,.int .i64 m,.int .i64 op,.int .i64 o]] w fun e z=>e=.returned (.int .i64 9)/\Fr w z:=by
 go_enter Tryz.func9, Tryz.ntmps9;go_wp2_with fail;go_ret;exact⟨rfl,(Fr.refl w).alloc _⟩
theorem Rq(d h m op o:Int)(q:Value)(A:16<=d)(B:d<=32768)(D:1<=h)(F:h<=64)(G:m<1)(w:World):Calls Tryz.prog 9 #[.int .i64 3,.agg #[.int .i64 d,q,.int .i64 h,.int .i64 m,.int .i64 op,.int .i64 o]] w fun e z=>e=.returned (.int .i64 9)/\Fr w z:=by
 go_enter Tryz.func9, Tryz.ntmps9;go_wp2_with fail;go_ret;exact⟨rfl,(Fr.refl w).alloc _⟩
theorem Rp(d h m op o:Int)(q:Value)(A:16<=d)(B:d<=32768)(D:1<=h)(F:h<=64)(G:1<=m)(I:255<m)(w:World):Calls Tryz.prog 9 #[.int .i64 3,.agg #[.int .i64 d,q,.int .i64 h,.int .i64 m,.int .i64 op,.int .i64 o]] w fun e z=>e=.returned (.int .i64 9)/\Fr w z:=by
 go_enter Tryz.func9, Tryz.ntmps9;go_wp2_with fail;go_ret;exact⟨rfl,(Fr.refl w).alloc _⟩
theorem Ro(d h m op o:Int)(q:Value)(A:16<=d)(B:d<=32768)(D:1<=h)(F:h<=64)(G:1<=m)(I:m<=255)(J:op<0)(w:World):Calls Tryz.prog 9 #[.int .i64 3,.agg #[.int .i64 d,q,.int .i64 h,.int .i64 m,.int .i64 op,.int .i64 o]] w fun e z=>e=.returned (.int .i64 9)/\Fr w z:=by
 go_enter Tryz.func9, Tryz.ntmps9;go_wp2_with fail;go_ret;exact⟨rfl,(Fr.refl w).alloc _⟩
theorem Rn(h m d op o:Int)(q:Value)(A:16<=h)(B:h<=32768)(D:1<=m)(F:m<=64)(G:1<=d)(I:d<=255)(J:0<=op)(K:255 - d<op)(L:IntKind.i64.wrap (255 - d)=255 - d)(w:World):Calls Tryz.prog 9 #[.int .i64 3,.agg #[.int .i64 h,q,.int .i64 m,.int .i64 d,.int .i64 op,.int .i64 o]] w fun e z=>e=.returned (.int .i64 9)/\Fr w z:=by
 go_enter Tryz.func9, Tryz.ntmps9;go_wp2_with fail;go_ret;exact⟨rfl,(Fr.refl w).alloc _⟩
theorem Rm(h m d op o:Int)(q:Value)(A:16<=h)(B:h<=32768)(D:1<=m)(F:m<=64)(G:1<=d)(I:d<=255)(J:0<=op)(K:op<=255 - d)(L:o<1)(M:IntKind.i64.wrap (255 - d)=255 - d)(w:World):Calls Tryz.prog 9 #[.int .i64 3,.agg #[.int .i64 h,q,.int .i64 m,.int .i64 d,.int .i64 op,.int .i64 o]] w fun e z=>e=.returned (.int .i64 9)/\Fr w z:=by
 go_enter Tryz.func9, Tryz.ntmps9;go_wp2_with fail;go_ret;exact⟨rfl,(Fr.refl w).alloc _⟩
theorem Rl(h m d op o:Int)(q:Value)(A:16<=h)(B:h<=32768)(D:1<=m)(F:m<=64)(G:1<=d)(I:d<=255)(J:0<=op)(K:op<=255 - d)(L:1<=o)(M:4096<o)(O:IntKind.i64.wrap (255 - d)=255 - d)(w:World):Calls Tryz.prog 9 #[.int .i64 3,.agg #[.int .i64 h,q,.int .i64 m,.int .i64 d,.int .i64 op,.int .i64 o]] w fun e z=>e=.returned (.int .i64 9)/\Fr w z:=by
 go_enter Tryz.func9, Tryz.ntmps9;go_wp2_with fail;go_ret;exact⟨rfl,(Fr.refl w).alloc _⟩
theorem Rt(h m d op o:Int)(q:Value)(A:16<=h)(B:h<=32768)(D:1<=m)(F:m<=64)(G:1<=d)(I:d<=255)(J:0<=op)(K:op<=255 - d)(L:1<=o)(M:o<=4096)(O:IntKind.i64.wrap (255 - d)=255 - d)(w:World):Calls Tryz.prog 9 #[.int .i64 3,.agg #[.int .i64 h,q,.int .i64 m,.int .i64 d,.int .i64 op,.int .i64 o]] w fun e z=>e=.returned (.int .i64 0)/\Fr w z:=by
 go_enter Tryz.func9, Tryz.ntmps9;go_wp2_with fail;go_ret;exact⟨rfl,(Fr.refl w).alloc _⟩
theorem Rj(o:dN)(w:World):Calls Tryz.prog 9 #[.int .i64 3,cS o] w fun e B=>e=.returned (.int .i64 (if gY o then 0 else 9))/\Fr w B:=by
 obtain⟨m,D,q,d,op,z⟩:=o;have A:¬(16<=m/\m<=32768/\1<=d/\d<=255/\0<=op/\op<=255 - d/\1<=z/\z<=4096/\1<=q/\q<=64)->(if gY ⟨m,D,q,d,op,z⟩then(0:Int)else 9)=9:=fun h=>by rw [ae];rw [xy];exact h
 by_cases F:m<16;· rw [A (by omega)];exact Rv m q d op z _ (by omega) w
 by_cases G:32768<m;· rw [A (by omega)];exact Ru m q d op z _ (by omega) (by omega) w
 by_cases I:q<1;· rw [A (by omega)];exact Rs m q d op z _ (by omega) (by omega) (by omega) w
 by_cases J:64<q;· rw [A (by omega)];exact Rr m q d op z _ (by omega) (by omega) (by omega) (by omega) w
 by_cases K:d<1;· rw [A (by omega)];exact Rq m q d op z _ (by omega) (by omega) (by omega) (by omega) (by omega) w
 by_cases L:255<d;· rw [A (by omega)];exact Rp m q d op z _ (by omega) (by omega) (by omega) (by omega) (by omega) (by omega) w
 by_cases M:op<0;· rw [A (by omega)];exact Ro m q d op z _ (by omega) (by omega) (by omega) (by omega) (by omega) (by omega) (by omega) w
 by_cases O:255 - d<op;· rw [A (by omega)];exact Rn m q d op z _ (by omega) (by omega) (by omega) (by omega) (by omega) (by omega) (by omega) (by omega) (awQc _ (by omega)) w
 by_cases Q:z<1;· rw [A (by omega)];exact Rm m q d op z _ (by omega) (by omega) (by omega) (by omega) (by omega) (by omega) (by omega) (by omega) (by omega) (awQc _ (by omega)) w
 by_cases R:4096<z;· rw [A (by omega)];exact Rl m q d op z _ (by omega) (by omega) (by omega) (by omega) (by omega) (by omega) (by omega) (by omega) (by omega) (by omega) (awQc _ (by omega)) w
 rw [ag ((xy _).2 (by refine⟨?_,?_,?_,?_,?_,?_,?_,?_,?_,?_⟩ <;> simp only <;> omega))];exact Rt m q d op z _ (by omega) (by omega) (by omega) (by omega) (by omega) (by omega) (by omega) (by omega) (by omega) (by omega) (awQc _ (by omega)) w
theorem R0(d h:Int)(m:Value)(q:d<16)(w:World):Calls Tryz.prog 9 #[.int .i64 2,.agg #[.int .i64 d,m,.int .i64 h,.int .i64 0,.int .i64 0,.int .i64 0]] w fun e o=>e=.returned (.int .i64 9)/\Fr w o:=by
 go_enter Tryz.func9, Tryz.ntmps9;go_wp2_with fail;go_ret;exact⟨rfl,(Fr.refl w).alloc _⟩
theorem Rz(d h:Int)(m:Value)(q:16<=d)(z:32768<d)(w:World):Calls Tryz.prog 9 #[.int .i64 2,.agg #[.int .i64 d,m,.int .i64 h,.int .i64 0,.int .i64 0,.int .i64 0]] w fun e o=>e=.returned (.int .i64 9)/\Fr w o:=by
 go_enter Tryz.func9, Tryz.ntmps9;go_wp2_with fail;go_ret;exact⟨rfl,(Fr.refl w).alloc _⟩
theorem Ry(d h:Int)(m:Value)(q:16<=d)(z:d<=32768)(A:h<1)(w:World):Calls Tryz.prog 9 #[.int .i64 2,.agg #[.int .i64 d,m,.int .i64 h,.int .i64 0,.int .i64 0,.int .i64 0]] w fun e o=>e=.returned (.int .i64 9)/\Fr w o:=by
 go_enter Tryz.func9, Tryz.ntmps9;go_wp2_with fail;go_ret;exact⟨rfl,(Fr.refl w).alloc _⟩
theorem Rx(d h:Int)(m:Value)(q:16<=d)(z:d<=32768)(A:1<=h)(B:64<h)(w:World):Calls Tryz.prog 9 #[.int .i64 2,.agg #[.int .i64 d,m,.int .i64 h,.int .i64 0,.int .i64 0,.int .i64 0]] w fun e o=>e=.returned (.int .i64 9)/\Fr w o:=by
 go_enter Tryz.func9, Tryz.ntmps9;go_wp2_with fail;go_ret;exact⟨rfl,(Fr.refl w).alloc _⟩
theorem Rw(d h:Int)(m:Value)(q:16<=d)(z:d<=32768)(A:1<=h)(B:h<=64)(w:World):Calls Tryz.prog 9 #[.int .i64 2,.agg #[.int .i64 d,m,.int .i64 h,.int .i64 0,.int .i64 0,.int .i64 0]] w fun e o=>e=.returned (.int .i64 0)/\Fr w o:=by
 go_enter Tryz.func9, Tryz.ntmps9;go_wp2_with fail;go_ret;exact⟨rfl,(Fr.refl w).alloc _⟩
theorem Rk(o:dN)(z:o.d=0/\o.p=0/\o.c=0)(w:World):Calls Tryz.prog 9 #[.int .i64 2,cS o] w fun e A=>e=.returned (.int .i64 (if gF o then 0 else 9))/\Fr w A:=by
 obtain⟨d,B,m,D,op,F⟩:=o;obtain⟨rfl,rfl,rfl⟩:=z;have q:¬(16<=d/\d<=32768/\1<=m/\m<=64)->(if gF ⟨d,B,m,0,0,0⟩then(0:Int)else 9)=9:=fun h=>by rw [ae];rw [uk];exact h
 by_cases z:d<16;· rw [q (by omega)];exact R0 d m _ (by omega) w
 by_cases G:32768<d;· rw [q (by omega)];exact Rz d m _ (by omega) (by omega) w
 by_cases I:m<1;· rw [q (by omega)];exact Ry d m _ (by omega) (by omega) (by omega) w
 by_cases J:64<m;· rw [q (by omega)];exact Rx d m _ (by omega) (by omega) (by omega) (by omega) w
 rw [ag ((uk _).2 (by refine⟨?_,?_,?_,?_⟩ <;> simp only <;> omega))];exact Rw d m _ (by omega) (by omega) (by omega) (by omega) w
end Go.Proofs.YtfpijnhhdfoohaaGreatDoor
