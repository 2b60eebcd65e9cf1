/- Parts of the proof of ArchPacks: O1 O2. -/
import Derived.Test.YtdamnfpigajmoaaGreatDoorM01
import Derived.Test.YtdamnfpigajmoaaGreatDoorM04
set_option linter.unusedVariables false
set_option linter.unusedSectionVars false
set_option linter.unusedSimpArgs false
set_option maxHeartbeats 8000000
set_option maxRecDepth 100000
namespace Go.Proofs.YtdamnfpigajmoaaGreatDoor
open Go.RowKit Go.Fk
structure be where
 b:Int
 plain:Bool
 bu:Int
 d:Int
 p:Int
 c:Int
abbrev aK(o:be):Value:=.agg #[.int .i64 o.b,.bool o.plain,.int .i64 o.bu,.int .i64 o.d,.int .i64 o.p,.int .i64 o.c]
def l7(o:be):Bool:=decide (1<=o.d/\o.d<=255) && (decide (0<=o.p/\o.p<=255 - o.d) && decide (1<=o.c/\o.c<=4096))
def fR(o:be):Bool:=decide (16<=o.b/\o.b<=32768) && (l7 o && decide (1<=o.bu/\o.bu<=64))
theorem ik(x m o:Int)(w:World):Calls Tryz.prog 49 #[.int .i64 x,.int .i64 m,.int .i64 o] w fun e w'=>e=.returned (.bool (decide (m<=x/\x<=o)))/\w=w':=by
 generalize y:decide (m<=x/\x<=o)=R;have q:=ad y;clear y;by_cases z:m<=x
 · by_cases A:x<=o;· have d:Hid (R=true):=(by show _=_;rw [<- q.out];exact bs ⟨z,A⟩);go_enter Tryz.func49, Tryz.ntmps49;go_wp2_with fail;go_ret;exact⟨by rw [d.out];rfl,rfl⟩
   · have d:Hid (R=false):=(by show _=_;rw [<- q.out];exact bi (fun h=>A h.2));go_enter Tryz.func49, Tryz.ntmps49;go_wp2_with fail;go_ret;exact⟨by rw [d.out];rfl,rfl⟩
 · have d:Hid (R=false):=(by show _=_;rw [<- q.out];exact bi (fun h=>z h.1));go_enter Tryz.func49, Tryz.ntmps49;go_wp2_with fail;go_ret;exact⟨by rw [d.out];rfl,rfl⟩
theorem Dc(o:be)(w:World):Calls Tryz.prog 51 #[aK o] w fun e w'=>e=.returned (.bool (l7 o))/\Fr w w':=by
 have h:=ad (ik o.d 1 255);have y:=ad (ik o.p 0 (255 - o.d));have z:=ad (ik o.c 1 4096);have m:Hid (l7 o=(decide (1<=o.d/\o.d<=255) && (decide (0<=o.p/\o.p<=255 - o.d) && decide (1<=o.c/\o.c<=4096)))):=rfl;by_cases d:1<=o.d/\o.d<=255
 · have A:IntKind.i64.wrap (255 - o.d)=255 - o.d:=ar _ (by omega);have D:=d.1;have F:=d.2;rw [bs d]at h m;clear d;generalize decide (0<=o.p/\o.p<=255 - o.d)=G at *;generalize decide (1<=o.c/\o.c<=4096)=O at *;generalize l7 o=R at *;obtain⟨I,J,K,L,op,M⟩:=o;simp only at h y z A D F;go_enter Tryz.func51, Tryz.ntmps51;go_wp2_with fail;refine(h.out _).mono ?_;rintro e q ⟨rfl,rfl⟩;go_wp2_with fail;refine(y.out _).mono ?_;rintro e q ⟨rfl,rfl⟩;cases G;· go_wp2_with fail;go_ret;exact⟨by rw [m.out];rfl,(Fr.refl w).alloc _⟩
   · go_wp2_with fail;refine(z.out _).mono ?_;rintro e q ⟨rfl,rfl⟩;go_wp2_with fail;go_ret;exact⟨by rw [m.out];rfl,(Fr.refl w).alloc _⟩
 · rw [bi d]at h m;clear d;generalize l7 o=R at *;obtain⟨I,J,K,L,op,M⟩:=o;go_enter Tryz.func51, Tryz.ntmps51;go_wp2_with fail;refine(h.out _).mono ?_;rintro e q ⟨rfl,rfl⟩;go_wp2_with fail;go_ret;exact⟨by rw [m.out];rfl,(Fr.refl w).alloc _⟩
theorem vp(o:be)(w:World):Calls Tryz.prog 26 #[.int .i64 3,aK o] w fun e w'=>e=.returned (.int .i64 (if fR o then 0 else 9))/\Fr w w':=by
  have G:=ad (ik o.b 16 32768);have I:=ad (Dc o);have J:=ad (ik o.bu 1 64);have y:Hid ((if fR o then(0:Int)else 9)=if(decide (16<=o.b/\o.b<=32768) && (l7 o && decide (1<=o.bu/\o.bu<=64)))=true then 0 else 9):=rfl;generalize decide (16<=o.b/\o.b<=32768)=L at *;generalize l7 o=M at *;generalize decide (1<=o.bu/\o.bu<=64)=O at *;generalize (if fR o then(0:Int)else 9)=R at *;obtain⟨T,U,V,X,op,Y⟩:=o;simp only at G I J;go_enter Tryz.func26, Tryz.ntmps26;go_wp2_with fail;refine(G.out _).mono ?_;rintro e Z ⟨rfl,rfl⟩;cases L;· go_wp2_with fail;go_ret;exact⟨by rw [y.out];rfl,((Fr.refl w).alloc _).alloc _⟩
  · go_wp2_with fail;refine(I.out _).mono ?_;rintro e h ⟨rfl,z⟩;have d:=z.heap (au _ _ (w.heap.size+1) (by simp));have A:=z.heap ((gz _ _ w.heap.size (by simp)).trans (au _ _ _ rfl));have D:Fr w h:=(((Fr.refl w).alloc _).alloc _).trans z;generalize hg:w.heap.size=g at *;have c0:=ae A 0 rfl;have c1:=ae A 1 rfl;have c2:=ae A 2 rfl;have d0:=ae d 0 rfl;have d1:=ae d 1 rfl;have d2:=ae d 2 rfl;have d3:=ae d 3 rfl;have d4:=ae d 4 rfl;have d5:=ae d 5 rfl;have z2:=az d 2;have z3:=az d 3;have z4:=az d 4;have z5:=az d 5;have ba:g+1<h.heap.size:=(aR.1 d).1;have m:w.heap.size<=g+1:=(by omega);have q:=D.size;have Q:∀ i u,(h.setCell ⟨g+1,i,none⟩ u).heap.size=h.heap.size:=fun i u=>by simp [World.setCell]
    have K:∀ u:Value,Fr w ((((h.setCell ⟨g+1,3,none⟩ u).setCell ⟨g+1,4,none⟩ u).setCell ⟨g+1,5,none⟩ u).setCell ⟨g+1,2,none⟩ u):=fun u=>
      db (db (db (db D m q) m (by simpa [World.setCell] using q)) m (by simpa [World.setCell] using q)) m (by simpa [World.setCell] using q)
    have F:=ad (K (.int .i64 0));clear K Q q m D z;cases M;· go_wp2_with fail;go_ret;exact⟨by rw [y.out];rfl,F.out⟩
    · go_wp2_with fail;refine(J.out _).mono ?_;rintro e w3 ⟨rfl,rfl⟩;cases O;· go_wp2_with fail;go_ret;exact⟨by rw [y.out];rfl,F.out⟩
      · go_wp2_with fail;go_ret;exact⟨by rw [y.out];rfl,F.out⟩
def dF(o:be):Bool:=decide (16<=o.b/\o.b<=32768) && decide (1<=o.bu/\o.bu<=64)
theorem vq(o:be)(h:o.d=0/\o.p=0/\o.c=0)(w:World):Calls Tryz.prog 26 #[.int .i64 2,aK o] w fun e w'=>e=.returned (.int .i64 (if dF o then 0 else 9))/\Fr w w':=by
 have m:=ad (ik o.b 16 32768);have q:=ad (ik o.bu 1 64);have d:Hid ((if dF o then(0:Int)else 9)=if(decide (16<=o.b/\o.b<=32768) && decide (1<=o.bu/\o.bu<=64))=true then 0 else 9):=rfl;generalize decide (16<=o.b/\o.b<=32768)=y at *;generalize decide (1<=o.bu/\o.bu<=64)=z at *;generalize (if dF o then(0:Int)else 9)=R at *;obtain⟨A,D,F,G,op,I⟩:=o;simp only at m q h;obtain⟨rfl,rfl,rfl⟩:=h;go_enter Tryz.func26, Tryz.ntmps26;go_wp2_with fail;refine(m.out _).mono ?_;rintro e J ⟨rfl,rfl⟩;cases y;· go_wp2_with fail;go_ret;exact⟨by rw [d.out];rfl,((Fr.refl w).alloc _).alloc _⟩
 · go_wp2_with fail;refine(q.out _).mono ?_;rintro e K ⟨rfl,rfl⟩;cases z;· go_wp2_with fail;go_ret;exact⟨by rw [d.out];rfl,((Fr.refl w).alloc _).alloc _⟩
   · go_wp2_with fail;go_ret;exact⟨by rw [d.out];rfl,((Fr.refl w).alloc _).alloc _⟩
theorem mr(o:be):fR o=true↔16<=o.b/\o.b<=32768/\1<=o.d/\o.d<=255/\0<=o.p/\o.p<=255 - o.d/\1<=o.c/\o.c<=4096/\1<=o.bu/\o.bu<=64:=by
 unfold fR l7;simp only [f8,fi];constructor;· rintro⟨⟨a,b⟩,⟨⟨c,d⟩,⟨e,f⟩,g,h⟩,i,j⟩;exact⟨a,b,c,d,e,f,g,h,i,j⟩
 · rintro⟨a,b,c,d,e,f,g,h,i,j⟩;exact⟨⟨a,b⟩,⟨⟨c,d⟩,⟨e,f⟩,g,h⟩,i,j⟩
theorem lG(o:be):dF o=true↔16<=o.b/\o.b<=32768/\1<=o.bu/\o.bu<=64:=by
 unfold dF;simp only [f8,fi];constructor;· rintro⟨⟨a,b⟩,i,j⟩;exact⟨a,b,i,j⟩
 · rintro⟨a,b,i,j⟩;exact⟨⟨a,b⟩,i,j⟩
theorem JH(d h m op o:Int)(q:Value)(y:d<16)(w:World):Calls Tryz.prog 13 #[.int .i64 3,.agg #[.int .i64 d,q,.int .i64 h,.int .i64 m,.int .i64 op,.int .i64 o]] w fun e w'=>e=.returned (.int .i64 9)/\Fr w w':=by
 go_enter Tryz.func13, Tryz.ntmps13;go_wp2_with fail;go_ret;exact⟨rfl,(Fr.refl w).alloc _⟩
theorem JG(d h m op o:Int)(q:Value)(y:16<=d)(z:32768<d)(w:World):Calls Tryz.prog 13 #[.int .i64 3,.agg #[.int .i64 d,q,.int .i64 h,.int .i64 m,.int .i64 op,.int .i64 o]] w fun e w'=>e=.returned (.int .i64 9)/\Fr w w':=by
 go_enter Tryz.func13, Tryz.ntmps13;go_wp2_with fail;go_ret;exact⟨rfl,(Fr.refl w).alloc _⟩
theorem JE(d h m op o:Int)(q:Value)(y:16<=d)(z:d<=32768)(A:h<1)(w:World):Calls Tryz.prog 13 #[.int .i64 3,.agg #[.int .i64 d,q,.int .i64 h,.int .i64 m,.int .i64 op,.int .i64 o]] w fun e w'=>e=.returned (.int .i64 9)/\Fr w w':=by
 go_enter Tryz.func13, Tryz.ntmps13;go_wp2_with fail;go_ret;exact⟨rfl,(Fr.refl w).alloc _⟩
theorem JD(d h m op o:Int)(q:Value)(y:16<=d)(z:d<=32768)(A:1<=h)(D:64<h)(w:World):Calls Tryz.prog 13 #[.int .i64 3,.agg #[.int .i64 d,q,.int .i64 h,.int .i64 m,.int .i64 op,.int .i64 o]] w fun e w'=>e=.returned (.int .i64 9)/\Fr w w':=by
 go_enter Tryz.func13, Tryz.ntmps13;go_wp2_with fail;go_ret;exact⟨rfl,(Fr.refl w).alloc _⟩
theorem JC(d h m op o:Int)(q:Value)(y:16<=d)(z:d<=32768)(A:1<=h)(D:h<=64)(F:m<1)(w:World):Calls Tryz.prog 13 #[.int .i64 3,.agg #[.int .i64 d,q,.int .i64 h,.int .i64 m,.int .i64 op,.int .i64 o]] w fun e w'=>e=.returned (.int .i64 9)/\Fr w w':=by
 go_enter Tryz.func13, Tryz.ntmps13;go_wp2_with fail;go_ret;exact⟨rfl,(Fr.refl w).alloc _⟩
theorem JB(d h m op o:Int)(q:Value)(y:16<=d)(z:d<=32768)(A:1<=h)(D:h<=64)(F:1<=m)(G:255<m)(w:World):Calls Tryz.prog 13 #[.int .i64 3,.agg #[.int .i64 d,q,.int .i64 h,.int .i64 m,.int .i64 op,.int .i64 o]] w fun e w'=>e=.returned (.int .i64 9)/\Fr w w':=by
 go_enter Tryz.func13, Tryz.ntmps13;go_wp2_with fail;go_ret;exact⟨rfl,(Fr.refl w).alloc _⟩
theorem JA(d h m op o:Int)(q:Value)(y:16<=d)(z:d<=32768)(A:1<=h)(D:h<=64)(F:1<=m)(G:m<=255)(I:op<0)(w:World):Calls Tryz.prog 13 #[.int .i64 3,.agg #[.int .i64 d,q,.int .i64 h,.int .i64 m,.int .i64 op,.int .i64 o]] w fun e w'=>e=.returned (.int .i64 9)/\Fr w w':=by
 go_enter Tryz.func13, Tryz.ntmps13;go_wp2_with fail;go_ret;exact⟨rfl,(Fr.refl w).alloc _⟩
theorem J9(h m d op o:Int)(q:Value)(y:16<=h)(z:h<=32768)(A:1<=m)(D:m<=64)(F:1<=d)(G:d<=255)(I:0<=op)(J:255 - d<op)(K:IntKind.i64.wrap (255 - d)=255 - d)(w:World):Calls Tryz.prog 13 #[.int .i64 3,.agg #[.int .i64 h,q,.int .i64 m,.int .i64 d,.int .i64 op,.int .i64 o]] w fun e w'=>e=.returned (.int .i64 9)/\Fr w w':=by
 go_enter Tryz.func13, Tryz.ntmps13;go_wp2_with fail;go_ret;exact⟨rfl,(Fr.refl w).alloc _⟩
theorem J8(h m d op o:Int)(q:Value)(y:16<=h)(z:h<=32768)(A:1<=m)(D:m<=64)(F:1<=d)(G:d<=255)(I:0<=op)(J:op<=255 - d)(K:o<1)(L:IntKind.i64.wrap (255 - d)=255 - d)(w:World):Calls Tryz.prog 13 #[.int .i64 3,.agg #[.int .i64 h,q,.int .i64 m,.int .i64 d,.int .i64 op,.int .i64 o]] w fun e w'=>e=.returned (.int .i64 9)/\Fr w w':=by
 go_enter Tryz.func13, Tryz.ntmps13;go_wp2_with fail;go_ret;exact⟨rfl,(Fr.refl w).alloc _⟩
theorem J7(h m d op o:Int)(q:Value)(y:16<=h)(z:h<=32768)(A:1<=m)(D:m<=64)(F:1<=d)(G:d<=255)(I:0<=op)(J:op<=255 - d)(K:1<=o)(L:4096<o)(M:IntKind.i64.wrap (255 - d)=255 - d)(w:World):Calls Tryz.prog 13 #[.int .i64 3,.agg #[.int .i64 h,q,.int .i64 m,.int .i64 d,.int .i64 op,.int .i64 o]] w fun e w'=>e=.returned (.int .i64 9)/\Fr w w':=by
 go_enter Tryz.func13, Tryz.ntmps13;go_wp2_with fail;go_ret;exact⟨rfl,(Fr.refl w).alloc _⟩
theorem JF(h m d op o:Int)(q:Value)(y:16<=h)(z:h<=32768)(A:1<=m)(D:m<=64)(F:1<=d)(G:d<=255)(I:0<=op)(J:op<=255 - d)(K:1<=o)(L:o<=4096)(M:IntKind.i64.wrap (255 - d)=255 - d)(w:World):Calls Tryz.prog 13 #[.int .i64 3,.agg #[.int .i64 h,q,.int .i64 m,.int .i64 d,.int .i64 op,.int .i64 o]] w fun e w'=>e=.returned (.int .i64 0)/\Fr w w':=by
 go_enter Tryz.func13, Tryz.ntmps13;go_wp2_with fail;go_ret;exact⟨rfl,(Fr.refl w).alloc _⟩
theorem rO(o:be)(w:World):Calls Tryz.prog 13 #[.int .i64 3,aK o] w fun e w'=>e=.returned (.int .i64 (if fR o then 0 else 9))/\Fr w w':=by
 obtain⟨m,A,q,d,op,y⟩:=o;have z:¬(16<=m/\m<=32768/\1<=d/\d<=255/\0<=op/\op<=255 - d/\1<=y/\y<=4096/\1<=q/\q<=64)->(if fR ⟨m,A,q,d,op,y⟩then(0:Int)else 9)=9:=fun h=>by rw [ah];rw [mr];exact h
 by_cases D:m<16;· rw [z (by omega)];exact JH m q d op y _ (by omega) w
 by_cases F:32768<m;· rw [z (by omega)];exact JG m q d op y _ (by omega) (by omega) w
 by_cases G:q<1;· rw [z (by omega)];exact JE m q d op y _ (by omega) (by omega) (by omega) w
 by_cases I:64<q;· rw [z (by omega)];exact JD m q d op y _ (by omega) (by omega) (by omega) (by omega) w
 by_cases J:d<1;· rw [z (by omega)];exact JC m q d op y _ (by omega) (by omega) (by omega) (by omega) (by omega) w
 by_cases K:255<d;· rw [z (by omega)];exact JB m q d op y _ (by omega) (by omega) (by omega) (by omega) (by omega) (by omega) w
 by_cases L:op<0;· rw [z (by omega)];exact JA m q d op y _ (by omega) (by omega) (by omega) (by omega) (by omega) (by omega) (by omega) w
 by_cases M:255 - d<op;· rw [z (by omega)];exact J9 m q d op y _ (by omega) (by omega) (by omega) (by omega) (by omega) (by omega) (by omega) (by omega) (ar _ (by omega)) w
 by_cases O:y<1;· rw [z (by omega)];exact J8 m q d op y _ (by omega) (by omega) (by omega) (by omega) (by omega) (by omega) (by omega) (by omega) (by omega) (ar _ (by omega)) w
 by_cases Q:4096<y;· rw [z (by omega)];exact J7 m q d op y _ (by omega) (by omega) (by omega) (by omega) (by omega) (by omega) (by omega) (by omega) (by omega) (by omega) (ar _ (by omega)) w
 rw [ai ((mr _).2 (by refine⟨?_,?_,?_,?_,?_,?_,?_,?_,?_,?_⟩ <;> simp only <;> omega))];exact JF m q d op y _ (by omega) (by omega) (by omega) (by omega) (by omega) (by omega) (by omega) (by omega) (by omega) (by omega) (ar _ (by omega)) w
theorem JM(d h:Int)(m:Value)(o:d<16)(w:World):Calls Tryz.prog 13 #[.int .i64 2,.agg #[.int .i64 d,m,.int .i64 h,.int .i64 0,.int .i64 0,.int .i64 0]] w fun e w'=>e=.returned (.int .i64 9)/\Fr w w':=by
 go_enter Tryz.func13, Tryz.ntmps13;go_wp2_with fail;go_ret;exact⟨rfl,(Fr.refl w).alloc _⟩
theorem JL(d h:Int)(m:Value)(o:16<=d)(q:32768<d)(w:World):Calls Tryz.prog 13 #[.int .i64 2,.agg #[.int .i64 d,m,.int .i64 h,.int .i64 0,.int .i64 0,.int .i64 0]] w fun e w'=>e=.returned (.int .i64 9)/\Fr w w':=by
 go_enter Tryz.func13, Tryz.ntmps13;go_wp2_with fail;go_ret;exact⟨rfl,(Fr.refl w).alloc _⟩
theorem JK(d h:Int)(m:Value)(o:16<=d)(q:d<=32768)(y:h<1)(w:World):Calls Tryz.prog 13 #[.int .i64 2,.agg #[.int .i64 d,m,.int .i64 h,.int .i64 0,.int .i64 0,.int .i64 0]] w fun e w'=>e=.returned (.int .i64 9)/\Fr w w':=by
 go_enter Tryz.func13, Tryz.ntmps13;go_wp2_with fail;go_ret;exact⟨rfl,(Fr.refl w).alloc _⟩
theorem JJ(d h:Int)(m:Value)(o:16<=d)(q:d<=32768)(y:1<=h)(z:64<h)(w:World):Calls Tryz.prog 13 #[.int .i64 2,.agg #[.int .i64 d,m,.int .i64 h,.int .i64 0,.int .i64 0,.int .i64 0]] w fun e w'=>e=.returned (.int .i64 9)/\Fr w w':=by
 go_enter Tryz.func13, Tryz.ntmps13;go_wp2_with fail;go_ret;exact⟨rfl,(Fr.refl w).alloc _⟩
theorem JI(d h:Int)(m:Value)(o:16<=d)(q:d<=32768)(y:1<=h)(z:h<=64)(w:World):Calls Tryz.prog 13 #[.int .i64 2,.agg #[.int .i64 d,m,.int .i64 h,.int .i64 0,.int .i64 0,.int .i64 0]] w fun e w'=>e=.returned (.int .i64 0)/\Fr w w':=by
 go_enter Tryz.func13, Tryz.ntmps13;go_wp2_with fail;go_ret;exact⟨rfl,(Fr.refl w).alloc _⟩
theorem J6(o:be)(y:o.d=0/\o.p=0/\o.c=0)(w:World):Calls Tryz.prog 13 #[.int .i64 2,aK o] w fun e w'=>e=.returned (.int .i64 (if dF o then 0 else 9))/\Fr w w':=by
 obtain⟨d,z,m,A,op,D⟩:=o;obtain⟨rfl,rfl,rfl⟩:=y;have q:¬(16<=d/\d<=32768/\1<=m/\m<=64)->(if dF ⟨d,z,m,0,0,0⟩then(0:Int)else 9)=9:=fun h=>by rw [ah];rw [lG];exact h
 by_cases y:d<16;· rw [q (by omega)];exact JM d m _ (by omega) w
 by_cases F:32768<d;· rw [q (by omega)];exact JL d m _ (by omega) (by omega) w
 by_cases G:m<1;· rw [q (by omega)];exact JK d m _ (by omega) (by omega) (by omega) w
 by_cases I:64<m;· rw [q (by omega)];exact JJ d m _ (by omega) (by omega) (by omega) (by omega) w
 rw [ai ((lG _).2 (by refine⟨?_,?_,?_,?_⟩ <;> simp only <;> omega))];exact JI d m _ (by omega) (by omega) (by omega) (by omega) w
end Go.Proofs.YtdamnfpigajmoaaGreatDoor
