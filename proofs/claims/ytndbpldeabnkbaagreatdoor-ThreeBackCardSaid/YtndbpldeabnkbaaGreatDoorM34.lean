/- Lemmas for ThreeTurned. -/
import Derived.Test.YtndbpldeabnkbaaGreatDoorM04
import Derived.Test.YtndbpldeabnkbaaGreatDoorM06
set_option linter.all false
set_option maxHeartbeats 8000000
set_option maxRecDepth 100000
namespace Go.Proofs.YtndbpldeabnkbaaGreatDoor
open Go.RowKit Go.Fk
structure dV where
 b:Int
 plain:Bool
 bu:Int
 d:Int
 p:Int
 c:Int
abbrev fq(o:dV):Value:=.agg #[.int .i64 o.b,.bool o.plain,.int .i64 o.bu,.int .i64 o.d,.int .i64 o.p,.int .i64 o.c]
def qI(o:dV):Bool:=decide (1<=o.d/\o.d<=255) && (decide (0<=o.p/\o.p<=255-o.d) && decide (1<=o.c/\o.c<=4096))
def ew(o:dV):Bool:=decide (16<=o.b/\o.b<=32768) && (qI o && decide (1<=o.bu/\o.bu<=64))
def pN(x m o:Int)(w:World):Calls Tryz.prog 29 #[.int .i64 x,.int .i64 m,.int .i64 o] w λe w'=>e=.returned (.bool (decide (m<=x/\x<=o)))/\w=w':=by
 generalize A:decide (m<=x/\x<=o)=R;have z:=ad A;clear A;by_cases D:m<=x
 ·by_cases F:x<=o;·have d:Hid (R=true):=(by show _=_;rw[<- z.out];exact bp ⟨D,F⟩);go_in;go_wp2;go_ret;exact⟨by rw[d.out];rfl,rfl⟩
  ·have d:Hid (R=false):=(by show _=_;rw[<- z.out];exact br (λh=>F h.2));go_in;go_wp2;go_ret;exact⟨by rw[d.out];rfl,rfl⟩
 ·have d:Hid (R=false):=(by show _=_;rw[<- z.out];exact br (λh=>D h.1));go_in;go_wp2;go_ret;exact⟨by rw[d.out];rfl,rfl⟩
def MD(o:dV)(w:World):Calls Tryz.prog 30 #[fq o] w λe w'=>e=.returned (.bool (qI o))/\Fr w w':=by
 have h:=ad (pN o.d 1 255);have A:=ad (pN o.p 0 (255-o.d));have D:=ad (pN o.c 1 4096);have m:Hid (qI o=(decide (1<=o.d/\o.d<=255) && (decide (0<=o.p/\o.p<=255-o.d) && decide (1<=o.c/\o.c<=4096)))):=rfl;by_cases d:1<=o.d/\o.d<=255
 ·have F:=ax (255-o.d) ω;have G:=d.1;have I:=d.2;rw[bp d]at h m;clear d;generalize qI o=R,decide (1<=o.c/\o.c<=4096)=b3,decide (0<=o.p/\o.p<=255-o.d)=J at *;obtain⟨K,L,M,O,op,Q⟩:=o;simp only at h A D F G I;go_in;go_wp2_with fail;refine(h.out _).mono ?_;rintro e z ⟨rfl,rfl⟩;go_wp2_with fail;refine(A.out _).mono ?_;rintro e z ⟨rfl,rfl⟩;cases J;·go_wp2;go_ret;exact⟨by rw[m.out];rfl,(Fr.refl w).alloc _⟩
  ·go_wp2_with fail;refine(D.out _).mono ?_;rintro e z ⟨rfl,rfl⟩;go_wp2;go_ret;exact⟨by rw[m.out];rfl,(Fr.refl w).alloc _⟩
 ·rw[br d]at h m;clear d;generalize qI o=R at *;obtain⟨K,L,M,O,op,Q⟩:=o;go_in;go_wp2_with fail;refine(h.out _).mono ?_;rintro e z ⟨rfl,rfl⟩;go_wp2;go_ret;exact⟨by rw[m.out];rfl,(Fr.refl w).alloc _⟩
def Cl(o:dV)(w:World):Calls Tryz.prog 18 #[.int .i64 3,fq o] w λe w'=>e=.returned (.int .i64 (if ew o then 0 else 9))/\Fr w w':=by
 have J:=ad (pN o.b 16 32768);have K:=ad (MD o);have L:=ad (pN o.bu 1 64);have A:Hid ((if ew o then(0:Int)else 9)=if(decide (16<=o.b/\o.b<=32768) && (qI o && decide (1<=o.bu/\o.bu<=64)))=true then 0 else 9):=rfl;generalize (if ew o then(0:Int)else 9)=R,decide (1<=o.bu/\o.bu<=64)=b3,qI o=b2,decide (16<=o.b/\o.b<=32768)=O at *;obtain⟨U,V,X,Y,op,Z⟩:=o;simp only at J K L;go_in;go_wp2_with fail;refine(J.out _).mono ?_;rintro e w1 ⟨rfl,rfl⟩;cases O;·go_wp2;go_ret;exact⟨by rw[A.out];rfl,((Fr.refl w).alloc _).alloc _⟩
 ·go_wp2_with fail;refine(K.out _).mono ?_;rintro e h ⟨rfl,D⟩;have d:=D.heap (aB _ _ (w.heap.size+1) σ);have F:=D.heap ((jk _ _ w.heap.size σ).trans (aB _ _ _ rfl));have G:Fr w h:=(((Fr.refl w).alloc _).alloc _).trans D;generalize hg:w.heap.size=g at *;have c0:=ag F 0 rfl;have c1:=ag F 1 rfl;have c2:=ag F 2 rfl;have d0:=ag d 0 rfl;have d1:=ag d 1 rfl;have d2:=ag d 2 rfl;have d3:=ag d 3 rfl;have d4:=ag d 4 rfl;have d5:=ag d 5 rfl;have z2:=a8 d 2;have z3:=a8 d 3;have z4:=a8 d 4;have z5:=a8 d 5;have a7:g+1<h.heap.size:=(aR.1 d).1;have m:w.heap.size<=g+1:=ω;have z:=G.size;have Q:∀i u,(h.setCell ⟨g+1,i,none⟩ u).heap.size=h.heap.size:=λi u=>by simp[World.setCell]
  have M:∀u:Value,Fr w ((((h.setCell ⟨g+1,3,none⟩ u).setCell ⟨g+1,4,none⟩ u).setCell ⟨g+1,5,none⟩ u).setCell ⟨g+1,2,none⟩ u):=λu=>
   ep (ep (ep (ep G m z) m (by simpa [World.setCell] using z)) m (by simpa [World.setCell] using z)) m (by simpa [World.setCell] using z)
  have I:=ad (M (.int .i64 0));clear M Q z m G D;cases b2;·go_wp2;go_ret;exact⟨by rw[A.out];rfl,I.out⟩
  ·go_wp2_with fail;refine(L.out _).mono ?_;rintro e w3 ⟨rfl,rfl⟩;cases b3;·go_wp2;go_ret;exact⟨by rw[A.out];rfl,I.out⟩
   ·go_wp2;go_ret;exact⟨by rw[A.out];rfl,I.out⟩
def jN(o:dV):Bool:=decide (16<=o.b/\o.b<=32768) && decide (1<=o.bu/\o.bu<=64)
def Xi(o:dV)(h:o.d=0/\o.p=0/\o.c=0)(w:World):Calls Tryz.prog 18 #[.int .i64 2,fq o] w λe w'=>e=.returned (.int .i64 (if jN o then 0 else 9))/\Fr w w':=by
 have m:=ad (pN o.b 16 32768);have z:=ad (pN o.bu 1 64);have d:Hid ((if jN o then(0:Int)else 9)=if(decide (16<=o.b/\o.b<=32768) && decide (1<=o.bu/\o.bu<=64))=true then 0 else 9):=rfl;generalize (if jN o then(0:Int)else 9)=R,decide (1<=o.bu/\o.bu<=64)=b3,decide (16<=o.b/\o.b<=32768)=A at *;obtain⟨D,F,G,I,op,J⟩:=o;simp only at m z h;obtain⟨rfl,rfl,rfl⟩:=h;go_in;go_wp2_with fail;refine(m.out _).mono ?_;rintro e K ⟨rfl,rfl⟩;cases A;·go_wp2;go_ret;exact⟨by rw[d.out];rfl,((Fr.refl w).alloc _).alloc _⟩
 ·go_wp2_with fail;refine(z.out _).mono ?_;rintro e L ⟨rfl,rfl⟩;cases b3;·go_wp2;go_ret;exact⟨by rw[d.out];rfl,((Fr.refl w).alloc _).alloc _⟩
  ·go_wp2;go_ret;exact⟨by rw[d.out];rfl,((Fr.refl w).alloc _).alloc _⟩
def kM(o:dV):ew o=true↔16<=o.b/\o.b<=32768/\1<=o.d/\o.d<=255/\0<=o.p/\o.p<=255-o.d/\1<=o.c/\o.c<=4096/\1<=o.bu/\o.bu<=64:=by
 unfold ew qI;simp only[fL,en];constructor;·rintro⟨⟨a,b⟩,⟨⟨c,d⟩,⟨e,f⟩,g,h⟩,i,j⟩;exact⟨a,b,c,d,e,f,g,h,i,j⟩
 ·rintro⟨a,b,c,d,e,f,g,h,i,j⟩;exact⟨⟨a,b⟩,⟨⟨c,d⟩,⟨e,f⟩,g,h⟩,i,j⟩
def xJ(o:dV):jN o=true↔16<=o.b/\o.b<=32768/\1<=o.bu/\o.bu<=64:=by
 unfold jN;simp only[fL,en];constructor;·rintro⟨⟨a,b⟩,i,j⟩;exact⟨a,b,i,j⟩
 ·rintro⟨a,b,i,j⟩;exact⟨⟨a,b⟩,i,j⟩
def WN(d h m op o:Int)(z:Value)(A:d<16)(w:World):Calls Tryz.prog 7 #[.int .i64 3,.agg #[.int .i64 d,z,.int .i64 h,.int .i64 m,.int .i64 op,.int .i64 o]] w λe w'=>e=.returned (.int .i64 9)/\Fr w w':=by
 go_in;go_wp2;go_ret;exact⟨rfl,(Fr.refl w).alloc _⟩
def WM(d h m op o:Int)(z:Value)(A:16<=d)(D:32768<d)(w:World):Calls Tryz.prog 7 #[.int .i64 3,.agg #[.int .i64 d,z,.int .i64 h,.int .i64 m,.int .i64 op,.int .i64 o]] w λe w'=>e=.returned (.int .i64 9)/\Fr w w':=by
 go_in;go_wp2;go_ret;exact⟨rfl,(Fr.refl w).alloc _⟩
def WJ(d h m op o:Int)(z:Value)(A:16<=d)(D:d<=32768)(F:h<1)(w:World):Calls Tryz.prog 7 #[.int .i64 3,.agg #[.int .i64 d,z,.int .i64 h,.int .i64 m,.int .i64 op,.int .i64 o]] w λe w'=>e=.returned (.int .i64 9)/\Fr w w':=by
 go_in;go_wp2;go_ret;exact⟨rfl,(Fr.refl w).alloc _⟩
def WI(d h m op o:Int)(z:Value)(A:16<=d)(D:d<=32768)(F:1<=h)(G:64<h)(w:World):Calls Tryz.prog 7 #[.int .i64 3,.agg #[.int .i64 d,z,.int .i64 h,.int .i64 m,.int .i64 op,.int .i64 o]] w λe w'=>e=.returned (.int .i64 9)/\Fr w w':=by
 go_in;go_wp2;go_ret;exact⟨rfl,(Fr.refl w).alloc _⟩
def WH(d h m op o:Int)(z:Value)(A:16<=d)(D:d<=32768)(F:1<=h)(G:h<=64)(I:m<1)(w:World):Calls Tryz.prog 7 #[.int .i64 3,.agg #[.int .i64 d,z,.int .i64 h,.int .i64 m,.int .i64 op,.int .i64 o]] w λe w'=>e=.returned (.int .i64 9)/\Fr w w':=by
 go_in;go_wp2;go_ret;exact⟨rfl,(Fr.refl w).alloc _⟩
def WG(d h m op o:Int)(z:Value)(A:16<=d)(D:d<=32768)(F:1<=h)(G:h<=64)(I:1<=m)(J:255<m)(w:World):Calls Tryz.prog 7 #[.int .i64 3,.agg #[.int .i64 d,z,.int .i64 h,.int .i64 m,.int .i64 op,.int .i64 o]] w λe w'=>e=.returned (.int .i64 9)/\Fr w w':=by
 go_in;go_wp2;go_ret;exact⟨rfl,(Fr.refl w).alloc _⟩
def WF(d h m op o:Int)(z:Value)(A:16<=d)(D:d<=32768)(F:1<=h)(G:h<=64)(I:1<=m)(J:m<=255)(K:op<0)(w:World):Calls Tryz.prog 7 #[.int .i64 3,.agg #[.int .i64 d,z,.int .i64 h,.int .i64 m,.int .i64 op,.int .i64 o]] w λe w'=>e=.returned (.int .i64 9)/\Fr w w':=by
 go_in;go_wp2;go_ret;exact⟨rfl,(Fr.refl w).alloc _⟩
def WE(h m d op o:Int)(z:Value)(A:16<=h)(D:h<=32768)(F:1<=m)(G:m<=64)(I:1<=d)(J:d<=255)(K:0<=op)(L:255-d<op)(M:IntKind.i64.wrap (255-d)=255-d)(w:World):Calls Tryz.prog 7 #[.int .i64 3,.agg #[.int .i64 h,z,.int .i64 m,.int .i64 d,.int .i64 op,.int .i64 o]] w λe w'=>e=.returned (.int .i64 9)/\Fr w w':=by
 go_in;go_wp2;go_ret;exact⟨rfl,(Fr.refl w).alloc _⟩
def Wz(h m d op o:Int)(z:Value)(A:16<=h)(D:h<=32768)(F:1<=m)(G:m<=64)(I:1<=d)(J:d<=255)(K:0<=op)(L:op<=255-d)(M:o<1)(O:IntKind.i64.wrap (255-d)=255-d)(w:World):Calls Tryz.prog 7 #[.int .i64 3,.agg #[.int .i64 h,z,.int .i64 m,.int .i64 d,.int .i64 op,.int .i64 o]] w λe w'=>e=.returned (.int .i64 9)/\Fr w w':=by
 go_in;go_wp2;go_ret;exact⟨rfl,(Fr.refl w).alloc _⟩
def Wy(h m d op o:Int)(z:Value)(A:16<=h)(D:h<=32768)(F:1<=m)(G:m<=64)(I:1<=d)(J:d<=255)(K:0<=op)(L:op<=255-d)(M:1<=o)(O:4096<o)(Q:IntKind.i64.wrap (255-d)=255-d)(w:World):Calls Tryz.prog 7 #[.int .i64 3,.agg #[.int .i64 h,z,.int .i64 m,.int .i64 d,.int .i64 op,.int .i64 o]] w λe w'=>e=.returned (.int .i64 9)/\Fr w w':=by
 go_in;go_wp2;go_ret;exact⟨rfl,(Fr.refl w).alloc _⟩
def WK(h m d op o:Int)(z:Value)(A:16<=h)(D:h<=32768)(F:1<=m)(G:m<=64)(I:1<=d)(J:d<=255)(K:0<=op)(L:op<=255-d)(M:1<=o)(O:o<=4096)(Q:IntKind.i64.wrap (255-d)=255-d)(w:World):Calls Tryz.prog 7 #[.int .i64 3,.agg #[.int .i64 h,z,.int .i64 m,.int .i64 d,.int .i64 op,.int .i64 o]] w λe w'=>e=.returned (.int .i64 0)/\Fr w w':=by
 go_in;go_wp2;go_ret;exact⟨rfl,(Fr.refl w).alloc _⟩
def Jw(o:dV)(w:World):Calls Tryz.prog 7 #[.int .i64 3,fq o] w λe w'=>e=.returned (.int .i64 (if ew o then 0 else 9))/\Fr w w':=by
 obtain⟨m,F,z,d,op,A⟩:=o;have D:¬(16<=m/\m<=32768/\1<=d/\d<=255/\0<=op/\op<=255-d/\1<=A/\A<=4096/\1<=z/\z<=64)->(if ew ⟨m,F,z,d,op,A⟩then(0:Int)else 9)=9:=λh=>by rw[ae];rw[kM];exact h
 by_cases G:m<16;·rw[D ω];exact WN m z d op A _ ω w
 by_cases I:32768<m;·rw[D ω];exact WM m z d op A _ ω ω w
 by_cases J:z<1;·rw[D ω];exact WJ m z d op A _ ω ω ω w
 by_cases K:64<z;·rw[D ω];exact WI m z d op A _ ω ω ω ω w
 by_cases L:d<1;·rw[D ω];exact WH m z d op A _ ω ω ω ω ω w
 by_cases M:255<d;·rw[D ω];exact WG m z d op A _ ω ω ω ω ω ω w
 by_cases O:op<0;·rw[D ω];exact WF m z d op A _ ω ω ω ω ω ω ω w
 by_cases Q:255-d<op;·rw[D ω];exact WE m z d op A _ ω ω ω ω ω ω ω ω (ax _ ω) w
 by_cases R:A<1;·rw[D ω];exact Wz m z d op A _ ω ω ω ω ω ω ω ω ω (ax _ ω) w
 by_cases U:4096<A;·rw[D ω];exact Wy m z d op A _ ω ω ω ω ω ω ω ω ω ω (ax _ ω) w
 rw[af ((kM _).2 (by refine⟨?_,?_,?_,?_,?_,?_,?_,?_,?_,?_⟩ <;> simp only <;> omega))];exact WK m z d op A _ ω ω ω ω ω ω ω ω ω ω (ax _ ω) w
