/- Lemmas. -/
import Derived.Test.YtmcaneofjlhhmaaGreatDoorM01
import Derived.Test.YtmcaneofjlhhmaaGreatDoorM07
set_option linter.all false
set_option maxHeartbeats 8000000
set_option maxRecDepth 100000
namespace Go.Fk
abbrev aAQc:=@Go.IntWalk.i64_in
end Go.Fk
namespace Go.Proofs
open RowKit Fk Tryz
structure fK where
 b:Int
 plain:Bool
 bu:Int
 d:Int
 p:Int
 c:Int
abbrev fg(o:fK):Value:=.agg #[.int .i64 o.b,.bool o.plain,.int .i64 o.bu,.int .i64 o.d,.int .i64 o.p,.int .i64 o.c]
def nD(o:fK):Bool:=decide (1<=o.d/\o.d<=255) && (decide (0<=o.p/\o.p<=255-o.d) && decide (1<=o.c/\o.c<=4096))
def gX(o:fK):Bool:=decide (16<=o.b/\o.b<=32768) && (nD o && decide (1<=o.bu/\o.bu<=64))
def mN(x m o:Int)(w:World):Calls prog 35 #[.int .i64 x,.int .i64 m,.int .i64 o] w λe w'=>e=.returned (.bool (decide (m<=x/\x<=o)))/\w=w':=by
 generalize q:decide (m<=x/\x<=o)=R;have p:=ad q;clear q;by_cases z:m<=x
 ·by_cases A:x<=o;·have d:Hid (R=true):=(by show _=_;rw[<- p.out];exact bz ⟨z,A⟩);go_in;go_wp2;go_ret;exact⟨by rw[d.out];rfl,rfl⟩
  ·have d:Hid (R=false):=(by show _=_;rw[<- p.out];exact bw (λh=>A h.2));go_in;go_wp2;go_ret;exact⟨by rw[d.out];rfl,rfl⟩
 ·have d:Hid (R=false):=(by show _=_;rw[<- p.out];exact bw (λh=>z h.1));go_in;go_wp2;go_ret;exact⟨by rw[d.out];rfl,rfl⟩
def Hx(o:fK)(w:World):Calls prog 36 #[fg o] w λe w'=>e=.returned (.bool (nD o))/\Fr w w':=by
 have h:=ad (mN o.d 1 255);have q:=ad (mN o.p 0 (255-o.d));have z:=ad (mN o.c 1 4096);have m:Hid (nD o=(decide (1<=o.d/\o.d<=255) && (decide (0<=o.p/\o.p<=255-o.d) && decide (1<=o.c/\o.c<=4096)))):=rfl;by_cases d:1<=o.d/\o.d<=255
 ·have A:=aAQc (255-o.d) ω;have D:=d.1;have F:=d.2;rw[bz d]at h m;clear d;generalize nD o=R,decide (1<=o.c/\o.c<=4096)=b3,decide (0<=o.p/\o.p<=255-o.d)=G at *;obtain⟨I,J,K,L,op,M⟩:=o;simp only at h q z A D F;go_in;go_wp2_with fail;refine(h.out _).mono ?_;rintro e p ⟨rfl,rfl⟩;go_wp2_with fail;refine(q.out _).mono ?_;rintro e p ⟨rfl,rfl⟩;cases G;·go_wp2;go_ret;exact⟨by rw[m.out];rfl,(Fr.refl w).alloc _⟩
  ·go_wp2_with fail;refine(z.out _).mono ?_;rintro e p ⟨rfl,rfl⟩;go_wp2;go_ret;exact⟨by rw[m.out];rfl,(Fr.refl w).alloc _⟩
 ·rw[bw d]at h m;clear d;generalize nD o=R at *;obtain⟨I,J,K,L,op,M⟩:=o;go_in;go_wp2_with fail;refine(h.out _).mono ?_;rintro e p ⟨rfl,rfl⟩;go_wp2;go_ret;exact⟨by rw[m.out];rfl,(Fr.refl w).alloc _⟩
def Fj(o:fK)(w:World):Calls prog 16 #[.int .i64 3,fg o] w λe w'=>e=.returned (.int .i64 (if gX o then 0 else 9))/\Fr w w':=by
 have G:=ad (mN o.b 16 32768);have I:=ad (Hx o);have J:=ad (mN o.bu 1 64);have q:Hid ((if gX o then(0:Int)else 9)=if(decide (16<=o.b/\o.b<=32768) && (nD o && decide (1<=o.bu/\o.bu<=64)))=true then 0 else 9):=rfl;generalize (if gX o then(0:Int)else 9)=R,decide (1<=o.bu/\o.bu<=64)=b3,nD o=b2,decide (16<=o.b/\o.b<=32768)=L at *;obtain⟨O,Q,U,V,op,W⟩:=o;simp only at G I J;go_in;go_wp2_with fail;refine(G.out _).mono ?_;rintro e X ⟨rfl,rfl⟩;cases L;·go_wp2;go_ret;exact⟨by rw[q.out];rfl,((Fr.refl w).alloc _).alloc _⟩
 ·go_wp2_with fail;refine(I.out _).mono ?_;rintro e h ⟨rfl,z⟩;have d:=z.heap (aD _ _ (w.heap.size+1) σ);have A:=z.heap ((gn _ _ w.heap.size σ).trans (aD _ _ _ rfl));have D:Fr w h:=(((Fr.refl w).alloc _).alloc _).trans z;generalize Y:w.heap.size=g at *;have Z:=af A 0 rfl;have c1:=af A 1 rfl;have c2:=af A 2 rfl;have d0:=af d 0 rfl;have d1:=af d 1 rfl;have d2:=af d 2 rfl;have d3:=af d 3 rfl;have d4:=af d 4 rfl;have d5:=af d 5 rfl;have z2:=aB d 2;have z3:=aB d 3;have z4:=aB d 4;have z5:=aB d 5;have az:g+1<h.heap.size:=(aX.1 d).1;have m:w.heap.size<=g+1:=ω;have p:=D.size;have M:∀i u,(h.setCell ⟨g+1,i,none⟩ u).heap.size=h.heap.size:=λi u=>by simp[World.setCell]
  have K:∀u:Value,Fr w ((((h.setCell ⟨g+1,3,none⟩ u).setCell ⟨g+1,4,none⟩ u).setCell ⟨g+1,5,none⟩ u).setCell ⟨g+1,2,none⟩ u):=λu=>
   eP (eP (eP (eP D m p) m (by simpa [World.setCell] using p)) m (by simpa [World.setCell] using p)) m (by simpa [World.setCell] using p)
  have F:=ad (K (.int .i64 0));clear K M p m D z;cases b2;·go_wp2;go_ret;exact⟨by rw[q.out];rfl,F.out⟩
  ·go_wp2_with fail;refine(J.out _).mono ?_;rintro e w3 ⟨rfl,rfl⟩;cases b3;·go_wp2;go_ret;exact⟨by rw[q.out];rfl,F.out⟩
   ·go_wp2;go_ret;exact⟨by rw[q.out];rfl,F.out⟩
def gA(o:fK):Bool:=decide (16<=o.b/\o.b<=32768) && decide (1<=o.bu/\o.bu<=64)
def Qr(o:fK)(h:o.d=0/\o.p=0/\o.c=0)(w:World):Calls prog 16 #[.int .i64 2,fg o] w λe w'=>e=.returned (.int .i64 (if gA o then 0 else 9))/\Fr w w':=by
 have m:=ad (mN o.b 16 32768);have p:=ad (mN o.bu 1 64);have d:Hid ((if gA o then(0:Int)else 9)=if(decide (16<=o.b/\o.b<=32768) && decide (1<=o.bu/\o.bu<=64))=true then 0 else 9):=rfl;generalize (if gA o then(0:Int)else 9)=R,decide (1<=o.bu/\o.bu<=64)=b3,decide (16<=o.b/\o.b<=32768)=q at *;obtain⟨z,A,D,F,op,G⟩:=o;simp only at m p h;obtain⟨rfl,rfl,rfl⟩:=h;go_in;go_wp2_with fail;refine(m.out _).mono ?_;rintro e I ⟨rfl,rfl⟩;cases q;·go_wp2;go_ret;exact⟨by rw[d.out];rfl,((Fr.refl w).alloc _).alloc _⟩
 ·go_wp2_with fail;refine(p.out _).mono ?_;rintro e J ⟨rfl,rfl⟩;cases b3;·go_wp2;go_ret;exact⟨by rw[d.out];rfl,((Fr.refl w).alloc _).alloc _⟩
  ·go_wp2;go_ret;exact⟨by rw[d.out];rfl,((Fr.refl w).alloc _).alloc _⟩
def wV(o:fK):gX o=true↔16<=o.b/\o.b<=32768/\1<=o.d/\o.d<=255/\0<=o.p/\o.p<=255-o.d/\1<=o.c/\o.c<=4096/\1<=o.bu/\o.bu<=64:=by
 unfold gX nD;grind
def rF(o:fK):gA o=true↔16<=o.b/\o.b<=32768/\1<=o.bu/\o.bu<=64:=by
 unfold gA;grind
def P7(d h m op o:Int)(p:Value)(q:d<16)(w:World):Calls prog 81 #[.int .i64 3,.agg #[.int .i64 d,p,.int .i64 h,.int .i64 m,.int .i64 op,.int .i64 o]] w λe w'=>e=.returned (.int .i64 9)/\Fr w w':=by
 go_in;go_wp2;go_ret;exact⟨rfl,(Fr.refl w).alloc _⟩
def P6(d h m op o:Int)(p:Value)(q:16<=d)(z:32768<d)(w:World):Calls prog 81 #[.int .i64 3,.agg #[.int .i64 d,p,.int .i64 h,.int .i64 m,.int .i64 op,.int .i64 o]] w λe w'=>e=.returned (.int .i64 9)/\Fr w w':=by
 go_in;go_wp2;go_ret;exact⟨rfl,(Fr.refl w).alloc _⟩
def Pz(d h m op o:Int)(p:Value)(q:16<=d)(z:d<=32768)(A:h<1)(w:World):Calls prog 81 #[.int .i64 3,.agg #[.int .i64 d,p,.int .i64 h,.int .i64 m,.int .i64 op,.int .i64 o]] w λe w'=>e=.returned (.int .i64 9)/\Fr w w':=by
 go_in;go_wp2;go_ret;exact⟨rfl,(Fr.refl w).alloc _⟩
def Py(d h m op o:Int)(p:Value)(q:16<=d)(z:d<=32768)(A:1<=h)(D:64<h)(w:World):Calls prog 81 #[.int .i64 3,.agg #[.int .i64 d,p,.int .i64 h,.int .i64 m,.int .i64 op,.int .i64 o]] w λe w'=>e=.returned (.int .i64 9)/\Fr w w':=by
 go_in;go_wp2;go_ret;exact⟨rfl,(Fr.refl w).alloc _⟩
def Px(d h m op o:Int)(p:Value)(q:16<=d)(z:d<=32768)(A:1<=h)(D:h<=64)(F:m<1)(w:World):Calls prog 81 #[.int .i64 3,.agg #[.int .i64 d,p,.int .i64 h,.int .i64 m,.int .i64 op,.int .i64 o]] w λe w'=>e=.returned (.int .i64 9)/\Fr w w':=by
 go_in;go_wp2;go_ret;exact⟨rfl,(Fr.refl w).alloc _⟩
def Pw(d h m op o:Int)(p:Value)(q:16<=d)(z:d<=32768)(A:1<=h)(D:h<=64)(F:1<=m)(G:255<m)(w:World):Calls prog 81 #[.int .i64 3,.agg #[.int .i64 d,p,.int .i64 h,.int .i64 m,.int .i64 op,.int .i64 o]] w λe w'=>e=.returned (.int .i64 9)/\Fr w w':=by
 go_in;go_wp2;go_ret;exact⟨rfl,(Fr.refl w).alloc _⟩
def Pv(d h m op o:Int)(p:Value)(q:16<=d)(z:d<=32768)(A:1<=h)(D:h<=64)(F:1<=m)(G:m<=255)(I:op<0)(w:World):Calls prog 81 #[.int .i64 3,.agg #[.int .i64 d,p,.int .i64 h,.int .i64 m,.int .i64 op,.int .i64 o]] w λe w'=>e=.returned (.int .i64 9)/\Fr w w':=by
 go_in;go_wp2;go_ret;exact⟨rfl,(Fr.refl w).alloc _⟩
def Pu(h m d op o:Int)(p:Value)(q:16<=h)(z:h<=32768)(A:1<=m)(D:m<=64)(F:1<=d)(G:d<=255)(I:0<=op)(J:255-d<op)(K:IntKind.i64.wrap (255-d)=255-d)(w:World):Calls prog 81 #[.int .i64 3,.agg #[.int .i64 h,p,.int .i64 m,.int .i64 d,.int .i64 op,.int .i64 o]] w λe w'=>e=.returned (.int .i64 9)/\Fr w w':=by
 go_in;go_wp2;go_ret;exact⟨rfl,(Fr.refl w).alloc _⟩
def Pt(h m d op o:Int)(p:Value)(q:16<=h)(z:h<=32768)(A:1<=m)(D:m<=64)(F:1<=d)(G:d<=255)(I:0<=op)(J:op<=255-d)(K:o<1)(L:IntKind.i64.wrap (255-d)=255-d)(w:World):Calls prog 81 #[.int .i64 3,.agg #[.int .i64 h,p,.int .i64 m,.int .i64 d,.int .i64 op,.int .i64 o]] w λe w'=>e=.returned (.int .i64 9)/\Fr w w':=by
 go_in;go_wp2;go_ret;exact⟨rfl,(Fr.refl w).alloc _⟩
def Ps(h m d op o:Int)(p:Value)(q:16<=h)(z:h<=32768)(A:1<=m)(D:m<=64)(F:1<=d)(G:d<=255)(I:0<=op)(J:op<=255-d)(K:1<=o)(L:4096<o)(M:IntKind.i64.wrap (255-d)=255-d)(w:World):Calls prog 81 #[.int .i64 3,.agg #[.int .i64 h,p,.int .i64 m,.int .i64 d,.int .i64 op,.int .i64 o]] w λe w'=>e=.returned (.int .i64 9)/\Fr w w':=by
 go_in;go_wp2;go_ret;exact⟨rfl,(Fr.refl w).alloc _⟩
def P4(h m d op o:Int)(p:Value)(q:16<=h)(z:h<=32768)(A:1<=m)(D:m<=64)(F:1<=d)(G:d<=255)(I:0<=op)(J:op<=255-d)(K:1<=o)(L:o<=4096)(M:IntKind.i64.wrap (255-d)=255-d)(w:World):Calls prog 81 #[.int .i64 3,.agg #[.int .i64 h,p,.int .i64 m,.int .i64 d,.int .i64 op,.int .i64 o]] w λe w'=>e=.returned (.int .i64 0)/\Fr w w':=by
 go_in;go_wp2;go_ret;exact⟨rfl,(Fr.refl w).alloc _⟩
def Pq(o:fK)(w:World):Calls prog 81 #[.int .i64 3,fg o] w λe w'=>e=.returned (.int .i64 (if gX o then 0 else 9))/\Fr w w':=by
 obtain⟨m,A,p,d,op,q⟩:=o;have z:¬(16<=m/\m<=32768/\1<=d/\d<=255/\0<=op/\op<=255-d/\1<=q/\q<=4096/\1<=p/\p<=64)->(if gX ⟨m,A,p,d,op,q⟩then(0:Int)else 9)=9:=λh=>by rw[ae];rw[wV];exact h
 by_cases D:m<16;·rw[z ω];exact P7 m p d op q _ ω w
 by_cases F:32768<m;·rw[z ω];exact P6 m p d op q _ ω ω w
 by_cases G:p<1;·rw[z ω];exact Pz m p d op q _ ω ω ω w
 by_cases I:64<p;·rw[z ω];exact Py m p d op q _ ω ω ω ω w
 by_cases J:d<1;·rw[z ω];exact Px m p d op q _ ω ω ω ω ω w
 by_cases K:255<d;·rw[z ω];exact Pw m p d op q _ ω ω ω ω ω ω w
 by_cases L:op<0;·rw[z ω];exact Pv m p d op q _ ω ω ω ω ω ω ω w
 by_cases M:255-d<op;·rw[z ω];exact Pu m p d op q _ ω ω ω ω ω ω ω ω (aAQc _ ω) w
 by_cases O:q<1;·rw[z ω];exact Pt m p d op q _ ω ω ω ω ω ω ω ω ω (aAQc _ ω) w
 by_cases Q:4096<q;·rw[z ω];exact Ps m p d op q _ ω ω ω ω ω ω ω ω ω ω (aAQc _ ω) w
 rw[an ((wV _).2 (by refine⟨?_,?_,?_,?_,?_,?_,?_,?_,?_,?_⟩ <;> simp only <;> omega))];exact P4 m p d op q _ ω ω ω ω ω ω ω ω ω ω (aAQc _ ω) w
def PC(d h:Int)(m:Value)(o:d<16)(w:World):Calls prog 81 #[.int .i64 2,.agg #[.int .i64 d,m,.int .i64 h,.int .i64 0,.int .i64 0,.int .i64 0]] w λe w'=>e=.returned (.int .i64 9)/\Fr w w':=by
 go_in;go_wp2;go_ret;exact⟨rfl,(Fr.refl w).alloc _⟩
def PB(d h:Int)(m:Value)(o:16<=d)(p:32768<d)(w:World):Calls prog 81 #[.int .i64 2,.agg #[.int .i64 d,m,.int .i64 h,.int .i64 0,.int .i64 0,.int .i64 0]] w λe w'=>e=.returned (.int .i64 9)/\Fr w w':=by
 go_in;go_wp2;go_ret;exact⟨rfl,(Fr.refl w).alloc _⟩
def PA(d h:Int)(m:Value)(o:16<=d)(p:d<=32768)(q:h<1)(w:World):Calls prog 81 #[.int .i64 2,.agg #[.int .i64 d,m,.int .i64 h,.int .i64 0,.int .i64 0,.int .i64 0]] w λe w'=>e=.returned (.int .i64 9)/\Fr w w':=by
 go_in;go_wp2;go_ret;exact⟨rfl,(Fr.refl w).alloc _⟩
def P9(d h:Int)(m:Value)(o:16<=d)(p:d<=32768)(q:1<=h)(z:64<h)(w:World):Calls prog 81 #[.int .i64 2,.agg #[.int .i64 d,m,.int .i64 h,.int .i64 0,.int .i64 0,.int .i64 0]] w λe w'=>e=.returned (.int .i64 9)/\Fr w w':=by
 go_in;go_wp2;go_ret;exact⟨rfl,(Fr.refl w).alloc _⟩
def P8(d h:Int)(m:Value)(o:16<=d)(p:d<=32768)(q:1<=h)(z:h<=64)(w:World):Calls prog 81 #[.int .i64 2,.agg #[.int .i64 d,m,.int .i64 h,.int .i64 0,.int .i64 0,.int .i64 0]] w λe w'=>e=.returned (.int .i64 0)/\Fr w w':=by
 go_in;go_wp2;go_ret;exact⟨rfl,(Fr.refl w).alloc _⟩
def Pr(o:fK)(q:o.d=0/\o.p=0/\o.c=0)(w:World):Calls prog 81 #[.int .i64 2,fg o] w λe w'=>e=.returned (.int .i64 (if gA o then 0 else 9))/\Fr w w':=by
 obtain⟨d,z,m,A,op,D⟩:=o;obtain⟨rfl,rfl,rfl⟩:=q;have p:¬(16<=d/\d<=32768/\1<=m/\m<=64)->(if gA ⟨d,z,m,0,0,0⟩then(0:Int)else 9)=9:=λh=>by rw[ae];rw[rF];exact h
 by_cases q:d<16;·rw[p ω];exact PC d m _ ω w
 by_cases F:32768<d;·rw[p ω];exact PB d m _ ω ω w
 by_cases G:m<1;·rw[p ω];exact PA d m _ ω ω ω w
 by_cases I:64<m;·rw[p ω];exact P9 d m _ ω ω ω ω w
 rw[an ((rF _).2 (by refine⟨?_,?_,?_,?_⟩ <;> simp only <;> omega))];exact P8 d m _ ω ω ω ω w
