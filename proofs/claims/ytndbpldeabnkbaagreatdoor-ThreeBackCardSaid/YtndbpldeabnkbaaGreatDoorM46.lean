/- Lemmas for ThreeTurned. -/
import Derived.Test.YtndbpldeabnkbaaGreatDoorM33
import Derived.Test.YtndbpldeabnkbaaGreatDoorM45
set_option linter.all false
set_option maxHeartbeats 8000000
set_option maxRecDepth 100000
namespace Go.Proofs.YtndbpldeabnkbaaGreatDoor
open Go.RowKit Go.Fk
def Wr(F G:Value)(a b:List Z0)(w:World)(I:ah w eS F a)(J:ah w eS G b):Calls Tryz.prog 96 #[F,G] w λe w'=>e=.returned (.bool (decide (a=b)))/\Fr w w':=by
 obtain⟨aa,ca,X,a4,Y,_⟩:=I.shape;obtain⟨ab,cb,Z,a7,ac,_⟩:=J.shape;subst X Z;unfold maxLen at Y ac;generalize hR:decide (a=b)=R;have o:=ad hR;go_in;by_cases z:a.length=b.length
 ·have K:=ad z;rw[<- z];go_wp2;go_loopw [13] (λA wr=>∃i:Nat,i<=a.length/\A=N i/\Hid (∀j,j<i->a[j]?=b[j]?)/\Fr w wr) (λA _=>a.length-(intOf A).toNat);case atStart=>exact⟨0,ar _,rfl,λj h=>absurd h (uh j),Fr.refl w⟩
  case round=>
   obtain⟨i,hi,rfl,L,d⟩:=hrel;by_cases M:i<a.length
   ·have O:i<b.length:=(by have:=K.out;omega);obtain⟨b1,bb,bc,ak,e1⟩:=(I.fr d).cell1 (λs:Z0=>S s) rfl i M;obtain⟨b2,bf,bk,av,e2⟩:=(J.fr d).cell1 (λs:Z0=>S s) rfl i O;have Q:Hid (a[i]?=some a[i]):=bj M;have U:Hid (b[i]?=some b[i]):=bj O;generalize a[i]=x at *;generalize b[i]=y at *;have d1:=e1;have d2:=e2;cases ak;cases av;by_cases D:x=y
    ·subst D;go_wp2;go_quiet (fail);go_wp2_with fail
     all_goals exact ⟨⟨i + 1, by omega, by go_num, fun j hj => by
       by_cases e : j = i;·subst e; rw[Q.out, U.out]
       · exact L.out j ω, d.drewN _⟩, by simp[intOf]; omega⟩
    ·have bn:(x == y)=false:=(by simpa using D);have m:Hid (R=false):=(by rw[<- o.out];refine br λe=>D ?_;have V:=Q.out;rw[e,U.out]at V;exact(jU V).symm);go_wp2;go_quiet (fail);go_wp2;go_ret;exact⟨by rw[m.out];rfl,d.drewN _⟩
   ·have m:Hid (R=true):=by
      rw[<- o.out];refine bp (sH λj=>?_);by_cases hj:j<a.length;·exact L.out j ω
      ·rw[iW ω,iW (by have:=K.out;omega)]
    obtain rfl:i=a.length:=ω;go_wp2;go_ret;exact⟨by rw[m.out];rfl,d⟩
 ·have m:Hid (R=false):=(by rw[<- o.out];exact br λe=>z (by rw[e]));rw[m.out];go_wp2;go_ret;exact⟨rfl,Fr.refl w⟩
def Xv(F G:Value)(a b:List Nat)(w:World)(I:ah w eJ F a)(J:ah w eJ G b):Calls Tryz.prog 98 #[F,G] w λe w'=>e=.returned (.bool (decide (a=b)))/\Fr w w':=by
 obtain⟨aa,ca,X,a4,Y,_⟩:=I.shape;obtain⟨ab,cb,Z,a7,ac,_⟩:=J.shape;subst X Z;unfold maxLen at Y ac;generalize hR:decide (a=b)=R;have o:=ad hR;go_in;by_cases z:a.length=b.length
 ·have K:=ad z;rw[<- z];go_wp2;go_loopw [13] (λA wr=>∃i:Nat,i<=a.length/\A=N i/\Hid (∀j,j<i->a[j]?=b[j]?)/\Fr w wr) (λA _=>a.length-(intOf A).toNat);case atStart=>exact⟨0,ar _,rfl,λj h=>absurd h (uh j),Fr.refl w⟩
  case round=>
   obtain⟨i,hi,rfl,L,d⟩:=hrel;by_cases M:i<a.length
   ·have O:i<b.length:=(by have:=K.out;omega);obtain⟨b1,bb,bc,ak,e1⟩:=(I.fr d).cell1 N rfl i M;obtain⟨b2,bf,bk,av,e2⟩:=(J.fr d).cell1 N rfl i O;have Q:Hid (a[i]?=some a[i]):=bj M;have U:Hid (b[i]?=some b[i]):=bj O;generalize a[i]=x at *;generalize b[i]=y at *;have d1:=e1;have d2:=e2;cases ak;cases av;by_cases D:x=y
    ·subst D;go_wp2;go_quiet (fail);go_wp2;go_roundw
     case rel => exact ⟨i + 1, by omega, by go_num, fun j hj => by
       by_cases e : j = i;·subst e; rw[Q.out, U.out]
       · exact L.out j ω, d.drewN _⟩
     case measure=>exact μ
    ·have hn:¬(x:Int)=y:=λe=>D ω;have m:Hid (R=false):=(by rw[<- o.out];refine br λe=>D ?_;have V:=Q.out;rw[e,U.out]at V;exact(jU V).symm);go_wp2;go_quiet (fail);go_wp2;go_ret;exact⟨by rw[m.out];rfl,d.drewN _⟩
   ·have m:Hid (R=true):=by
      rw[<- o.out];refine bp (sH λj=>?_);by_cases hj:j<a.length;·exact L.out j ω
      ·rw[iW ω,iW (by have:=K.out;omega)]
    obtain rfl:i=a.length:=ω;go_wp2;go_ret;exact⟨by rw[m.out];rfl,d⟩
 ·have m:Hid (R=false):=(by rw[<- o.out];exact br λe=>z (by rw[e]));rw[m.out];go_wp2;go_ret;exact⟨rfl,Fr.refl w⟩
def X8(Z vb:Value)(d m:List Hd)(a b:List (List Nat))(w:World)(G:cO w rW eJ Z d a)(I:cO w oV eJ vb m b):Calls Tryz.prog 97 #[Z,vb,.func (.func 98) #[] #[]] w λe w'=>e=.returned (.bool (decide (a=b)))/\Fr w w':=by
 have HA:=ad G;have HB:=ad I;have K:Hid (d.length=a.length):=G.2.1;have L:Hid (m.length=b.length):=I.2.1;obtain⟨aa,ca,bd,b7,bf,_⟩:=G.1.shape;obtain⟨ab,cb,bk,bl,bm,_⟩:=I.1.shape;subst bd bk;unfold maxLen at bf bm;clear G I;generalize hR:decide (a=b)=R;have M:=ad hR;clear hR;go_in;by_cases J:d.length=m.length
 ·have O:=ad J;rw[<- J];clear J bl;go_wp2;go_loopw [17] (λQ wr=>∃i:Nat,i<=d.length/\Q=N i/\Hid (∀j,j<i->a[j]?=b[j]?)/\Fr w wr) (λQ _=>d.length-(intOf Q).toNat);case atStart=>exact⟨0,ar _,rfl,λj h=>absurd h (uh j),Fr.refl w⟩
  case round=>
   obtain⟨i,hi,rfl,HE,o⟩:=hrel;by_cases a0:i<d.length
   ·have U:i<m.length:=(by have:=O.out;omega);have V:i<a.length:=(by have:=K.out;omega);have X:i<b.length:=(by have:=L.out;omega);obtain⟨b1,bs,bB,bu,e1⟩:=(HA.out.1.fr o).cell1 (λh:Hd=>h.v) rfl i a0;obtain⟨b2,bx,bL,a2,e2⟩:=(HB.out.1.fr o).cell1 (λh:Hd=>h.v) rfl i U;have z:=ad (λW (h:Fr wr W)=>Xv d[i].v m[i].v a[i] b[i] W (((HA.out.2.2 i a0 V).fr o).fr h) (((HB.out.2.2 i U X).fr o).fr h));have a4:Hid (a[i]?=some a[i]):=bj V;have a5:Hid (b[i]?=some b[i]):=bj X;have d1:wr.cell? ⟨b1,bs+i,none⟩=some (d[i].v):=e1;have d2:wr.cell? ⟨b2,bx+i,none⟩=some (m[i].v):=e2;obtain⟨pv,a7⟩:∃pv,pv=d[i].v:=⟨_,rfl⟩;obtain⟨qv,ba⟩:∃qv,qv=m[i].v:=⟨_,rfl⟩;rw[<- a7]at d1 z;rw[<- ba]at d2 z;rw[<- O.out]at a2;generalize a[i]=x at *;generalize b[i]=y at *;clear e1 e2 a7 ba U V X;cases bu;cases a2;have i1:(0:Int)<=i:=ω;have i2:(i:Int)<d.length:=ω;by_cases A:x=y
    ·have D:=ad (z.out wr (Fr.refl wr));rw[bp A]at D;subst A;clear z;go_wp2_with fail;apply D.z;rintro e w1 ⟨rfl,Y⟩;go_wp2;go_roundw
     case rel => exact ⟨i + 1, by omega, by go_num, fun j hj => by
       by_cases e : j = i;·subst e; rw[a4.out, a5.out]
       · exact HE.out j ω, o.trans Y⟩
     case measure=>exact μ
    ·have D:=ad (z.out wr (Fr.refl wr));rw[br A]at D;have F:Hid (R=false):=(by show _=_;rw[<- M.out];refine br λe=>A ?_;have h1:=a4.out;rw[e,a5.out]at h1;exact(jU h1).symm);clear A z;go_wp2_with fail;apply D.z;rintro e w1 ⟨rfl,Y⟩;go_wp2;go_ret;exact⟨by rw[F.out];rfl,o.trans Y⟩
   ·have F:Hid (R=true):=by
      show _=_;rw[<- M.out];refine bp (sH λj=>?_);by_cases hj:j<i;·exact HE.out j hj
      ·rw[iW (by have:=K.out;omega),iW (by have:=O.out;have:=L.out;omega)]
    obtain rfl:i=d.length:=ω;have cc:¬((d.length:Int)<d.length):=ω;go_wp2;go_ret;exact⟨by rw[F.out];rfl,o⟩
 ·have F:Hid (R=false):=(by show _=_;rw[<- M.out];exact br λe=>J (by have:=K.out;have:=L.out;have:=dp List.length e;omega));rw[F.out];have cf:¬(d.length:Int)=m.length:=ω;go_wp2;go_ret;exact⟨rfl,Fr.refl w⟩
def Xe(J K L M:Value)(ts m:List Z0)(d G:List Hd)(a b:List (List Nat))(w:World)(V:ah w eS J ts)(X:cO w rW eJ K d a)(Y:ah w eS L m)(Z:cO w oV eJ M G b):Calls Tryz.prog 52 #[.agg #[J,K],.agg #[L,M]] w λe w'=>e=.returned (.bool (decide (ts=m) && decide (a=b)))/\Fr w w':=by
 have HS:=ad (λW (h:Fr w W)=>Wr J L ts m W (V.fr h) (Y.fr h));have HL:=ad (λW (h:Fr w W)=>X8 K M d G a b W (X.fr h) (Z.fr h));generalize decide (ts=m)=r1 at *;obtain⟨o,z,rfl,_⟩:=V.shape;obtain⟨A,D,rfl,_⟩:=X.1.shape;obtain⟨O,Q,rfl,_⟩:=Y.shape;obtain⟨R,U,rfl,_⟩:=Z.1.shape;have a2:Fr w (w.alloc (.cells #[.slice o ts.length z,.slice A d.length D] 84)):=(Fr.refl w).alloc _;have a3:=aB w (.cells #[.slice o ts.length z,.slice A d.length D] 84) w.heap.size rfl;have aa:Fr (w.alloc (.cells #[.slice o ts.length z,.slice A d.length D] 84)) ((w.alloc (.cells #[.slice o ts.length z,.slice A d.length D] 84)).alloc (.cells #[.slice O m.length Q,.slice R G.length U] 84)):=(Fr.refl _).alloc _;have ab:=aB (w.alloc (.cells #[.slice o ts.length z,.slice A d.length D] 84)) (.cells #[.slice O m.length Q,.slice R G.length U] 84) (w.heap.size+1) σ;have ac:=aa.heap a3;have I:=a2.trans aa;go_in;go_upto_region 1 with fail;generalize (w.alloc (.cells #[.slice o ts.length z,.slice A d.length D] 84)).alloc (.cells #[.slice O m.length Q,.slice R G.length U] 84)=w2 at *;have aC:w2.cell? ⟨w.heap.size,0,none⟩=some (.slice o ts.length z):=by rw[aK ac];rfl
 have ba:=ag ab 0 rfl;have ak:=ad (HS.out w2 I)
 cases r1 with
 | false=>go_wp2_with fail;apply ak.z;rintro e w3 ⟨rfl,F⟩;go_wp2;go_ret;exact⟨rfl,I.trans F⟩
 | true=>go_wp2_with fail;apply ak.z;rintro e w3 ⟨rfl,F⟩;have a4:=ad (HL.out w3 (I.trans F));have a5:=F.heap ac;have a6:=F.heap ab;have bb:=ag a5 1 rfl;have bc:=ag a6 1 rfl;go_wp2_with fail;apply a4.z;rintro e w4 ⟨rfl,a7⟩;go_wp2;go_ret;exact⟨rfl,(I.trans F).trans a7⟩
