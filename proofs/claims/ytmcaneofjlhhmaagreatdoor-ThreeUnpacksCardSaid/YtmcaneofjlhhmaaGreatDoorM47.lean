/- Lemmas. -/
import Derived.Test.YtmcaneofjlhhmaaGreatDoorM44
import Derived.Test.YtmcaneofjlhhmaaGreatDoorM42
set_option linter.all false
set_option maxHeartbeats 8000000
set_option maxRecDepth 100000
namespace Go.Proofs
open RowKit Fk Tryz
def OM(A D:Value)(a b:List U0)(w:World)(F:ao w eS A a)(G:ao w eS D b):Calls prog 73 #[A,D] w λe w'=>e=.returned (.bool (decide (a=b)))/\Fr w w':=by
 obtain⟨aa,ca,U,am,V,_⟩:=F.shape;obtain⟨ab,cb,W,az,X,_⟩:=G.shape;subst U W;unfold maxLen at V X;generalize Y:decide (a=b)=R;have o:=ad Y;go_in;by_cases p:a.length=b.length
 ·have I:=ad p;rw[<- p];go_wp2;go_loopw [13] (λq wr=>∃i:Nat,i<=a.length/\q=N i/\Hid (∀j,j<i->a[j]?=b[j]?)/\Fr w wr) (λq _=>a.length-(intOf q).toNat);·exact⟨0,ax _,rfl,λj h=>absurd h (np j),Fr.refl w⟩
  ·
   obtain⟨i,hi,rfl,J,d⟩:=hrel;by_cases K:i<a.length
   ·have L:i<b.length:=(by have:=I.out;omega);obtain⟨b1,a2,a3,Z,e1⟩:=(F.fr d).cell1 (λs:U0=>S s) rfl i K;obtain⟨b2,a5,a6,ah,e2⟩:=(G.fr d).cell1 (λs:U0=>S s) rfl i L;have M:Hid (a[i]?=some a[i]):=cQ K;have O:Hid (b[i]?=some b[i]):=cQ L;generalize a[i]=x at *;generalize b[i]=y at *;have d1:=e1;have d2:=e2;cases Z;cases ah;by_cases z:x=y
    ·subst z;go_wp2;go_quiet (fail);go_wp2_with fail
     all_goals exact ⟨⟨i + 1, by omega, by go_num, fun j hj => by
       by_cases e : j = i;·subst e; rw[M.out, O.out]
       · exact J.out j ω, d.drewN _⟩, by simp[intOf]; omega⟩
    ·have a9:(x == y)=false:=(by simpa using z);have m:Hid (R=false):=(by rw[<- o.out];refine bw λe=>z ?_;have Q:=M.out;rw[e,O.out]at Q;exact(lM Q).symm);go_wp2;go_quiet (fail);go_wp2;go_ret;exact⟨by rw[m.out];rfl,d.drewN _⟩
   ·have m:Hid (R=true):=by
      rw[<- o.out];refine bz (sK λj=>?_);by_cases hj:j<a.length;·exact J.out j ω
      ·rw[jH ω,jH (by have:=I.out;omega)]
    obtain rfl:i=a.length:=ω;go_wp2;go_ret;exact⟨by rw[m.out];rfl,d⟩
 ·have m:Hid (R=false):=(by rw[<- o.out];exact bw λe=>p (by rw[e]));rw[m.out];go_wp2;go_ret;exact⟨rfl,Fr.refl w⟩
def Q4(A D:Value)(a b:List Nat)(w:World)(F:ao w eJ A a)(G:ao w eJ D b):Calls prog 75 #[A,D] w λe w'=>e=.returned (.bool (decide (a=b)))/\Fr w w':=by
 obtain⟨aa,ca,U,am,V,_⟩:=F.shape;obtain⟨ab,cb,W,az,X,_⟩:=G.shape;subst U W;unfold maxLen at V X;generalize Y:decide (a=b)=R;have o:=ad Y;go_in;by_cases p:a.length=b.length
 ·have I:=ad p;rw[<- p];go_wp2;go_loopw [13] (λq wr=>∃i:Nat,i<=a.length/\q=N i/\Hid (∀j,j<i->a[j]?=b[j]?)/\Fr w wr) (λq _=>a.length-(intOf q).toNat);·exact⟨0,ax _,rfl,λj h=>absurd h (np j),Fr.refl w⟩
  ·
   obtain⟨i,hi,rfl,J,d⟩:=hrel;by_cases K:i<a.length
   ·have L:i<b.length:=(by have:=I.out;omega);obtain⟨b1,a2,a3,Z,e1⟩:=(F.fr d).cell1 N rfl i K;obtain⟨b2,a5,a6,ah,e2⟩:=(G.fr d).cell1 N rfl i L;have M:Hid (a[i]?=some a[i]):=cQ K;have O:Hid (b[i]?=some b[i]):=cQ L;generalize a[i]=x at *;generalize b[i]=y at *;have d1:=e1;have d2:=e2;cases Z;cases ah;by_cases z:x=y
    ·subst z;go_wp2;go_quiet (fail);go_wp2;go_roundw
     case rel => exact ⟨i + 1, by omega, by go_num, fun j hj => by
       by_cases e : j = i;·subst e; rw[M.out, O.out]
       · exact J.out j ω, d.drewN _⟩
     ·exact μ
    ·have hn:¬(x:Int)=y:=λe=>z ω;have m:Hid (R=false):=(by rw[<- o.out];refine bw λe=>z ?_;have Q:=M.out;rw[e,O.out]at Q;exact(lM Q).symm);go_wp2;go_quiet (fail);go_wp2;go_ret;exact⟨by rw[m.out];rfl,d.drewN _⟩
   ·have m:Hid (R=true):=by
      rw[<- o.out];refine bz (sK λj=>?_);by_cases hj:j<a.length;·exact J.out j ω
      ·rw[jH ω,jH (by have:=I.out;omega)]
    obtain rfl:i=a.length:=ω;go_wp2;go_ret;exact⟨by rw[m.out];rfl,d⟩
 ·have m:Hid (R=false):=(by rw[<- o.out];exact bw λe=>p (by rw[e]));rw[m.out];go_wp2;go_ret;exact⟨rfl,Fr.refl w⟩
def QF(X Y:Value)(d m:List Hd)(a b:List (List Nat))(w:World)(D:cV w jb eJ X d a)(F:cV w jS eJ Y m b):Calls prog 74 #[X,Y,.func (.func 75) #[] #[]] w λe w'=>e=.returned (.bool (decide (a=b)))/\Fr w w':=by
 have Z:=ad D;have HB:=ad F;have I:Hid (d.length=a.length):=D.2.1;have J:Hid (m.length=b.length):=F.2.1;obtain⟨aa,ca,a5,bq,a6,_⟩:=D.1.shape;obtain⟨ab,cb,a7,a8,a9,_⟩:=F.1.shape;subst a5 a7;unfold maxLen at a6 a9;clear D F;generalize hR:decide (a=b)=R;have K:=ad hR;clear hR;go_in;by_cases G:d.length=m.length
 ·have L:=ad G;rw[<- G];clear G a8;go_wp2;go_loopw [17] (λM wr=>∃i:Nat,i<=d.length/\M=N i/\Hid (∀j,j<i->a[j]?=b[j]?)/\Fr w wr) (λM _=>d.length-(intOf M).toNat);·exact⟨0,ax _,rfl,λj h=>absurd h (np j),Fr.refl w⟩
  ·
   obtain⟨i,hi,rfl,HE,o⟩:=hrel;by_cases aj:i<d.length
   ·have O:i<m.length:=(by have:=L.out;omega);have Q:i<a.length:=(by have:=I.out;omega);have U:i<b.length:=(by have:=J.out;omega);obtain⟨b1,ba,bv,bb,e1⟩:=(Z.out.1.fr o).cell1 (λh:Hd=>h.v) rfl i aj;obtain⟨b2,bd,bx,al,e2⟩:=(HB.out.1.fr o).cell1 (λh:Hd=>h.v) rfl i O;have p:=ad (λW (h:Fr wr W)=>Q4 d[i].v m[i].v a[i] b[i] W (((Z.out.2.2 i aj Q).fr o).fr h) (((HB.out.2.2 i O U).fr o).fr h));have ap:Hid (a[i]?=some a[i]):=cQ Q;have av:Hid (b[i]?=some b[i]):=cQ U;have d1:wr.cell? ⟨b1,ba+i,none⟩=some (d[i].v):=e1;have d2:wr.cell? ⟨b2,bd+i,none⟩=some (m[i].v):=e2;obtain⟨pv,a0⟩:∃pv,pv=d[i].v:=⟨_,rfl⟩;obtain⟨qv,a2⟩:∃qv,qv=m[i].v:=⟨_,rfl⟩;rw[<- a0]at d1 p;rw[<- a2]at d2 p;rw[<- L.out]at al;generalize a[i]=x at *;generalize b[i]=y at *;clear e1 e2 a0 a2 O Q U;cases bb;cases al;have i1:(0:Int)<=i:=ω;have i2:(i:Int)<d.length:=ω;by_cases q:x=y
    ·have z:=ad (p.out wr (Fr.refl wr));rw[bz q]at z;subst q;clear p;go_wp2_with fail;apply z.z;rintro e w1 ⟨rfl,V⟩;go_wp2;go_roundw
     case rel => exact ⟨i + 1, by omega, by go_num, fun j hj => by
       by_cases e : j = i;·subst e; rw[ap.out, av.out]
       · exact HE.out j ω, o.trans V⟩
     ·exact μ
    ·have z:=ad (p.out wr (Fr.refl wr));rw[bw q]at z;have A:Hid (R=false):=(by show _=_;rw[<- K.out];refine bw λe=>q ?_;have h1:=ap.out;rw[e,av.out]at h1;exact(lM h1).symm);clear q p;go_wp2_with fail;apply z.z;rintro e w1 ⟨rfl,V⟩;go_wp2;go_ret;exact⟨by rw[A.out];rfl,o.trans V⟩
   ·have A:Hid (R=true):=by
      show _=_;rw[<- K.out];refine bz (sK λj=>?_);by_cases hj:j<i;·exact HE.out j hj
      ·rw[jH (by have:=I.out;omega),jH (by have:=L.out;have:=J.out;omega)]
    obtain rfl:i=d.length:=ω;have b4:¬((d.length:Int)<d.length):=ω;go_wp2;go_ret;exact⟨by rw[A.out];rfl,o⟩
 ·have A:Hid (R=false):=(by show _=_;rw[<- K.out];exact bw λe=>G (by have:=I.out;have:=J.out;have:=iG List.length e;omega));rw[A.out];have b5:¬(d.length:Int)=m.length:=ω;go_wp2;go_ret;exact⟨rfl,Fr.refl w⟩
def Qo(G I J K:Value)(ts m:List U0)(d D:List Hd)(a b:List (List Nat))(w:World)(R:ao w eS G ts)(U:cV w jb eJ I d a)(V:ao w eS J m)(X:cV w jS eJ K D b):Calls prog 26 #[.agg #[G,I],.agg #[J,K]] w λe w'=>e=.returned (.bool (decide (ts=m) && decide (a=b)))/\Fr w w':=by
 have HS:=ad (λW (h:Fr w W)=>OM G J ts m W (R.fr h) (V.fr h));have HL:=ad (λW (h:Fr w W)=>QF I K d D a b W (U.fr h) (X.fr h));generalize decide (ts=m)=r1 at *;obtain⟨o,p,rfl,_⟩:=R.shape;obtain⟨q,z,rfl,_⟩:=U.1.shape;obtain⟨L,M,rfl,_⟩:=V.shape;obtain⟨O,Q,rfl,_⟩:=X.1.shape;have al:Fr w (w.alloc (.cells #[.slice o ts.length p,.slice q d.length z] 47)):=(Fr.refl w).alloc _;have am:=aD w (.cells #[.slice o ts.length p,.slice q d.length z] 47) w.heap.size rfl;have Y:Fr (w.alloc (.cells #[.slice o ts.length p,.slice q d.length z] 47)) ((w.alloc (.cells #[.slice o ts.length p,.slice q d.length z] 47)).alloc (.cells #[.slice L m.length M,.slice O D.length Q] 47)):=(Fr.refl _).alloc _;have Z:=aD (w.alloc (.cells #[.slice o ts.length p,.slice q d.length z] 47)) (.cells #[.slice L m.length M,.slice O D.length Q] 47) (w.heap.size+1) σ;have aa:=Y.heap am;have F:=al.trans Y;go_in;go_upto_region 1 with fail;generalize (w.alloc (.cells #[.slice o ts.length p,.slice q d.length z] 47)).alloc (.cells #[.slice L m.length M,.slice O D.length Q] 47)=w2 at *;have a1:w2.cell? ⟨w.heap.size,0,none⟩=some (.slice o ts.length p):=by rw[aG aa];rfl
 have a2:=af Z 0 rfl;have ac:=ad (HS.out w2 F)
 cases r1 with
 | false=>go_wp2_with fail;apply ac.z;rintro e w3 ⟨rfl,A⟩;go_wp2;go_ret;exact⟨rfl,F.trans A⟩
 | true=>go_wp2_with fail;apply ac.z;rintro e w3 ⟨rfl,A⟩;have ap:=ad (HL.out w3 (F.trans A));have av:=A.heap aa;have az:=A.heap Z;have a3:=af av 1 rfl;have a4:=af az 1 rfl;go_wp2_with fail;apply ap.z;rintro e w4 ⟨rfl,a0⟩;go_wp2;go_ret;exact⟨rfl,(F.trans A).trans a0⟩
