/- Lemmas for ThreeTurned. -/
import Derived.Test.YtndbpldeabnkbaaGreatDoorM12
import Derived.Test.YtndbpldeabnkbaaGreatDoorM35
set_option linter.all false
set_option maxHeartbeats 8000000
set_option maxRecDepth 100000
namespace Go.Proofs.YtndbpldeabnkbaaGreatDoor
open Go.RowKit Go.Fk
def cz(e:Nat)(p:Bool)(h d q c n:Nat):Z0:=fW++[(if p then 1 else 0),UInt8.ofNat h,UInt8.ofNat d,UInt8.ofNat q]++dz 2 c++dz 2 e++dz 4 n
def qW(e:Nat)(p:Bool)(h d q c n:Nat):(cz e p h d q c n).length=17:=by
 unfold cz;simp[qb,fW]
def VO(W:World)(p0 p1 p2 p3 d:Hd)(h m o z A:Z0)(D:ah W eB p0.v h)(F:ah W eB p1.v m)(G:ah W eB p2.v o)(I:ah W eB p3.v z)(J:ah W eB d.v A)(Q:h.length+m.length+o.length+z.length+A.length<=1000000):Calls Tryz.prog 42 #[.slice (some ⟨W.heap.size,0,none⟩) 5 5] (W.alloc (.cells #[p0.v,p1.v,p2.v,p3.v,d.v] 30)) λe w'=>∃v,e=.returned v/\Ow w' W.heap.size eB v (h++m++o++z++A)/\Fr W w':=by
 have K := xQ W #[p0.v, p1.v, p2.v, p3.v, d.v] 30 [p0, p1, p2, p3, d] [h, m, o, z, A] 5 rfl rfl rfl (by simp) (fun i L R => by
   match i, L with
   | 0, _ => exact D
   | 1, _ => exact F
   | 2, _ => exact G
   | 3, _ => exact I
   | 4, _ => exact J)
 refine(rm _ _ _ _ K (by simp;omega)).mono ?_;rintro e w' ⟨v,rfl,M,O⟩;exact⟨v,rfl,by simpa using M.rebase (b:=W.heap.size) σ,((Fr.refl W).alloc _).trans O⟩
def zI(n:Nat)(h:n<256):Fk.u8 (UInt8.ofNat n)=.int .u8 (n:Int):=by
 show Value.int .u8 ((UInt8.ofNat n).toNat:Int)=_;rw[jp,nI h]
def Sk(W:World)(p0 p2 p3 F:Hd)(o z A D:Z0)(x:UInt8)(h d q:Nat)(G:h<256)(I:d<256)(J:q<256)(K:ah W eB p0.v o)(L:ah W eB p2.v z)(M:ah W eB p3.v A)(O:ah W eB F.v D)(X:o.length+4+z.length+A.length+D.length<=1000000):Calls Tryz.prog 42 #[.slice (some ⟨W.heap.size+1,0,none⟩) 5 5] ((W.alloc (.cells #[Fk.u8 x,.int .u8 (h:Int),.int .u8 (d:Int),.int .u8 (q:Int)] 5)).alloc (.cells #[p0.v,.slice (some ⟨W.heap.size,0,none⟩) 4 4,p2.v,p3.v,F.v] 30)) λe w'=>∃v,e=.returned v/\Ow w' W.heap.size eB v (o++[x,UInt8.ofNat h,UInt8.ofNat d,UInt8.ofNat q]++z++A++D)/\Fr W w':=by
 have m:Fr W (W.alloc (.cells #[Fk.u8 x,.int .u8 (h:Int),.int .u8 (d:Int),.int .u8 (q:Int)] 5)):=(Fr.refl W).alloc _;have Q:(W.alloc (.cells #[Fk.u8 x,.int .u8 (h:Int),.int .u8 (d:Int),.int .u8 (q:Int)] 5)).heap.size=W.heap.size+1:=σ
 have R:ah (W.alloc (.cells #[Fk.u8 x,.int .u8 (h:Int),.int .u8 (d:Int),.int .u8 (q:Int)] 5)) eB (Hd.v ⟨some ⟨W.heap.size,0,none⟩,4,4⟩) [x,UInt8.ofNat h,UInt8.ofNat d,UInt8.ofNat q]:=
  nm eB W [x, UInt8.ofNat h, UInt8.ofNat d, UInt8.ofNat q] #[Fk.u8 x, .int .u8 (h : Int), .int .u8 (d : Int), .int .u8 (q : Int)] 5 4 rfl (by
    show [Fk.u8 x, .int .u8 (h : Int), .int .u8 (d : Int), .int .u8 (q : Int)] = [Fk.u8 x, Fk.u8 (UInt8.ofNat h), Fk.u8 (UInt8.ofNat d), Fk.u8 (UInt8.ofNat q)]
    rw[zI h G, zI d I, zI q J]) (by show 4 ≤ maxLen; unfold maxLen; omega)
 have:=VO _ p0 ⟨some ⟨W.heap.size,0,none⟩,4,4⟩ p2 p3 F o _ z A D (K.fr m) R (L.fr m) (M.fr m) (O.fr m) (by simp;omega);rw[Q]at this;refine this.mono ?_;rintro e w' ⟨v,rfl,U,V⟩;exact⟨v,rfl,U.rebase ω,m.trans V⟩
abbrev of(e:Nat)(p:Bool)(h d q c n:Nat)(m:Value:=.int .u8 0):Obj:=.cells #[N e,.bool p,N h,N d,N q,N c,N n,m] 50 (0,0)
def XA(g m o d q c n:Nat)(p:Bool){xv:Value}(w:World)(hg:w.heap[g]?=some (of m p o d q c n xv))(ht:cP w)(h1:m<=32768)(K:o<256)(h3:d<256)(h4:q<256)(h5:c<=4096)(h6:n<=1000000):Calls Tryz.prog 49 #[.pointer (some ⟨g,0,none⟩)] w λe w'=>∃v,e=.returned v/\Ow w' w.heap.size eB v (au (cz m p o d q c n))/\Fr w w':=by
 have ak:c<256^2:=by rw[show(256:Nat)^2=65536 from by decide];omega
 have ap:m<256^2:=by rw[show(256:Nat)^2=65536 from by decide];omega
 have av:n<256^4:=by rw[show(256:Nat)^4=4294967296 from by decide];omega
 have b3:=ad (yU c 2 ω ω ak ω);have b4:=ad (yU m 2 ω ω ap ω);have b5:=ad (yU n 4 ω ω av ω);have L:=qb 2 c;have M:=qb 2 m;have O:=qb 4 n;have HM:=ad (Xn);have b7:=qW m p o d q c n;have HP:=ad (λv W (h:Fr w W) (K:ah W eB v (cz m p o d q c n))=>yO v _ W K ω (ht.fr h));have Q:=ad (λW p0 p2 p3 R h0 bA bB bL=>Sk W p0 p2 p3 R fW (dz 2 c) (dz 2 m) (dz 4 n) (if p then 1 else 0) o d q K h3 h4 h0 bA bB bL (by rw[L,M,O];simp[fW]));have HE:Hid (cz m p o d q c n=fW++[(if p then 1 else 0),UInt8.ofNat o,UInt8.ofNat d,UInt8.ofNat q]++dz 2 c++dz 2 m++dz 4 n):=rfl;rw[<- HE.out]at Q;have a1:fW.length=5:=rfl;have c5:=ad L;have c6:=ad M;have c7:=ad O;have Hm:=ad a1;clear ak ap av ht HE b7 L M O a1;generalize cz m p o d q c n=HL at *;generalize fW=MK,dz 4 n=FN,dz 2 m=Fq,dz 2 c=FC,au HL=T at *;have cA:IntKind.u64.wrap (c:Int)=(c:Int):=dFQb _ ω;have cB:IntKind.u64.wrap (m:Int)=(m:Int):=dFQb _ ω;have cE:IntKind.u64.wrap (n:Int)=(n:Int):=dFQb _ ω;have cF:IntKind.u8.wrap (o:Int)=(o:Int):=IntWalk.u8_in _ ω;have cG:IntKind.u8.wrap (d:Int)=(d:Int):=IntWalk.u8_in _ ω;have cL:IntKind.u8.wrap (q:Int)=(q:Int):=IntWalk.u8_in _ ω;go_in;go_wp2_with fail;refine(HM.out _).mono ?_;rintro e w1 ⟨v1,rfl,U,V⟩;obtain⟨p1,z1,rfl⟩:=U.shape';have F:=V.heap hg;have x1:=ag F 1 rfl;have x5:=ag F 5 rfl;go_upto_if 20 with fail;go_cut [5]from 16 to 21 (λbv wx=>bv=Fk.u8 (if p then 1 else 0)/\wx=w1)
 case first=>
  cases p with
  | true=>go_wp2;go_meet;exact⟨rfl,rfl⟩
  | false=>go_wp2;go_meet;exact⟨rfl,rfl⟩
 case rest=>
  obtain⟨rfl,rfl⟩:=hcut;generalize cj:(if p=true then(1:UInt8)else 0)=px at *;clear cj x1;go_wp2_with fail;refine(b3.out _).mono ?_;rintro e w2 ⟨v2,rfl,X,G⟩;have Y:=G.heap F;have a2:=U.fr G;have a3:=V.trans G;have x0:=ag Y 0 rfl;obtain⟨p2,z2,rfl⟩:=X.shape';clear U F x5 V G;go_wp2_with fail;refine(b4.out _).mono ?_;rintro e w3 ⟨v3,rfl,Z,A⟩;have aa:=A.heap Y;have a4:=a2.fr A;have a5:=X.fr A;have a6:=a3.trans A;have x6:=ag aa 6 rfl;obtain⟨p3,z3,rfl⟩:=Z.shape';clear a2 X Y x0 a3 A;go_wp2_with fail;refine(b5.out _).mono ?_;rintro e w4 ⟨v4,rfl,ab,z⟩;have I:=z.heap aa;have a7:=a4.fr z;have aC:=a5.fr z;have ba:=Z.fr z;have bb:=a6.trans z;have y2:=ag I 2 rfl;have y3:=ag I 3 rfl;have y4:=ag I 4 rfl;obtain⟨R,z4,rfl⟩:=ab.shape';have HA:=ad (Q.out w4.drew ⟨p1,MK.length,z1⟩ ⟨p2,FC.length,z2⟩ ⟨p3,Fq.length,z3⟩ ⟨R,FN.length,z4⟩ a7.see.drew aC.see.drew ba.see.drew ab.see.drew);clear Q a4 a5 Z aa x6 a6 z;go_upto_region 8 with fail
  go_region_held3 (λw' => w'.cell? ⟨g, 2, none⟩ = some (N o) ∧ w'.cell? ⟨g, 3, none⟩ = some (N d) ∧ w'.cell? ⟨g, 4, none⟩ = some (N q))
   (first | go_keep)
   ((first
     | (go_at_call 42; refine HA.out.mono ?_; rintro e w5 ⟨v5, rfl, bk, D⟩; have u2 := D.cell y2; have u3 := D.cell y3; have u4 := D.cell y4)
     | (go_at_call 36; refine (HP.out _ _ (bb.trans ((Fr.refl w4).drew.trans D)) bk.see).mono ?_; rintro e w6 ⟨v6, rfl, ac, J⟩; have t2 := J.cell u2; have t3 := J.cell u3; have t4 := J.cell u4)))
  have bs:Fr w w5:=bb.trans ((Fr.refl w4).drew.trans D);have HR:=ad (ac.rebase bs.size);obtain⟨p6,z6,rfl⟩:=ac.shape';clear ac t2 t3 t4 u2 u3 u4 y2 y3 y4 bk a7 aC ba ab I;go_wp2;go_ret;exact⟨_,rfl,HR.out,bs.trans J⟩
