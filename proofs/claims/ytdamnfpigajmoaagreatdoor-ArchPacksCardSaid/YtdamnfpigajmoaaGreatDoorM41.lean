/- Parts of the proof of ArchPacks: Hd1. -/
import Derived.Test.YtdamnfpigajmoaaGreatDoorM14
import Derived.Test.YtdamnfpigajmoaaGreatDoorM06
set_option linter.unusedVariables false
set_option linter.unusedSectionVars false
set_option linter.unusedSimpArgs false
set_option maxHeartbeats 8000000
set_option maxRecDepth 100000
namespace Go.Fk
abbrev pX:=@Go.IntWalk.u8_in
end Go.Fk
namespace Go.Proofs.YtdamnfpigajmoaaGreatDoor
open Go.RowKit Go.Fk
def fE(e:Nat)(p:Bool)(h d q c n:Nat):List UInt8:=iF++[(if p then 1 else 0),UInt8.ofNat h,UInt8.ofNat d,UInt8.ofNat q]++bl 2 c++bl 2 e++bl 4 n
theorem uj(e:Nat)(p:Bool)(h d q c n:Nat):(fE e p h d q c n).length=17:=by
 unfold fE;simp [jk,iF]
theorem AB(W:World)(p0 p1 p2 p3 d:Hd)(h m o q y:List UInt8)(z:af W eB p0.v h)(A:af W eB p1.v m)(D:af W eB p2.v o)(F:af W eB p3.v q)(G:af W eB d.v y)(M:h.length+m.length+o.length+q.length+y.length<=1000000) :
  Calls Tryz.prog 30 #[.slice (some ⟨W.heap.size,0,none⟩) 5 5] (W.alloc (.cells #[p0.v,p1.v,p2.v,p3.v,d.v] 29)) fun e w'=>∃ v,e=.returned v/\Ow w' W.heap.size eB v (h++m++o++q++y)/\Fr W w':=by
 have I := nE W #[p0.v, p1.v, p2.v, p3.v, d.v] 29 [p0, p1, p2, p3, d] [h, m, o, q, y] 5 rfl rfl rfl (by simp) (fun i J O => by
  match i, J with
  | 0, _ => exact z
  | 1, _ => exact A
  | 2, _ => exact D
  | 3, _ => exact F
  | 4, _ => exact G)
 refine(lm _ _ _ _ I (by simp;omega)).mono ?_;rintro e w' ⟨v,rfl,K,L⟩;exact⟨v,rfl,by simpa using K.rebase (b:=W.heap.size) (by simp),((Fr.refl W).alloc _).trans L⟩
theorem mX(n:Nat)(h:n<256):Fk.u8 (UInt8.ofNat n)=.int .u8 (n:Int):=by
 show Value.int .u8 ((UInt8.ofNat n).toNat:Int)=_;rw [jL,pN h]
theorem G1(W:World)(p0 p2 p3 D:Hd)(o y z A:List UInt8)(x:UInt8)(h d q:Nat)(F:h<256)(G:d<256)(I:q<256)(J:af W eB p0.v o)(K:af W eB p2.v y)(L:af W eB p3.v z)(M:af W eB D.v A)(U:o.length+4+y.length+z.length+A.length<=1000000) :
  Calls Tryz.prog 30 #[.slice (some ⟨W.heap.size+1,0,none⟩) 5 5] ((W.alloc (.cells #[Fk.u8 x,.int .u8 (h:Int),.int .u8 (d:Int),.int .u8 (q:Int)] 5)).alloc (.cells #[p0.v,.slice (some ⟨W.heap.size,0,none⟩) 4 4,p2.v,p3.v,D.v] 29)) fun e w'=>∃ v,e=.returned v/\Ow w' W.heap.size eB v (o++[x,UInt8.ofNat h,UInt8.ofNat d,UInt8.ofNat q]++y++z++A)/\Fr W w':=by
 have m:Fr W (W.alloc (.cells #[Fk.u8 x,.int .u8 (h:Int),.int .u8 (d:Int),.int .u8 (q:Int)] 5)):=(Fr.refl W).alloc _;have O:(W.alloc (.cells #[Fk.u8 x,.int .u8 (h:Int),.int .u8 (d:Int),.int .u8 (q:Int)] 5)).heap.size=W.heap.size+1:=by simp
 have Q:af (W.alloc (.cells #[Fk.u8 x,.int .u8 (h:Int),.int .u8 (d:Int),.int .u8 (q:Int)] 5)) eB (Hd.v ⟨some ⟨W.heap.size,0,none⟩,4,4⟩) [x,UInt8.ofNat h,UInt8.ofNat d,UInt8.ofNat q]:=
  iY eB W [x, UInt8.ofNat h, UInt8.ofNat d, UInt8.ofNat q] #[Fk.u8 x, .int .u8 (h : Int), .int .u8 (d : Int), .int .u8 (q : Int)] 5 4 rfl (by
   show [Fk.u8 x, .int .u8 (h : Int), .int .u8 (d : Int), .int .u8 (q : Int)] = [Fk.u8 x, Fk.u8 (UInt8.ofNat h), Fk.u8 (UInt8.ofNat d), Fk.u8 (UInt8.ofNat q)]
   rw [mX h F, mX d G, mX q I]) (by show 4 ≤ maxLen; unfold maxLen; omega)
 have:=AB _ p0 ⟨some ⟨W.heap.size,0,none⟩,4,4⟩ p2 p3 D o _ y z A (J.fr m) Q (K.fr m) (L.fr m) (M.fr m) (by simp;omega);rw [O]at this;refine this.mono ?_;rintro e w' ⟨v,rfl,R,T⟩;exact⟨v,rfl,R.rebase (by omega),m.trans T⟩
abbrev ri(e:Nat)(p:Bool)(h d q c n:Nat)(m:Value:=.int .u8 0):Obj:=.cells #[N e,.bool p,N h,N d,N q,N c,N n,m] 71 (0,0)
theorem Lj(g m o d q c n:Nat)(p:Bool){xv:Value}(w:World)(hg:w.heap[g]? = some (ri m p o d q c n xv))(ht:bU w)(h1:m<=32768)(J:o<256)(h3:d<256)(h4:q<256)(h5:c<=4096)(h6:n<=1000000) :
  Calls Tryz.prog 73 #[.pointer (some ⟨g,0,none⟩)] w fun e w'=>∃ v,e=.returned v/\Ow w' w.heap.size eB v (ay (fE m p o d q c n))/\Fr w w':=by
 have aj:c<256 ^ 2:=by rw [show(256:Nat) ^ 2=65536 from by decide];omega
 have av:m<256 ^ 2:=by rw [show(256:Nat) ^ 2=65536 from by decide];omega
 have a0:n<256 ^ 4:=by rw [show(256:Nat) ^ 4=4294967296 from by decide];omega
 have b5:=ad (rR c 2 (by omega) (by omega) aj (by omega));have b8:=ad (rR m 2 (by omega) (by omega) av (by omega));have bA:=ad (rR n 4 (by omega) (by omega) a0 (by omega));have K:=jk 2 c;have L:=jk 2 m;have M:=jk 4 n;have HM:=ad (KS);have bR:=uj m p o d q c n;have HP:=ad (fun v W (h:Fr w W) (J:af W eB v (fE m p o d q c n))=>nZ v _ W J (by omega) (ht.fr h));have O:=ad (fun W p0 p2 p3 Q h0 cc cf ch=>G1 W p0 p2 p3 Q iF (bl 2 c) (bl 2 m) (bl 4 n) (if p then 1 else 0) o d q J h3 h4 h0 cc cf ch (by rw [K,L,M];simp [iF]));have HE:Hid (fE m p o d q c n=iF++[(if p then 1 else 0),UInt8.ofNat o,UInt8.ofNat d,UInt8.ofNat q]++bl 2 c++bl 2 m++bl 4 n):=rfl;rw [<- HE.out]at O;have a2:iF.length=5:=rfl;have dd:=ad K;have di:=ad L;have dj:=ad M;have Hm:=ad a2;clear aj av a0 ht HE bR K L M a2;generalize fE m p o d q c n=HL at *;generalize ay HL=T at *;generalize bl 2 c=FC at *;generalize bl 2 m=Fq at *;generalize bl 4 n=FN at *;generalize iF=MK at *;have dl:IntKind.u64.wrap (c:Int)=(c:Int):=aX _ (by omega);have dr:IntKind.u64.wrap (m:Int)=(m:Int):=aX _ (by omega);have ds:IntKind.u64.wrap (n:Int)=(n:Int):=aX _ (by omega);have dv:IntKind.u8.wrap (o:Int)=(o:Int):=pX _ (by omega);have d0:IntKind.u8.wrap (d:Int)=(d:Int):=pX _ (by omega);have d1:IntKind.u8.wrap (q:Int)=(q:Int):=pX _ (by omega);go_enter Tryz.func73, Tryz.ntmps73;go_wp2_with fail;refine(HM.out _).mono ?_;rintro e w1 ⟨v1,rfl,R,U⟩;obtain⟨p1,z1,rfl⟩:=R.shape';have D:=U.heap hg;have x1:=ae D 1 rfl;have x5:=ae D 5 rfl;go_upto_if 20 with fail;go_cut [5]from 16 to 21 (fun bv wx=>bv=Fk.u8 (if p then 1 else 0)/\wx=w1)
 case first=>
  cases p with
  | true=>go_wp2_with fail;go_meet;exact⟨rfl,rfl⟩
  | false=>go_wp2_with fail;go_meet;exact⟨rfl,rfl⟩
 case rest=>
  obtain⟨rfl,rfl⟩:=hcut;generalize cz:(if p=true then(1:UInt8)else 0)=px at *;clear cz x1;go_wp2_with fail;refine(b5.out _).mono ?_;rintro e w2 ⟨v2,rfl,V,F⟩;have X:=F.heap D;have a3:=R.fr F;have a4:=U.trans F;have x0:=ae X 0 rfl;obtain⟨p2,z2,rfl⟩:=V.shape';clear R D x5 U F;go_wp2_with fail;refine(b8.out _).mono ?_;rintro e w3 ⟨v3,rfl,Y,z⟩;have Z:=z.heap X;have a5:=a3.fr z;have a6:=V.fr z;have a7:=a4.trans z;have x6:=ae Z 6 rfl;obtain⟨p3,z3,rfl⟩:=Y.shape';clear a3 V X x0 a4 z;go_wp2_with fail;refine(bA.out _).mono ?_;rintro e w4 ⟨v4,rfl,aa,y⟩;have G:=y.heap Z;have ba:=a5.fr y;have bb:=a6.fr y;have bc:=Y.fr y;have bd:=a7.trans y;have y2:=ae G 2 rfl;have y3:=ae G 3 rfl;have y4:=ae G 4 rfl;obtain⟨Q,z4,rfl⟩:=aa.shape';have HA:=ad (O.out w4.drew ⟨p1,MK.length,z1⟩ ⟨p2,FC.length,z2⟩ ⟨p3,Fq.length,z3⟩ ⟨Q,FN.length,z4⟩ ba.see.drew bb.see.drew bc.see.drew aa.see.drew);clear O a5 a6 Y Z x6 a7 y;go_upto_region 8 with fail
  go_region_held3 (fun w' => w'.cell? ⟨g, 2, none⟩ = some (N o) ∧ w'.cell? ⟨g, 3, none⟩ = some (N d) ∧ w'.cell? ⟨g, 4, none⟩ = some (N q))
   (first | go_keep)
   ((first
    | (go_at_call 30; refine HA.out.mono ?_; rintro e w5 ⟨v5, rfl, bn, A⟩; have u2 := A.cell y2; have u3 := A.cell y3; have u4 := A.cell y4)
    | (go_at_call 35; refine (HP.out _ _ (bd.trans ((Fr.refl w4).drew.trans A)) bn.see).mono ?_; rintro e w6 ⟨v6, rfl, ab, I⟩; have t2 := I.cell u2; have t3 := I.cell u3; have t4 := I.cell u4)))
  have b0:Fr w w5:=bd.trans ((Fr.refl w4).drew.trans A);have HR:=ad (ab.rebase b0.size);obtain⟨p6,z6,rfl⟩:=ab.shape';clear ab t2 t3 t4 u2 u3 u4 y2 y3 y4 bn ba bb bc aa G;go_wp2_with fail;go_ret;exact⟨_,rfl,HR.out,b0.trans I⟩
end Go.Proofs.YtdamnfpigajmoaaGreatDoor
