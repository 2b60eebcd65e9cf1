/- Lemmas. -/
import Derived.Test.YtmcaneofjlhhmaaGreatDoorM08
import Derived.Test.YtmcaneofjlhhmaaGreatDoorM33
set_option linter.all false
set_option maxHeartbeats 8000000
set_option maxRecDepth 100000
namespace Go.Proofs
open RowKit Fk Tryz
def gy(e:Nat)(p:Bool)(f d q c n:Nat):U0:=mi++[(if p then 1 else 0),UInt8.ofNat f,UInt8.ofNat d,UInt8.ofNat q]++eH 2 c++eH 2 e++eH 4 n
def tZ(e:Nat)(p:Bool)(f d q c n:Nat):(gy e p f d q c n).length=17:=by
 unfold gy;simp[oZ,mi]
def O0(W:World)(d h m o p:Hd)(q z A D F:U0)(G:ao W eB d.v q)(I:ao W eB h.v z)(J:ao W eB m.v A)(K:ao W eB o.v D)(L:ao W eB p.v F)(U:q.length+z.length+A.length+D.length+F.length<=1000000):Calls prog 46 #[.slice (some ⟨W.heap.size,0,none⟩) 5 5] (W.alloc (.cells #[d.v,h.v,m.v,o.v,p.v] 22)) λe w'=>∃v,e=.returned v/\Ow w' W.heap.size eB v (q++z++A++D++F)/\Fr W w':=by
 have M := rN W #[d.v, h.v, m.v, o.v, p.v] 22 [d, h, m, o, p] [q, z, A, D, F] 5 rfl rfl rfl (by simp) (fun i O V => by
   match i, O with
   | 0, _ => exact G
   | 1, _ => exact I
   | 2, _ => exact J
   | 3, _ => exact K
   | 4, _ => exact L)
 refine(s9 _ _ _ _ M (by simp;omega)).mono ?_;rintro e w' ⟨v,rfl,Q,R⟩;exact⟨v,rfl,by simpa using Q.rebase (b:=W.heap.size) σ,((Fr.refl W).alloc _).trans R⟩
def vH(n:Nat)(h:n<256):Fk.u8 (UInt8.ofNat n)=.int .u8 (n:Int):=by
 show Value.int .u8 ((UInt8.ofNat n).toNat:Int)=_;rw[lk,m7 h]
def L5(W:World)(D F G I:Hd)(o p z A:U0)(x:UInt8)(h d q:Nat)(J:h<256)(K:d<256)(L:q<256)(M:ao W eB D.v o)(O:ao W eB F.v p)(Q:ao W eB G.v z)(R:ao W eB I.v A)(Z:o.length+4+p.length+z.length+A.length<=1000000):Calls prog 46 #[.slice (some ⟨W.heap.size+1,0,none⟩) 5 5] ((W.alloc (.cells #[Fk.u8 x,.int .u8 (h:Int),.int .u8 (d:Int),.int .u8 (q:Int)] 5)).alloc (.cells #[D.v,.slice (some ⟨W.heap.size,0,none⟩) 4 4,F.v,G.v,I.v] 22)) λe w'=>∃v,e=.returned v/\Ow w' W.heap.size eB v (o++[x,UInt8.ofNat h,UInt8.ofNat d,UInt8.ofNat q]++p++z++A)/\Fr W w':=by
 have m:Fr W (W.alloc (.cells #[Fk.u8 x,.int .u8 (h:Int),.int .u8 (d:Int),.int .u8 (q:Int)] 5)):=(Fr.refl W).alloc _;have U:(W.alloc (.cells #[Fk.u8 x,.int .u8 (h:Int),.int .u8 (d:Int),.int .u8 (q:Int)] 5)).heap.size=W.heap.size+1:=σ
 have V:ao (W.alloc (.cells #[Fk.u8 x,.int .u8 (h:Int),.int .u8 (d:Int),.int .u8 (q:Int)] 5)) eB (Hd.v ⟨some ⟨W.heap.size,0,none⟩,4,4⟩) [x,UInt8.ofNat h,UInt8.ofNat d,UInt8.ofNat q]:=
  lV eB W [x, UInt8.ofNat h, UInt8.ofNat d, UInt8.ofNat q] #[Fk.u8 x, .int .u8 (h : Int), .int .u8 (d : Int), .int .u8 (q : Int)] 5 4 rfl (by
    show [Fk.u8 x, .int .u8 (h : Int), .int .u8 (d : Int), .int .u8 (q : Int)] = [Fk.u8 x, Fk.u8 (UInt8.ofNat h), Fk.u8 (UInt8.ofNat d), Fk.u8 (UInt8.ofNat q)]
    rw[vH h J, vH d K, vH q L]) (by show 4 ≤ maxLen; unfold maxLen; omega)
 have:=O0 _ D ⟨some ⟨W.heap.size,0,none⟩,4,4⟩ F G I o _ p z A (M.fr m) V (O.fr m) (Q.fr m) (R.fr m) (by simp;omega);rw[U]at this;refine this.mono ?_;rintro e w' ⟨v,rfl,X,Y⟩;exact⟨v,rfl,X.rebase ω,m.trans Y⟩
abbrev mU(e:Nat)(p:Bool)(f d q c n:Nat)(h:Value:=.int .u8 0):Obj:=.cells #[N e,.bool p,N f,N d,N q,N c,N n,h] 60 (0,0)
def QH(g m o d q c n:Nat)(p:Bool){xv:Value}(w:World)(hg:w.heap[g]?=some (mU m p o d q c n xv))(ht:dm w)(h1:m<=32768)(K:o<256)(h3:d<256)(h4:q<256)(h5:c<=4096)(h6:n<=1000000):Calls prog 53 #[.pointer (some ⟨g,0,none⟩)] w λe w'=>∃v,e=.returned v/\Ow w' w.heap.size eB v (bD (gy m p o d q c n))/\Fr w w':=by
 have ak:c<256^2:=by rw[show(256:Nat)^2=65536 from by decide];omega
 have al:m<256^2:=by rw[show(256:Nat)^2=65536 from by decide];omega
 have am:n<256^4:=by rw[show(256:Nat)^4=4294967296 from by decide];omega
 have bq:=ad (uK c 2 ω ω ak ω);have bs:=ad (uK m 2 ω ω al ω);have bt:=ad (uK n 4 ω ω am ω);have L:=oZ 2 c;have M:=oZ 2 m;have O:=oZ 4 n;have HM:=ad (Qx);have b0:=tZ m p o d q c n;have HP:=ad (λv W (h:Fr w W) (K:ao W eB v (gy m p o d q c n))=>zk v _ W K ω (ht.fr h));have Q:=ad (λW p0 R U V h0 b4 b5 b6=>L5 W p0 R U V mi (eH 2 c) (eH 2 m) (eH 4 n) (if p then 1 else 0) o d q K h3 h4 h0 b4 b5 b6 (by rw[L,M,O];simp[mi]));have HE:Hid (gy m p o d q c n=mi++[(if p then 1 else 0),UInt8.ofNat o,UInt8.ofNat d,UInt8.ofNat q]++eH 2 c++eH 2 m++eH 4 n):=rfl;rw[<- HE.out]at Q;have av:mi.length=5:=rfl;have ct:=ad L;have cu:=ad M;have cv:=ad O;have Hm:=ad av;clear ak al am ht HE b0 L M O av;generalize gy m p o d q c n=HL at *;generalize mi=MK,eH 4 n=FN,eH 2 m=Fq,eH 2 c=FC,bD HL=T at *;have c0:IntKind.u64.wrap (c:Int)=(c:Int):=cW _ ω;have c1:IntKind.u64.wrap (m:Int)=(m:Int):=cW _ ω;have c3:IntKind.u64.wrap (n:Int)=(n:Int):=cW _ ω;have c4:IntKind.u8.wrap (o:Int)=(o:Int):=IntWalk.u8_in _ ω;have c5:IntKind.u8.wrap (d:Int)=(d:Int):=IntWalk.u8_in _ ω;have c6:IntKind.u8.wrap (q:Int)=(q:Int):=IntWalk.u8_in _ ω;go_in;go_wp2_with fail;refine(HM.out _).mono ?_;rintro e w1 ⟨v1,rfl,X,Y⟩;obtain⟨p1,z1,rfl⟩:=X.shape';have F:=Y.heap hg;have x1:=af F 1 rfl;have x5:=af F 5 rfl;go_upto_if 20 with fail;go_cut [5]from 16 to 21 (λbv wx=>bv=Fk.u8 (if p then 1 else 0)/\wx=w1)
 ·
  cases p with
  | true=>go_wp2;go_meet;exact⟨rfl,rfl⟩
  | false=>go_wp2;go_meet;exact⟨rfl,rfl⟩
 ·
  obtain⟨rfl,rfl⟩:=hcut;generalize ca:(if p=true then(1:UInt8)else 0)=px at *;clear ca x1;go_wp2_with fail;refine(bq.out _).mono ?_;rintro e w2 ⟨v2,rfl,Z,G⟩;have aa:=G.heap F;have az:=X.fr G;have a0:=Y.trans G;have x0:=af aa 0 rfl;obtain⟨R,z2,rfl⟩:=Z.shape';clear X F x5 Y G;go_wp2_with fail;refine(bs.out _).mono ?_;rintro e w3 ⟨v3,rfl,ab,A⟩;have ac:=A.heap aa;have a1:=az.fr A;have a2:=Z.fr A;have a3:=a0.trans A;have x6:=af ac 6 rfl;obtain⟨U,z3,rfl⟩:=ab.shape';clear az Z aa x0 a0 A;go_wp2_with fail;refine(bt.out _).mono ?_;rintro e w4 ⟨v4,rfl,ah,z⟩;have I:=z.heap ac;have a4:=a1.fr z;have a5:=a2.fr z;have a6:=ab.fr z;have a7:=a3.trans z;have y2:=af I 2 rfl;have y3:=af I 3 rfl;have y4:=af I 4 rfl;obtain⟨V,z4,rfl⟩:=ah.shape';have HA:=ad (Q.out w4.drew ⟨p1,MK.length,z1⟩ ⟨R,FC.length,z2⟩ ⟨U,Fq.length,z3⟩ ⟨V,FN.length,z4⟩ a4.see.drew a5.see.drew a6.see.drew ah.see.drew);clear Q a1 a2 ab ac x6 a3 z;go_upto_region 8 with fail
  go_region_held3 (λw' => w'.cell? ⟨g, 2, none⟩ = some (N o) ∧ w'.cell? ⟨g, 3, none⟩ = some (N d) ∧ w'.cell? ⟨g, 4, none⟩ = some (N q))
   (first | go_keep)
   ((first
     | (go_at_call 46; refine HA.out.mono ?_; rintro e w5 ⟨v5, rfl, ba, D⟩; have u2 := D.cell y2; have u3 := D.cell y3; have u4 := D.cell y4)
     | (go_at_call 41; refine (HP.out _ _ (a7.trans ((Fr.refl w4).drew.trans D)) ba.see).mono ?_; rintro e w6 ⟨v6, rfl, ai, J⟩; have t2 := J.cell u2; have t3 := J.cell u3; have t4 := J.cell u4)))
  have be:Fr w w5:=a7.trans ((Fr.refl w4).drew.trans D);have HR:=ad (ai.rebase be.size);obtain⟨p6,z6,rfl⟩:=ai.shape';clear ai t2 t3 t4 u2 u3 u4 y2 y3 y4 ba a4 a5 a6 ah I;go_wp2;go_ret;exact⟨_,rfl,HR.out,be.trans J⟩
