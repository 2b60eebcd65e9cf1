/- Lemmas for ThreeTurned. -/
import Derived.Test.YtndbpldeabnkbaaGreatDoorM38
import Derived.Test.YtndbpldeabnkbaaGreatDoorM29
import Derived.Test.YtndbpldeabnkbaaGreatDoorM43
set_option linter.all false
set_option maxHeartbeats 8000000
set_option maxRecDepth 100000
namespace Go.Proofs.YtndbpldeabnkbaaGreatDoor
open Go.RowKit Go.Fk
def S4(p:Bool)(l:List aq)(d:List Nat)(k:Nat):Z0:=mN p (dL true ((l.drop (d.take k).sum).take (d.getD k 0)))
def PA(d:Nat)(p:Bool)(e h:Nat):Z0:=FH 1++ao d++[(if p then 1 else 0)]++ao e++ao h
def Fl(d:Nat)(p:Bool)(l:List aq):Z0:=
 au (PA d p l.length (cZ d (bU true) l).length++(eF (S4 p l (cZ d (bU true) l)) (cZ d (bU true) l).length).flatten)
def Bk(q:Nat × Nat × Nat):Value:=.tuple #[if q.2.2=0 then N q.1 else .int .i64 (-1),.int .i64 (q.2.2:Int)]
def JA(m:Z0)(base g B K A a:Nat)(c:Nat->Value)(v:Value)(r:Z0)(w:World)(h:ed w base g m m.length c)(hC:eC w B K v r A a)(hl:r.length<=1000000)(hn:m.length<=300)(Z:bX m=true)(aa:∀c∈m,c.toNat<=15):Calls Tryz.prog 267 #[.pointer (some ⟨g,0,none⟩),.pointer (some ⟨B,0,none⟩)] w λe w'=>e=.returned (Bk (aF m r a))/\eC w' B K v r A (aF m r a).2.1/\ai (λb=>b=B) w w':=by
 have HP:=ad (Xb B K A a 15 r w hC.f hl ω);have HS:=ad (λW (o:Fr w W) l (a4:a+l<=A)=>Wp B K A a l v r W (hC.fr o) hl a4);have HF:=ad (λW (o:Fr w W) x l z D hx=>X7 m base g x l c W (h.fr o) hn Z aa z D hx);have L:=ad (λW (o:Fr w W) y l D hy=>XB m base g y l c W (h.fr o) hn Z aa D hy);have HH:=ad (Sy m r a);have HM:=ad (Sx m r a);have M:=ad (PO r a);have a5:=ad (pS r a 15);have av:=ad (λy=>EY m Z aa y 15 (λk z D=>absurd z ω));have a6:=hC.eq;have a4:=hC.le;have O:gw r a=min 15 (A-a):=by unfold gw;rw[a6]
 rw[<- O]at HP;have b0:gw r a<=15:=by rw[O];exact Nat.min_le_left _ _
 have b1:gw r a<=A-a:=by rw[O];exact Nat.min_le_right _ _
 have HC:=ad hC;have hX:Fk.aI r a 15<=32768:=by have:=a5.out;omega
 clear h hC O a5 a6;generalize gw r a=T,Fk.aI r a 15=X,Fk.aI r a (gw r a)=Y,aF m r a=Q at *;go_in;go_wp2_with fail;apply HP.z;rintro e w1 ⟨rfl,bc⟩;have bd:=bc.fr;clear HP;go_wp2;go_loopw [8] (λkv wr=>∃l:Nat,1<=l/\l<=T+1/\kv=N l/\Hid (∀j,1<=j->j<l->l9 m (X / 2^(15-j)) j=none)/\Fr w wr) (λkv _=>16-(intOf kv).toNat);case atStart=>exact⟨1,ω,ω,rfl,(λj z D=>absurd z ω),bd⟩
 case round=>
  obtain⟨l,z,b3,rfl,I,o⟩:=hrel;by_cases bf:l<=T
  ·have bk:IntKind.i64.wrap (15-(l:Int))=((15-l:Nat):Int):=(by rw[ax _ ω];omega);have bl:(X:Int) / 2^(15-l)=((X / 2^(15-l):Nat):Int):=σ;have b4:X / 2^(15-l)<=X:=kF _ _;have F:=ad (HF.out wr o (X / 2^(15-l)) l z ω ω);have bm:min (15-l) 64=15-l:=ω;have i1:(l:Int)<=T:=ω;have b6:=ax ((l:Int)+1) ω
   cases G:l9 m (X / 2^(15-l)) l with
   | some s=>have hQ:=HH.out l s z bf G;rw[G]at F;simp only[Bt]at F;have bn:=ad (λW (h:Fr w W)=>HS.out W h l ω);subst hQ;clear G I;generalize 15-l=d at *;generalize X / 2^d=q at *;go_wp2_with fail;apply F.z;rintro e R ⟨rfl,rfl⟩;have bs:=ad (bn.out R o);clear F;go_wp2_with fail;apply bs.z;rintro e w3 ⟨rfl,bu,bv⟩;go_wp2;go_ret2;exact⟨rfl,bu,(o.chg _).trans bv λ_ _ h=>h⟩
   | none=>
    rw[G]at F;simp only[Bt]at F;have HX:Hid (∀j,1<=j->j<l+1->l9 m (X / 2^(15-j)) j=none):=λj z D=>by
     by_cases e:j=l;·rw[e];exact G
     ·exact I.out j z ω
    clear G I;generalize 15-l=d at *;generalize X / 2^d=q at *;go_wp2_with fail;apply F.z;rintro e R ⟨rfl,rfl⟩;go_wp2;go_roundw;case rel=>exact⟨l+1,ω,ω,γ,HX,o⟩
    case measure=>exact μ
  ·obtain rfl:l=T+1:=ω;have hQ:=HM.out (λj z D=>I.out j z ω);have a1:=ad (HC.out.fr o);have i2:¬((T:Int)+1<=T):=ω;clear I;by_cases hT:T<15
   ·have bk:IntKind.i64.wrap (15-(T:Int))=((15-T:Nat):Int):=(by rw[ax _ ω];omega);have bm:min (15-T) 64=15-T:=ω;have bl:(X:Int) / 2^(15-T)=(Y:Int):=(by rw[<- M.out];simp);have hY:Y<=X:=(by rw[<- M.out];exact kF _ _);have U:=ad (L.out wr o Y T ω ω);have i3:(T:Int)<15:=ω;clear M HF HS HH HM av;generalize 15-T=d at *
    cases V:oK m Y T with
    | true=>rw[V]at U hQ;subst hQ;clear L V;go_wp2_with fail;apply U.z;rintro e R ⟨rfl,J⟩;go_wp2;go_ret2;exact⟨rfl,a1.out.fr J.fr,(o.trans J.fr).chg _⟩
    | false=>rw[V]at U hQ;subst hQ;clear L V;go_wp2_with fail;apply U.z;rintro e R ⟨rfl,J⟩;go_wp2;go_ret2;exact⟨rfl,a1.out.fr J.fr,(o.trans J.fr).chg _⟩
   ·obtain rfl:T=15:=ω;rw[av.out Y]at hQ;subst hQ;clear M HF HS HH HM av L;go_wp2;go_ret2;exact⟨rfl,a1.out,o.chg _⟩
def Rs:List aq:=[⟨0,0,[],[97]⟩,⟨0,0,[],[98]⟩]
def Ya:Z0:=Fl 16 false Rs
def Yd(d:World)(g:Nat)(U:Value):World:=(((((((d.setCell ⟨g,5,none⟩ (.int .i64 16)).setCell ⟨g,6,none⟩ (.bool false)).setCell ⟨g,7,none⟩ (.int .i64 0)).setCell ⟨g,8,none⟩ (.int .i64 0)).setCell ⟨g,9,none⟩ (.int .i64 0)).setCell ⟨g,10,none⟩ (.int .i64 0)).setCell ⟨g,11,none⟩ U).setCell ⟨g,2,none⟩ (.int .i64 1)
def Yl(W:World)(z:Nat)(d e h v3 m:Value):World:=((((W.setCell ⟨z,0,none⟩ d).setCell ⟨z,1,none⟩ e).setCell ⟨z,2,none⟩ h).setCell ⟨z,3,none⟩ v3).setCell ⟨z,4,none⟩ m
def JF(x b:Nat)(w:World)(d:b<=60)(h:x<2^b):Calls Tryz.prog 278 #[N x,N b] w λe w'=>e=.returned (.bool true)/\w'=w:=by
 have hD:(2:Nat)^b<=2^60:=fp ω d;have m:IntKind.i64.wrap ((2:Int)^b)=((2^b:Nat):Int):=by rw[show(2:Int)^b=((2^b:Nat):Int) by simp];exact ax _ ω
 generalize 2^b=D at *;have o:(0:Int)<=x:=ω
 have z:(x:Int)<D:=ω
 have A:(0:Int)<=b:=ω
 go_in;go_wp2;go_ret;exact⟨rfl,rfl⟩
def zY{T:TypeId}{W:World}{z:Nat}{o A D:Value}(d e m:Value)(h:W.heap[z]?=some (.cells #[o,A,D] T (0,0))):(((W.setCell ⟨z,0,none⟩ d).setCell ⟨z,1,none⟩ e).setCell ⟨z,2,none⟩ m).heap[z]?=some (.cells #[d,e,m] T (0,0))/\ai (λk=>k=z) W (((W.setCell ⟨z,0,none⟩ d).setCell ⟨z,1,none⟩ e).setCell ⟨z,2,none⟩ m):=
 ⟨aJ (aJ (aJ h 0 d) 1 e) 2 m,((a9 W ⟨z,0,none⟩ d).trans (a9 _ ⟨z,1,none⟩ e) λ_ _ h=>h).trans (a9 _ ⟨z,2,none⟩ m) λ_ _ h=>h⟩
def Xu(m o d z:Nat)(w:World)(h1:257<=m)(h2:m<265)(h3:d<12)(J:o<2^(m-257))(O:z<2^d):Calls Tryz.prog 275 #[.agg #[N m,N o,N d,N z]] w λe w'=>e=.returned (.tuple #[nM ⟨0,2+2^(m-257)+o,2^d+z⟩,.int .i64 0])/\Fr w w':=by
 obtain⟨b,Q⟩:∃b,b=m-257:=⟨_,rfl⟩;have bc:IntKind.i64.wrap ((m:Int)-257)=(b:Int):=by rw[ax _ ω];omega
 rw[<- Q]at J ⊢;have R:=ad (λW=>JF o b W ω J);have U:=ad (λW=>JF z d W ω O);have p1:(2:Nat)^b<=2^8:=fp ω ω;have p2:(2:Nat)^d<=2^12:=fp ω ω;have bd:IntKind.i64.wrap ((2:Int)^b)=((2^b:Nat):Int):=by rw[show(2:Int)^b=((2^b:Nat):Int) by simp];exact ax _ ω
 have bf:IntKind.i64.wrap ((2:Int)^d)=((2^d:Nat):Int):=by rw[show(2:Int)^d=((2^d:Nat):Int) by simp];exact ax _ ω
 generalize 2^d=E,2^b=D at *;have bk:=ax (2+(D:Int)) ω;have bl:=ax (2+(D:Int)+o) ω;have bm:=ax ((E:Int)+z) ω;have j1:(0:Int)<=m:=ω
 have j2:¬(m:Int)<256:=ω
 have j3:(257:Int)<=m:=ω
 have j4:(m:Int)<265:=ω
 have j5:(0:Int)<=d:=ω
 have j6:(d:Int)<12:=ω
 have j7:(0:Int)<=b:=ω
 have b2:min b 64=b:=ω
 have b3:min d 64=d:=ω
 have V:Fr w (w.alloc (.cells #[N m,N o,N d,N z] 286)):=(Fr.refl w).alloc _;have X:(w.alloc (.cells #[N m,N o,N d,N z] 286)).heap[w.heap.size]?=some (.cells #[N m,N o,N d,N z] 286 (0,0)):=aB _ _ _ rfl;have K:Fr (w.alloc (.cells #[N m,N o,N d,N z] 286)) ((w.alloc (.cells #[N m,N o,N d,N z] 286)).alloc (.cells #[.int .u8 0,.int .i64 0,.int .i64 0] 238)):=(Fr.refl _).alloc _;have Y:((w.alloc (.cells #[N m,N o,N d,N z] 286)).alloc (.cells #[.int .u8 0,.int .i64 0,.int .i64 0] 238)).heap[w.heap.size+1]?=some (.cells #[.int .u8 0,.int .i64 0,.int .i64 0] 238 (0,0)):=aB _ _ (w.heap.size+1) (by rw [eW]);have G:=K.heap X;have Z:=V.trans K;clear V K X Q J O h1 h2 h3 p1 p2;go_in;go_upto_region 1 with fail;generalize (w.alloc (.cells #[N m,N o,N d,N z] 286)).alloc (.cells #[.int .u8 0,.int .i64 0,.int .i64 0] 238)=W1 at *;have e0:=ag G 0 rfl;have e1:=ag G 1 rfl;have e2:=ag G 2 rfl;have e3:=ag G 3 rfl;have ab:=ad (R.out W1);have ac:=ad (U.out W1);have HT:=ad Y;have HF:=ad Z;clear R U G Y Z;go_upto_region 6 with fail;go_wp2_with fail;apply ab.z;rintro e w4 ⟨rfl,rfl⟩;go_wp2_with fail;apply ac.z;rintro e w4 ⟨rfl,rfl⟩;go_upto_region 7 with fail;have F:w4.drew.heap[w.heap.size+1]?=some (.cells #[.int .u8 0,.int .i64 0,.int .i64 0] 238 (0,0)):=HT.out;have L:Fr w w4.drew:=HF.out.drew;go_still_tail 13,(by kernel_rfl);change wpList _ _ _ _ _ w4.drew;have x0:=a8 F 0;have x1:=a8 F 1;have x2:=a8 F 2;have y0:=ag F 0 rfl;have y1:=ag F 1 rfl;have y2:=ag F 2 rfl;clear HT HF e0 e1 e2 e3 ab ac;generalize w4.drew=W5 at *;have KZ := ad (fun I (h : I = ((W5.setCell ⟨w.heap.size + 1, 0, none⟩ (.int .u8 0)).setCell ⟨w.heap.size + 1, 1, none⟩ (.int .i64 (2 + (D : Int) + o))).setCell ⟨w.heap.size + 1, 2, none⟩ (.int .i64 ((E : Int) + z))) => by
   have M := zY (.int .u8 0) (.int .i64 (2 + (D : Int) + o)) (.int .i64 ((E : Int) + z)) F;rw[← h] at M
   exact (⟨M.1, ai.below L M.2 L.size (λi e => by rw[show i = w.heap.size + 1 from e]; omega)⟩ : I.heap[w.heap.size + 1]? = some (.cells #[.int .u8 0, .int .i64 (2 + (D : Int) + o), .int .i64 ((E : Int) + z)] 238 (0, 0)) ∧ Fr w I))
 have aC:(Tryz.prog.info? 238).map (·.size)=some 3:=by kernel_rfl
 clear F L;go_wp2_with fail;generalize hW:((W5.setCell ⟨w.heap.size+1,0,none⟩ (.int .u8 0)).setCell ⟨w.heap.size+1,1,none⟩ (.int .i64 (2+(D:Int)+o))).setCell ⟨w.heap.size+1,2,none⟩ (.int .i64 ((E:Int)+z))=I;obtain⟨ba,bb⟩:=KZ.out I hW.symm;clear hW KZ;refine bF (v:=.tuple #[.agg #[.int .u8 0,.int .i64 (2+(D:Int)+o),.int .i64 ((E:Int)+z)],.int .i64 0]) (qK Tryz.results275 _ _ (w.heap.size+1) 238 _ (0,0) _ _ rfl rfl ba Tryz.underlying238 rfl aC) rfl ?_;exact⟨rfl,bb⟩
end Go.Proofs.YtndbpldeabnkbaaGreatDoor
namespace Go.Fk
def vC(d r:Z0)(a:Nat)(h:(aF d r a).2.2=0):(aF d r a).1<d.length:=by
 unfold aF at h ⊢;cases e:nZ d (aI r a 15) (gw r a)with
 | some s=>have:=List.mem_of_find?_eq_some e;simpa using this
 | none=>rw[e]at h;simp at h;split at h <;> cases h
end Go.Fk
namespace Go.Proofs.YtndbpldeabnkbaaGreatDoor
open Go.RowKit Go.Fk
def ed.rd{w w':World}{base g n B:Nat}{a:Z0}{c:Nat->Value}(h:ed w base g a n c)(A:B<base)(m:ai (λk=>k=B) w w'):ed w' base g a n c:=
 h.chg m (λe=>by have:=h.up;omega) (λk d e=>by have:=(h.own0.lt k d).1;omega) (λk d e=>by have:=(h.own1.lt k d).1;omega) (λl o z k d e=>by have:=((h.syms l o z).lt k d).1;omega)
def vV(n:Nat)(L:Z0):Prop:=L.length=n/\bX L=true/\∀c∈L,c.toNat<=15
def Jl(R B o A a n:Nat)(s1 s2 v:Value)(r:Z0)(w:World)(hR:w.heap[R]?=some (.cells #[.pointer (some ⟨B,0,none⟩),s1,s2] 364 (0,0)))(hC:eC w B o v r A a)(hl:r.length<=1000000)(K:n<=300):Calls Tryz.prog 248 #[.pointer (some ⟨R, 0, none⟩), N n] w fun e w' => ai (fun b => b = B) w w' ∧ ((¬ (bI r n a).2.2 = 0 ∧ e = .returned (.tuple #[.pointer none, .int .i64 ((bI r n a).2.2 : Int)])) ∨
    ((bI r n a).2.2 = 0 ∧ ∃g c b, e = .returned (.tuple #[.pointer (some ⟨g, 0, none⟩), .int .i64 0]) ∧ w.heap.size ≤ b ∧ ed w' b g (bI r n a).1 (bI r n a).1.length c ∧ eC w' B o v r A (bI r n a).2.1 ∧ vV n (bI r n a).1)) := by
 have D:=ad (XO B o A a n v r w hC hl K);have c0:=ag hR 0 rfl;generalize bI r n a=Q at *;obtain⟨L,a',er⟩:=Q;by_cases M:er=0;·subst M;go_in;go_wp2_with fail;apply D.z;rintro e O ⟨u,rfl,d,m,U⟩;obtain⟨V,F,G,I⟩:=U trivial;have HN:=ad (J9 u L O d.see (by rw[F];exact K) I G);have X:=ad V;have Y:Hid (vV n L):=⟨F,G,I⟩;obtain⟨p,z,rfl⟩:=d.shape';have Z:=m.size;clear V F G I U d D;go_wp2_with fail;apply HN.z;rintro e w2 ⟨g,c,rfl,hH,J⟩;go_wp2;go_ret2;exact⟨m.trans (J.chg _) λ_ _ h=>h,(by first | exact .inr ⟨trivial,g,c,_,rfl,Z,hH,X.out.fr J,Y.out⟩ | exact⟨g,c,⟨rfl,rfl⟩,_,Z,hH,X.out.fr J,Y.out⟩)⟩
 ·go_in;go_wp2_with fail;apply D.z;rintro e O ⟨u,rfl,d,m,_⟩;obtain⟨p,z,hu⟩:=d.shape';go_wp2;go_ret2;exact⟨m,.inl ⟨M,rfl⟩⟩
def Dh(q:aU × Nat × Nat):Value:=.tuple #[nM q.1,.int .i64 (q.2.2:Int)]
def Wn(R B bb z a D bf gf:Nat)(s1 v:Value)(cf:Nat->Value)(m r:Z0)(w:World)(hR:w.heap[R]?=some (.cells #[.pointer (some ⟨B,0,none⟩),s1,.pointer (some ⟨gf,0,none⟩)] 364 (0,0)))(hC:eC w B bb v r z a)(hl:r.length<=1000000)
  (hH:ed w bf gf m m.length cf) (hG:vV 12 m) (hB:B<bf) (hRB:R≠B) (h1:257<=D) (h2:D<265) :
  Calls Tryz.prog 268 #[.pointer (some ⟨R,0,none⟩),N D] w λe w'=>e=.returned (Dh (eb m r D a))/\ai (λb=>b=B) w w'/\((eb m r D a).2.2=0->eC w' B bb v r z (eb m r D a).2.1):=by
 obtain⟨b,hb⟩:∃b,b=D-257:=⟨_,rfl⟩;have dE:IntKind.i64.wrap ((D:Int)-257)=(b:Int):=by rw[ax _ ω];omega
 have dT:b<=7:=ω
 have a4:=hC.eq;have KA:Hid (z<a+b->eb m r D a=(⟨0,0,0⟩,a,1)):=λh=>by unfold eb;rw[<- a4,<- hb,af h]
 have KB:Hid (¬z<a+b->¬(aF m r (a+b)).2.2=0->eb m r D a=(⟨0,0,0⟩,a,(aF m r (a+b)).2.2)):=λh h2=>by unfold eb;rw[<- a4,<- hb,ae h,ae h2]
 have KC:Hid (¬z<a+b->(aF m r (a+b)).2.2=0->z<(aF m r (a+b)).2.1+(aF m r (a+b)).1->eb m r D a=(⟨0,0,0⟩,a,1)):=λh h2 h3=>by unfold eb;rw[<- a4,<- hb,ae h,af h2,af h3]
 have KD:Hid (¬z<a+b->(aF m r (a+b)).2.2=0->¬z<(aF m r (a+b)).2.1+(aF m r (a+b)).1->eb m r D a=(⟨0,2+2^b+Fk.aI r a b,2^(aF m r (a+b)).1+Fk.aI r (aF m r (a+b)).2.1 (aF m r (a+b)).1⟩,(aF m r (a+b)).2.1+(aF m r (a+b)).1,0)):=λh h2 h3=>by unfold eb;rw[<- a4,<- hb,ae h,af h2,ae h3]
 have cG:=ad (λh=>(vC m r (a+b) h));have cs:=ad (λa k W (h:eC W B bb v r z a) hk=>JE B bb z a k v r W h hl hk);have bc:=ad (λW (h:ed W bf gf m m.length cf) (hc:eC W B bb v r z (a+b))=>JA m bf gf B bb z (a+b) cf v r W h hc hl (by rw[hG.1];omega) hG.2.1 hG.2.2);have HJ:=ad (λct d W (h3:d<12) (hx:Fk.aI r a b<2^b) (hf:ct<2^d)=>Xu D (Fk.aI r a b) d ct W h1 h2 h3 (by rw[<- hb];exact hx) hf);rw[<- hb]at HJ;have b7:=ad (λa k=>pS r a k);have cN:Hid (m.length=12):=hG.1;have ec:B<w.heap.size:=(aR.1 hC.h).1;have cR:∀k,v.ownBlock=some k->k<w.heap.size:=λk h=>(hC.o.lt k h).2;have ef:R<w.heap.size:=(aR.1 hR).1;have av:Fr w (w.alloc (.cells #[.int .u8 0,.int .i64 0,.int .i64 0] 238)):=(Fr.refl w).alloc _;have bs:(w.alloc (.cells #[.int .u8 0,.int .i64 0,.int .i64 0] 238)).heap[w.heap.size]?=some (.cells #[.int .u8 0,.int .i64 0,.int .i64 0] 238 (0,0)):=aB _ _ _ rfl;have bu:=av.heap hR;have ku:=hC.fr av;have b8:=hH.fr av;have a0:w.heap.size≠B:=ω
 have bv:(Tryz.prog.info? 238).map (·.size)=some 3:=by kernel_rfl
 have V : Hid (∀ (W o : World) (t : aU), W.heap[w.heap.size]? = some (.cells #[.int .u8 0, .int .i64 0, .int .i64 0] 238 (0, 0)) → ai (fun b => b = B) w W → o = ((W.setCell ⟨w.heap.size, 0, none⟩ (.int .u8 (t.lit.toNat : Int))).setCell ⟨w.heap.size, 1, none⟩ (N t.len)).setCell ⟨w.heap.size, 2, none⟩ (N t.dist) →
     o.heap[w.heap.size]? = some (.cells #[.int .u8 (t.lit.toNat : Int), N t.len, N t.dist] 238 (0, 0)) ∧ ai (λb => b = B) w o ∧ ai (λb => b = w.heap.size) W o) := λW o t h hc e => by
  have I:=zY (.int .u8 (t.lit.toNat:Int)) (N t.len) (N t.dist) h
  rw[<- e]at I
  exact⟨I.1,hc.trans I.2 λi hi e=>by have e:i=w.heap.size:=e;omega,I.2⟩
 clear a4 hC hR hH hG hb;generalize eb m r D a=Q at *;go_in;go_upto_region 1 with fail;generalize w.alloc (.cells #[.int .u8 0,.int .i64 0,.int .i64 0] 238)=W0 at *;have bd:=ad (cs.out a b W0 ku ω);have c0:=ag bu 0 rfl;have cu:=ad ku;clear ku;by_cases I:z<a+b;·simp only[af I]at bd;have hQ:=KA.out I;subst hQ;clear KA KB KC KD bc HJ;go_wp2_with fail;apply bd.z;rintro e J ⟨rfl,b9,X⟩;have K:=X.heap bs a0;have bx:ai (λb=>b=B) w J:=(av.chg _).trans X λ_ _ h=>h;clear bs bu cu b8;have x0:=a8 K 0;have x1:=a8 K 1;have x2:=a8 K 2;have y0:=ag K 0 rfl;have y1:=ag K 1 rfl;have y2:=ag K 2 rfl;have L:=ad (λo=>V.out J o ⟨0,0,0⟩ K bx);clear V K;go_wp2_with fail;generalize M:((J.setCell ⟨w.heap.size,0,none⟩ (.int .u8 0)).setCell ⟨w.heap.size,1,none⟩ (.int .i64 0)).setCell ⟨w.heap.size,2,none⟩ (.int .i64 0)=o;obtain⟨ak,Y,_⟩:=L.out o M.symm;clear M L;refine bF (v:=.tuple #[.agg #[.int .u8 0,.int .i64 0,.int .i64 0],.int .i64 1]) (qK Tryz.results268 _ _ w.heap.size 238 _ (0,0) _ _ rfl rfl ak Tryz.underlying238 rfl bv) rfl ?_;exact⟨rfl,Y⟩
 ·simp only[ae I]at bd;have hx:=b7.out a b;generalize aF m r (a+b)=G at *;obtain⟨s,U,e2⟩:=G;simp only[Bk]at bc;obtain⟨CV,cb⟩:∃CV,CV=(if e2=0 then N s else .int .i64 (-1)):=⟨_,rfl⟩;rw[<- cb]at bc;have dc:Hid (e2=0->CV=N s):=λh=>(by rw[cb,af h]);clear cb;go_wp2_with fail;apply bd.z;rintro e J ⟨rfl,b9,X⟩;have K:=X.heap bs a0;have bk:=X.heap bu hRB;have c1:=b8.rd hB X;have bx:ai (λb=>b=B) w J:=(av.chg _).trans X λ_ _ h=>h;have c3:=ad (bc.out J.drew (c1.fr (Fr.refl J).drew) (b9.fr (Fr.refl J).drew));have c4:J.drew.heap[R]?=some (.cells #[.pointer (some ⟨B,0,none⟩),s1,.pointer (some ⟨gf,0,none⟩)] 364 (0,0)):=bk;have d0:=ag bk 0 rfl;have d2:=ag bk 2 rfl;clear bd cu b8 bu bs b9 X c0 bc c1 av;go_upto_region 4 with fail;go_cut [8,7]from 24 to 35 (λcv ev wx=>cv=CV/\ev=.int .i64 (e2:Int)/\eC wx B bb v r z U/\ai (λb=>b=B) J wx)
  case first=>
   go_region_held3 (λW => W.cell? ⟨R, 0, none⟩ = some (.pointer (some ⟨B, 0, none⟩)) ∧ W.cell? ⟨R, 2, none⟩ = some (.pointer (some ⟨gf, 0, none⟩)))
    (first | go_keep)
    ((first
      | (go_at_call 267; refine c3.out.mono ?_; rintro e w3 ⟨rfl, a3, Z⟩; have g0 : w3.cell? ⟨R, 0, none⟩ = some (.pointer (some ⟨B, 0, none⟩)) := aK (Z.heap c4 hRB) 0; have g2 : w3.cell? ⟨R, 2, none⟩ = some (.pointer (some ⟨gf, 0, none⟩)) := aK (Z.heap c4 hRB) 2)))
   all_goals go_wp2_with fail
   all_goals go_meet
   all_goals exact⟨rfl,rfl,a3,((Fr.refl J).drew.chg _).trans Z λ_ _ h=>h⟩
  case rest=>
   obtain⟨rfl,rfl,a3,Z⟩:=hcut;have F:=Z.heap K a0;have c7:=Z.heap bk hRB;have cc:ai (λb=>b=B) w wc:=bx.trans Z λ_ _ h=>h;have f0:=ag c7 0 rfl;clear K bk d0 d2 Z bx c3 c7;by_cases he:e2=0
   ·subst he;obtain rfl:=dc.out rfl;have c8:s<m.length:=cG.out rfl;rw[cN.out]at c8;have b1:=ad (cs.out U s wc a3 ω);by_cases h4:z<U+s;·simp only[af h4]at b1;have hQ:=KC.out I rfl h4;subst hQ;clear KA KB KC KD HJ a3;go_wp2_with fail;apply b1.z;rintro e w4 ⟨rfl,cj,bl⟩;have O:=bl.heap F a0;have ck:=cc.trans bl λ_ _ h=>h;clear F;have x0:=a8 O 0;have x1:=a8 O 1;have x2:=a8 O 2;have y0:=ag O 0 rfl;have y1:=ag O 1 rfl;have y2:=ag O 2 rfl;have L:=ad (λo=>V.out w4 o ⟨0,0,0⟩ O ck);clear V O;go_wp2_with fail;generalize M:((w4.setCell ⟨w.heap.size,0,none⟩ (.int .u8 0)).setCell ⟨w.heap.size,1,none⟩ (.int .i64 0)).setCell ⟨w.heap.size,2,none⟩ (.int .i64 0)=o;obtain⟨ak,Y,cl⟩:=L.out o M.symm;clear M L;refine bF (v:=.tuple #[.agg #[.int .u8 0,.int .i64 0,.int .i64 0],.int .i64 1]) (qK Tryz.results268 _ _ w.heap.size 238 _ (0,0) _ _ rfl rfl ak Tryz.underlying238 rfl bv) rfl ?_;exact⟨rfl,Y⟩
    ·simp only[ae h4]at b1;have hQ:=KD.out I rfl h4;have hy:=b7.out U s;have cB:=ad (λW=>HJ.out (Fk.aI r U s) s W c8 hx hy);have p1:(2:Nat)^b<=2^7:=fp ω ω;have p2:(2:Nat)^s<=2^12:=fp ω ω;have e0:IntKind.i64.wrap ((Fk.aI r a b:Nat):Int)=((Fk.aI r a b:Nat):Int):=ax _ ω;have e1:IntKind.i64.wrap ((Fk.aI r U s:Nat):Int)=((Fk.aI r U s:Nat):Int):=ax _ ω;have HQ:=ad (And.intro hQ trivial);clear KA KB KC KD HJ a3 hx hy p1 p2 b7 hQ;generalize Fk.aI r a b=x,Fk.aI r U s=y,2+2^b+Fk.aI r a b=L1,2^s+Fk.aI r U s=L2 at *;go_wp2_with fail;apply b1.z;rintro e w4 ⟨rfl,cj,bl⟩;have O:=bl.heap F a0;have ck:=cc.trans bl λ_ _ h=>h;have d3:=ad (cB.out w4);clear F cB;go_wp2_with fail;apply d3.z;rintro e w5 ⟨rfl,cn⟩;have aa:=cn.heap O;have cF:=cj.fr cn;have d4:=ck.trans (cn.chg (λb=>b=B)) λ_ _ h=>h;clear O cj;have x0:=a8 aa 0;have x1:=a8 aa 1;have x2:=a8 aa 2;have y0:=ag aa 0 rfl;have y1:=ag aa 1 rfl;have y2:=ag aa 2 rfl;have L:=ad (λo=>V.out w5 o ⟨0,L1,L2⟩ aa d4);clear V aa;have d5:=ad cF;clear cF;go_wp2_with fail;generalize M:((w5.setCell ⟨w.heap.size,0,none⟩ (.int .u8 0)).setCell ⟨w.heap.size,1,none⟩ (N L1)).setCell ⟨w.heap.size,2,none⟩ (N L2)=o;obtain⟨ak,Y,cl⟩:=L.out o M.symm;clear M L;refine bF (v:=.tuple #[.agg #[.int .u8 0,N L1,N L2],.int .i64 0]) (qK Tryz.results268 _ _ w.heap.size 238 _ (0,0) _ _ rfl rfl ak Tryz.underlying238 rfl bv) rfl ?_;have d6:=d5.out.chg cl (λe=>a0 e.symm) (λk hk e=>by have:=cR k hk;omega);rw[HQ.out.1];exact⟨rfl,Y,λ_=>d6⟩
   ·have hQ:=KB.out I he;have j1:¬(e2:Int)=0:=ω;subst hQ;clear KA KB KC KD HJ a3;have x0:=a8 F 0;have x1:=a8 F 1;have x2:=a8 F 2;have y0:=ag F 0 rfl;have y1:=ag F 1 rfl;have y2:=ag F 2 rfl;have L:=ad (λo=>V.out wc o ⟨0,0,0⟩ F cc);clear V F;go_wp2_with fail;generalize M:((wc.setCell ⟨w.heap.size,0,none⟩ (.int .u8 0)).setCell ⟨w.heap.size,1,none⟩ (.int .i64 0)).setCell ⟨w.heap.size,2,none⟩ (.int .i64 0)=o;obtain⟨ak,Y,cl⟩:=L.out o M.symm;clear M L;refine bF (v:=.tuple #[.agg #[.int .u8 0,.int .i64 0,.int .i64 0],.int .i64 (e2:Int)]) (qK Tryz.results268 _ _ w.heap.size 238 _ (0,0) _ _ rfl rfl ak Tryz.underlying238 rfl bv) rfl ?_;exact(by first | exact⟨rfl,Y,λh=>absurd h he⟩ | exact⟨rfl,Y⟩ | trace_state)
end Go.Proofs.YtndbpldeabnkbaaGreatDoor
namespace Go.Fk
def cd(d e r:Z0)(a:Nat):aU × Bool × Nat × Nat:=
 if (aF d r a).2.2 = 0 then
  (if (aF d r a).1 = 256 then (⟨0, 0, 0⟩, false, (aF d r a).2.1, 0)
   else if (aF d r a).1 < 256 then (⟨UInt8.ofNat (aF d r a).1, 0, 0⟩, true, (aF d r a).2.1, 0)
   else ((eb e r (aF d r a).1 (aF d r a).2.1).1, decide ((eb e r (aF d r a).1 (aF d r a).2.1).2.2 = 0), (eb e r (aF d r a).1 (aF d r a).2.1).2.1, (eb e r (aF d r a).1 (aF d r a).2.1).2.2))
 else(⟨0,0,0⟩,false,a,(aF d r a).2.2)
end Go.Fk
namespace Go.Proofs.YtndbpldeabnkbaaGreatDoor
open Go.RowKit Go.Fk
def xN(q:aU × Bool × Nat × Nat):Value:=.tuple #[nM q.1,.bool q.2.1,.int .i64 (q.2.2.2:Int)]
def uR{P:Program}{A:Func}{p q o:Tmp}{e:TypeId}(h:A.results=#[.cell p e,.tmp q,.tmp o])(tmps:Array Value)(w:World)(g:Nat)(t:TypeId)(m:Array Value)(D:Nat × Nat)(d:TypeDesc)(v z:Value)
  (hp:tmps.getD p undef=.pointer (some ⟨g,0,none⟩)) (hq:tmps.getD q undef=v) (hq2:tmps.getD o undef=z) (hg:w.heap[g]?=some (.cells m t D))
  (hu:P.underlying e=some d) (hd:(match d with | .struct _ | .array _ _=>true | _=>false)=true) (hi:(P.info? e).map (·.size)=some m.size) :
  (results A tmps).run P w=.ok (.tuple #[.agg m,v,z]) w:=by
 have F:tmps[p]?.getD undef=.pointer (some ⟨g,0,none⟩):=by simpa using hp
 have G:tmps[q]?.getD undef=v:=by simpa using hq
 have I:tmps[o]?.getD undef=z:=by simpa using hq2
 simp[results,h,F,G,I,asAddr,vY w g t e m D d hg hu hd hi]
def Wj(R B X Y a bs L bf gf:Nat)(v:Value)(cs cf:Nat->Value)(d D r:Z0)(w:World)(hR:w.heap[R]?=some (.cells #[.pointer (some ⟨B,0,none⟩),.pointer (some ⟨L,0,none⟩),.pointer (some ⟨gf,0,none⟩)] 364 (0,0)))(hC:eC w B X v r Y a)(hl:r.length<=1000000)
  (hS:ed w bs L d d.length cs) (hGs:vV 265 d) (hBs:B<bs) (hH:ed w bf gf D D.length cf) (hG:vV 12 D) (hB:B<bf) (hRB:R≠B) :
  Calls Tryz.prog 249 #[.pointer (some ⟨R,0,none⟩)] w λe w'=>e=.returned (xN (cd d D r a))/\ai (λb=>b=B) w w'/\((cd d D r a).2.2.2=0->eC w' B X v r Y (cd d D r a).2.2.1):=by
 have KA:Hid (¬(aF d r a).2.2=0->cd d D r a=(⟨0,0,0⟩,false,a,(aF d r a).2.2)):=λh=>by unfold cd;rw[ae h]
 have KB:Hid ((aF d r a).2.2=0->(aF d r a).1=256->cd d D r a=(⟨0,0,0⟩,false,(aF d r a).2.1,0)):=λh h2=>by unfold cd;rw[af h,af h2]
 have KC:Hid ((aF d r a).2.2=0->(aF d r a).1<256->cd d D r a=(⟨UInt8.ofNat (aF d r a).1,0,0⟩,true,(aF d r a).2.1,0)):=λh h2=>by unfold cd;rw[af h,ae ω,af h2]
 have KD:Hid ((aF d r a).2.2=0->257<=(aF d r a).1->cd d D r a=((eb D r (aF d r a).1 (aF d r a).2.1).1,decide ((eb D r (aF d r a).1 (aF d r a).2.1).2.2=0),(eb D r (aF d r a).1 (aF d r a).2.1).2.1,(eb D r (aF d r a).1 (aF d r a).2.1).2.2)):=λh h2=>by unfold cd;rw[af h,ae ω,ae ω]
 have cp:=ad (λh=>vC d r a h);have HL:Hid (d.length=265):=hGs.1;have ct:=ad (λW (h:ed W bs L d d.length cs) (hc:eC W B X v r Y a)=>JA d bs L B X Y a cs v r W h hc hl (by rw[hGs.1];omega) hGs.2.1 hGs.2.2);have bl:=ad (λcG a W (h:W.heap[R]?=some (.cells #[.pointer (some ⟨B,0,none⟩),.pointer (some ⟨L,0,none⟩),.pointer (some ⟨gf,0,none⟩)] 364 (0,0))) (hc:eC W B X v r Y a) (hh:ed W bf gf D D.length cf) h1 h2=>Wn R B X Y a cG bf gf _ v cf D r W h hc hl hh hG hB hRB h1 h2);have b1:∀k,v.ownBlock=some k->k<w.heap.size:=λk h=>(hC.o.lt k h).2;have d6:B<w.heap.size:=(aR.1 hC.h).1;have aj:Fr w (w.alloc (.cells #[.int .u8 0,.int .i64 0,.int .i64 0] 238)):=(Fr.refl w).alloc _;have cu:(w.alloc (.cells #[.int .u8 0,.int .i64 0,.int .i64 0] 238)).heap[w.heap.size]?=some (.cells #[.int .u8 0,.int .i64 0,.int .i64 0] 238 (0,0)):=aB _ _ _ rfl;have bm:=aj.heap hR;have c0:=hH.fr aj;have b2:=ad (ct.out (w.alloc (.cells #[.int .u8 0,.int .i64 0,.int .i64 0] 238)).drew (hS.fr aj.drew) (hC.fr aj.drew));have ak:w.heap.size≠B:=ω
 have bn:(Tryz.prog.info? 238).map (·.size)=some 3:=by kernel_rfl
 have HZ : Hid (∀ (W o : World) (t0 t1 t2 u0 u1 u2 : Value), W.heap[w.heap.size]? = some (.cells #[u0, u1, u2] 238 (0, 0)) → ai (fun b => b = B) w W → o = ((W.setCell ⟨w.heap.size, 0, none⟩ t0).setCell ⟨w.heap.size, 1, none⟩ t1).setCell ⟨w.heap.size, 2, none⟩ t2 →
     o.heap[w.heap.size]? = some (.cells #[t0, t1, t2] 238 (0, 0)) ∧ ai (λb => b = B) w o ∧ ai (λb => b = w.heap.size) W o) := λW o t0 t1 t2 u0 u1 u2 h hc e => by
  have hs:=zY t0 t1 t2 h
  rw[<- e]at hs
  exact⟨hs.1,hc.trans hs.2 λi hi e=>by have e:i=w.heap.size:=e;omega,hs.2⟩
 clear hC hR hH hS hG hGs ct;generalize aF d r a=G,cd d D r a=Q at *;obtain⟨s,a2,Z⟩:=G;simp only[Bk]at b2;obtain⟨CV,bR⟩:∃CV,CV=(if Z=0 then N s else .int .i64 (-1)):=⟨_,rfl⟩;rw[<- bR]at b2;have cR:Hid (Z=0->CV=N s):=λh=>by rw[bR,af h]
 clear bR;go_in;go_upto_region 1 with fail;generalize w.alloc (.cells #[.int .u8 0,.int .i64 0,.int .i64 0] 238)=W0 at *;have d0:=ag bm 0 rfl;have d1:=ag bm 1 rfl;have ca:W0.drew.heap[R]?=some (.cells #[.pointer (some ⟨B,0,none⟩),.pointer (some ⟨L,0,none⟩),.pointer (some ⟨gf,0,none⟩)] 364 (0,0)):=bm;go_cut [5,4]from 6 to 17 (λcv ev wx=>cv=CV/\ev=.int .i64 (Z:Int)/\eC wx B X v r Y a2/\ai (λb=>b=B) W0 wx)
 case first=>
  go_region_held3 (λW => W.cell? ⟨R, 0, none⟩ = some (.pointer (some ⟨B, 0, none⟩)) ∧ W.cell? ⟨R, 1, none⟩ = some (.pointer (some ⟨L, 0, none⟩)))
   (first | go_keep)
   ((first
     | (go_at_call 267; refine b2.out.mono ?_; rintro e w3 ⟨rfl, J, K⟩; have g0 : w3.cell? ⟨R, 0, none⟩ = some (.pointer (some ⟨B, 0, none⟩)) := aK (K.heap ca hRB) 0; have g1 : w3.cell? ⟨R, 1, none⟩ = some (.pointer (some ⟨L, 0, none⟩)) := aK (K.heap ca hRB) 1)))
  all_goals go_wp2_with fail
  all_goals go_meet
  all_goals exact⟨rfl,rfl,J,((Fr.refl W0).drew.chg _).trans K λ_ _ h=>h⟩
 case rest=>
  obtain⟨rfl,rfl,J,K⟩:=hcut;have m:=K.heap cu ak;have bu:=K.heap bm hRB;have bv:=c0.rd hB K;have b8:ai (λb=>b=B) w wc:=(aj.chg _).trans K λ_ _ h=>h;clear cu bm c0 K d0 d1 ca b2 aj;by_cases he:Z=0
  ·subst he;obtain rfl:=cR.out rfl;by_cases c7:s=256;·subst c7;have O:=ad (And.intro (KB.out rfl rfl) trivial);have cc:=ad J;clear KA KB KC KD bl J bu bv;have x0:=a8 m 0;have x1:=a8 m 1;have x2:=a8 m 2;have y0:=ag m 0 rfl;have y1:=ag m 1 rfl;have y2:=ag m 2 rfl;have F:=ad (λo=>HZ.out wc o (.int .u8 0) (.int .i64 0) (.int .i64 0) _ _ _ m b8);clear m;go_wp2_with fail;generalize I:((wc.setCell ⟨w.heap.size,0,none⟩ (.int .u8 0)).setCell ⟨w.heap.size,1,none⟩ (.int .i64 0)).setCell ⟨w.heap.size,2,none⟩ (.int .i64 0)=o;obtain⟨z,U,a7⟩:=F.out o I.symm;clear I F;refine bF (v:=.tuple #[.agg #[.int .u8 0,.int .i64 0,.int .i64 0],.bool false,.int .i64 0]) (uR Tryz.results249 _ _ w.heap.size 238 _ (0,0) _ _ _ rfl rfl rfl z Tryz.underlying238 rfl bn) rfl ?_;rw[O.out.1];exact⟨rfl,U,λ_=>cc.out.chg a7 (λe=>ak e.symm) (λk hk e=>by have:=b1 k hk;omega)⟩
   ·by_cases c8:s<256;·have O:=ad (And.intro (KC.out rfl c8) trivial);have cc:=ad J;have ef:IntKind.u8.wrap (s:Int)=(s:Int):=(by simp[IntKind.wrap,IntKind.bits,IntKind.signed];omega);have i1:¬(s:Int)=256:=ω;have i2:(s:Int)<256:=ω;have cA:(UInt8.ofNat s).toNat=s:=(by rw[jp];omega);have dv:Hid ((UInt8.ofNat s).toNat=s/\True):=⟨cA,trivial⟩;clear KA KB KC KD bl J bu bv cA;have x0:=a8 m 0;have x1:=a8 m 1;have x2:=a8 m 2;have y0:=ag m 0 rfl;have y1:=ag m 1 rfl;have y2:=ag m 2 rfl;have F:=ad (λo=>HZ.out wc o (.int .u8 (s:Int)) (.int .i64 0) (.int .i64 0) _ _ _ m b8);clear m;go_wp2_with fail;generalize I:((wc.setCell ⟨w.heap.size,0,none⟩ (.int .u8 (s:Int))).setCell ⟨w.heap.size,1,none⟩ (.int .i64 0)).setCell ⟨w.heap.size,2,none⟩ (.int .i64 0)=o;obtain⟨z,U,a7⟩:=F.out o I.symm;clear I F;refine bF (v:=.tuple #[.agg #[.int .u8 (s:Int),.int .i64 0,.int .i64 0],.bool true,.int .i64 0]) (uR Tryz.results249 _ _ w.heap.size 238 _ (0,0) _ _ _ rfl rfl rfl z Tryz.underlying238 rfl bn) rfl ?_;rw[O.out.1];unfold xN nM;rw[dv.out.1];exact⟨rfl,U,λ_=>cc.out.chg a7 (λe=>ak e.symm) (λk hk e=>by have:=b1 k hk;omega)⟩
    ·have d2:s<265:=(by have:=cp.out rfl;rw[HL.out]at this;exact this);have O:=ad (And.intro (KD.out rfl ω) trivial);have ch:=ad (bl.out s a2 wc bu J bv ω d2);have i1:¬(s:Int)=256:=ω;have i2:¬(s:Int)<256:=ω;clear KA KB KC KD bl J bu bv cp HL c8 c7;generalize eb D r s a2=M at *;obtain⟨t,a3,e3⟩:=M;simp only[Dh,nM]at ch;go_wp2_with fail;apply ch.z;rintro e w4 ⟨rfl,cB,cE⟩;have V:=cB.heap m ak;have d3:=b8.trans cB λ_ _ h=>h;have d4:=ad cE;clear m cE ch;have x0:=a8 V 0;have x1:=a8 V 1;have x2:=a8 V 2;have y0:=ag V 0 rfl;have y1:=ag V 1 rfl;have y2:=ag V 2 rfl;have F:=ad (λo=>HZ.out w4 o (.int .u8 (t.lit.toNat:Int)) (N t.len) (N t.dist) _ _ _ V d3);clear V;go_upto_region 7 with fail;generalize I:((w4.setCell ⟨w.heap.size,0,none⟩ (.int .u8 (t.lit.toNat:Int))).setCell ⟨w.heap.size,1,none⟩ (N t.len)).setCell ⟨w.heap.size,2,none⟩ (N t.dist)=o;obtain⟨z,U,a7⟩:=F.out o I.symm;clear I F;clear x0 x1 x2 y0 y1 y2;by_cases h3:e3=0;·subst h3;have x0:=a8 z 0;have x1:=a8 z 1;have x2:=a8 z 2;have y0:=ag z 0 rfl;have y1:=ag z 1 rfl;have y2:=ag z 2 rfl;have F:=ad (λab=>HZ.out o ab (.int .u8 (t.lit.toNat:Int)) (N t.len) (N t.dist) _ _ _ z U);clear z;go_wp2_with fail;generalize I:((o.setCell ⟨w.heap.size,0,none⟩ (.int .u8 (t.lit.toNat:Int))).setCell ⟨w.heap.size,1,none⟩ (N t.len)).setCell ⟨w.heap.size,2,none⟩ (N t.dist)=ab;obtain⟨ck,cl,cF⟩:=F.out ab I.symm;clear I F;refine bF (v:=.tuple #[.agg #[.int .u8 (t.lit.toNat:Int),N t.len,N t.dist],.bool true,.int .i64 0]) (uR Tryz.results249 _ _ w.heap.size 238 _ (0,0) _ _ _ rfl rfl rfl ck Tryz.underlying238 rfl bn) rfl ?_;rw[O.out.1];exact⟨rfl,cl,λ_=>((d4.out (by first | rfl | trivial)).chg a7 (λe=>ak e.symm) (λk hk e=>by have:=b1 k hk;omega)).chg cF (λe=>ak e.symm) (λk hk e=>by have:=b1 k hk;omega)⟩
     ·have j3:¬(e3:Int)=0:=ω;have j4:((e3:Int) == 0)=false:=(by simpa using j3);have x0:=a8 z 0;have x1:=a8 z 1;have x2:=a8 z 2;have y0:=ag z 0 rfl;have y1:=ag z 1 rfl;have y2:=ag z 2 rfl;have F:=ad (λab=>HZ.out o ab (.int .u8 (t.lit.toNat:Int)) (N t.len) (N t.dist) _ _ _ z U);clear z;go_wp2_with fail;generalize I:((o.setCell ⟨w.heap.size,0,none⟩ (.int .u8 (t.lit.toNat:Int))).setCell ⟨w.heap.size,1,none⟩ (N t.len)).setCell ⟨w.heap.size,2,none⟩ (N t.dist)=ab;obtain⟨ck,cl,cF⟩:=F.out ab I.symm;clear I F;refine bF (v:=.tuple #[.agg #[.int .u8 (t.lit.toNat:Int),N t.len,N t.dist],.bool false,.int .i64 (e3:Int)]) (uR Tryz.results249 _ _ w.heap.size 238 _ (0,0) _ _ _ rfl rfl rfl ck Tryz.underlying238 rfl bn) rfl ?_;rw[O.out.1];refine⟨?_,cl,λh=>absurd h h3⟩;unfold xN;simp only[br h3]
  ·have O:=ad (And.intro (KA.out he) trivial);have j1:¬(Z:Int)=0:=ω;have j2:((Z:Int) != 0)=true:=bne_iff_ne.2 ω;clear KA KB KC KD bl J bu bv;have x0:=a8 m 0;have x1:=a8 m 1;have x2:=a8 m 2;have y0:=ag m 0 rfl;have y1:=ag m 1 rfl;have y2:=ag m 2 rfl;have F:=ad (λo=>HZ.out wc o (.int .u8 0) (.int .i64 0) (.int .i64 0) _ _ _ m b8);clear m;go_wp2_with fail;generalize I:((wc.setCell ⟨w.heap.size,0,none⟩ (.int .u8 0)).setCell ⟨w.heap.size,1,none⟩ (.int .i64 0)).setCell ⟨w.heap.size,2,none⟩ (.int .i64 0)=o;obtain⟨z,U,a7⟩:=F.out o I.symm;clear I F;refine bF (v:=.tuple #[.agg #[.int .u8 0,.int .i64 0,.int .i64 0],.bool false,.int .i64 (Z:Int)]) (uR Tryz.results249 _ _ w.heap.size 238 _ (0,0) _ _ _ rfl rfl rfl z Tryz.underlying238 rfl bn) rfl ?_;rw[O.out.1];exact⟨rfl,U,λh=>absurd h he⟩
end Go.Proofs.YtndbpldeabnkbaaGreatDoor
namespace Go.Fk
def GH(d r:Z0)(a:Nat)(h:(aF d r a).2.2=0):a+1<=(aF d r a).2.1:=by
 unfold aF at h ⊢;cases e:nZ d (aI r a 15) (gw r a)with
 | some s=>have:=((rT _ _ _ _).1 (List.find?_some e)).1;simp only;omega
 | none=>rw[e]at h;simp at h;split at h <;> cases h
def Qh(d r:Z0)(s a:Nat)(h:(eb d r s a).2.2=0):a<=(eb d r s a).2.1:=by
 unfold eb at h ⊢;by_cases m:8*r.length<a+(s-257);·rw[af m];exact al _
 ·rw[ae m]at h ⊢;by_cases e:(aF d r (a+(s-257))).2.2=0
  ·have:=GH d r _ e;rw[af e]at h ⊢;by_cases o:8*r.length<(aF d r (a+(s-257))).2.1+(aF d r (a+(s-257))).1;·rw[af o];exact al _
   ·rw[ae o];simp only;omega
  ·rw[ae e];exact al _
def L0(d m r:Z0)(a:Nat)(h:(cd d m r a).2.2.2=0):a+1<=(cd d m r a).2.2.1:=by
 unfold cd at h ⊢;by_cases e:(aF d r a).2.2=0
 ·have o:=GH d r a e;rw[af e]at h ⊢;by_cases z:(aF d r a).1=256;·rw[af z];exact o
  ·rw[ae z]at h ⊢;by_cases A:(aF d r a).1<256;·rw[af A];exact o
   ·rw[ae A]at h ⊢;exact ay o (Qh m r _ _ h)
 ·rw[ae e]at h;exact absurd h e
def L4(d h r:Z0)(a:Nat)(A:d.length=265)(_:(cd d h r a).2.2.2=0):(cd d h r a).1.len<=1000:=by
 unfold cd;by_cases e:(aF d r a).2.2=0
 ·have D:=vC d r a e;rw[af e];by_cases m:(aF d r a).1=256;·rw[af m];exact ar _
  ·rw[ae m];by_cases o:(aF d r a).1<256;·rw[af o];exact ar _
   ·rw[ae o];generalize (aF d r a).1=s,(aF d r a).2.1=z at *;simp only;unfold eb;have p1:(2:Nat)^(s-257)<=2^7:=fp ω ω;have p2:=pS r z (s-257);split;·exact ar _
    ·split
     ·split;·exact ar _
      ·simp only;omega
     ·exact ar _
 ·rw[ae e];exact ar _
def sX(d e r:Z0)(f most a:Nat)(h:List aU):gF d e r (f+1) most a h =
  if (cd d e r a).2.2.2 = 0 then (if (cd d e r a).2.1 = true then (if most < db (cd d e r a).1 then ([], a, 6) else gF d e r f (most - db (cd d e r a).1) (cd d e r a).2.2.1 (h ++ [(cd d e r a).1]))
    else (h, (cd d e r a).2.2.1, 0)) else ([], a, (cd d e r a).2.2.2) := by
 rw[gF];unfold cd;by_cases o:(aF d r a).2.2=0
 ·simp only[af o];by_cases z:(aF d r a).1=256;·simp only[af z];simp
  ·simp only[ae z];by_cases A:(aF d r a).1<256;·simp only[af A,db];simp
   ·simp only[ae A];by_cases m:(eb e r (aF d r a).1 (aF d r a).2.1).2.2=0;·simp only[af m,bp m];simp
    ·simp only[ae m]
 ·simp only[ae o]
def L9(d e r:Z0)(f most a:Nat)(m:List aU)(h:¬(cd d e r a).2.2.2=0):gF d e r (f+1) most a m=([],a,(cd d e r a).2.2.2):=by rw[sX,ae h]
def LA(d e r:Z0)(f most a:Nat)(m:List aU)(h:(cd d e r a).2.2.2=0)(o:(cd d e r a).2.1=false):gF d e r (f+1) most a m=(m,(cd d e r a).2.2.1,0):=by rw[sX,af h,ae (by rw[o];simp)]
def L8(d e r:Z0)(f most a:Nat)(m:List aU)(h:(cd d e r a).2.2.2=0)(o:(cd d e r a).2.1=true)(z:most<db (cd d e r a).1):gF d e r (f+1) most a m=([],a,6):=by rw[sX,af h,af o,af z]
def L6(d e r:Z0)(f most a:Nat)(m:List aU)(h:(cd d e r a).2.2.2=0)(o:(cd d e r a).2.1=true)(z:¬most<db (cd d e r a).1):gF d e r (f+1) most a m=gF d e r f (most-db (cd d e r a).1) (cd d e r a).2.2.1 (m++[(cd d e r a).1]):=by rw[sX,af h,af o,ae z]
end Go.Fk
namespace Go.Proofs.YtndbpldeabnkbaaGreatDoor
open Go.RowKit Go.Fk
def XW(v:Value)(l:Z0)(w:World)(d:ah w eB v l)(A:l.length<=1000000):Calls Tryz.prog 243 #[v] w λe w'=>∃B u,e=.returned (.pointer (some ⟨B,0,none⟩))/\eC w' B w.heap.size u l (8*l.length) 0/\Fr w w'/\w.heap.size<=B:=by
 have D:=ad (lE v l w d A);obtain⟨F,G,rfl,_⟩:=d.shape;clear d;go_in;go_wp2_with fail;apply D.z;rintro e h ⟨u,rfl,m,o⟩;obtain⟨p,z,rfl⟩:=m.shape';go_wp2;go_ret;exact⟨h.heap.size,_,rfl,⟨by rw[aB _ _ _ rfl];simp,m.fr ((Fr.refl h).alloc _),rfl,ar _⟩,o.alloc _,o.size⟩
open Go.RowKit Go.Fk
def Wk(v0:Value)(b:Z0)(most:Nat)(w:World)(hs:ah w eB v0 b)(hl:b.length<=1000000)(hm:most<=1000000):Calls Tryz.prog 217 #[v0,N most] w λe w'=>∃u,e=.returned (.tuple #[u,.int .i64 ((fA b most).2:Int)])/\Ow w' w.heap.size kS u (fA b most).1/\Fr w w':=by
 have HN:=ad (XW v0 b w hs hl);have K1:Hid (¬(bI b 265 0).2.2=0->fA b most=([],(bI b 265 0).2.2)):=λh=>by unfold fA oC;rw[ae h]
 have K2:Hid ((bI b 265 0).2.2=0->¬(bI b 12 (bI b 265 0).2.1).2.2=0->fA b most=([],(bI b 12 (bI b 265 0).2.1).2.2)):=λh Q=>by unfold fA oD oC;rw[af h,ae Q]
 have K3:Hid ((bI b 265 0).2.2=0->(bI b 12 (bI b 265 0).2.1).2.2=0->fA b most=if(gF (bI b 265 0).1 (bI b 12 (bI b 265 0).2.1).1 b (8*b.length+1) most (bI b 12 (bI b 265 0).2.1).2.1 []).2.2=0 then(if nR b (gF (bI b 265 0).1 (bI b 12 (bI b 265 0).2.1).1 b (8*b.length+1) most (bI b 12 (bI b 265 0).2.1).2.1 []).2.1 then((gF (bI b 265 0).1 (bI b 12 (bI b 265 0).2.1).1 b (8*b.length+1) most (bI b 12 (bI b 265 0).2.1).2.1 []).1,0)else([],2))else([],(gF (bI b 265 0).1 (bI b 12 (bI b 265 0).2.1).1 b (8*b.length+1) most (bI b 12 (bI b 265 0).2.1).2.1 []).2.2)):=λh Q=>by unfold fA pH oD oC;rw[af h,af Q]
 have cL:=ad (λR B bb n8 s1 s2 v W h1 Q=>Jl R B bb n8 0 265 s1 s2 v b W h1 Q hl ω);have dc:=ad (λR B bb n8 a s1 s2 v W h1 Q=>Jl R B bb n8 a 12 s1 s2 v b W h1 Q hl ω);obtain⟨a0,hv,rfl,_⟩:=hs.shape;clear hs;generalize bI b 265 0=S at *;obtain⟨A,sa,se⟩:=S;simp only at K1 K2 K3 cL;go_in;go_wp2_with fail;apply HN.z;rintro e O ⟨B,v,rfl,cc,e3,ge⟩;have e4:B<O.heap.size:=(aR.1 cc.h).1;have ch:∀k,v.ownBlock=some k->k<O.heap.size:=λk h=>(cc.o.lt k h).2;have di:Fr O (O.alloc (.cells #[.pointer (some ⟨B,0,none⟩),.pointer none,.pointer none] 364)):=(Fr.refl O).alloc _;have aa:(O.alloc (.cells #[.pointer (some ⟨B,0,none⟩),.pointer none,.pointer none] 364)).heap[O.heap.size]?=some (.cells #[.pointer (some ⟨B,0,none⟩),.pointer none,.pointer none] 364 (0,0)):=aB _ _ _ rfl;have dj:=cc.fr di;have U:O.heap.size≠B:=ω
 have cj:=e3.trans di;clear cc HN e3;go_upto_region 4 with fail;generalize O.alloc (.cells #[.pointer (some ⟨B,0,none⟩),.pointer none,.pointer none] 364)=W2 at *;obtain⟨R,ds⟩:∃R,R=O.heap.size:=⟨_,rfl⟩;rw[<- ds]at aa U ch ⊢;have hw:w.heap.size<=R:=by rw[ds];exact ay ge (Nat.le_of_lt e4)
 have dv:R<W2.heap.size:=(aR.1 aa).1;have e5:B<W2.heap.size:=(aR.1 dj.h).1;clear ds e4 di;have d0:=ad (cL.out R B w.heap.size _ _ _ v W2 aa dj);clear cL dj;go_wp2_with fail;apply d0.z;rintro e K ⟨ab,⟨d1,rfl⟩ | ⟨h0,o,cs,bs,rfl,d2,hS,e6,e7⟩⟩;·have V:=ab.heap aa U;have y1:=ag V 1 rfl;have x1:=a8 V 1;have b1:Fr w K:=ai.below cj ab cj.size (λi e=>by have e:i=B:=e;omega);have a2:Fr w (K.setCell ⟨R,1,none⟩ (.pointer none)):=ai.below b1 (a9 K ⟨R,1,none⟩ (.pointer none)) b1.size (λi e=>by have e:i=R:=e;omega);have hQ:=ad (K1.out d1);have j1:((se:Int) != 0)=true:=bne_iff_ne.2 ω;have j2:¬(se:Int)=0:=ω;clear K1 K2 K3 dc d0 aa V ab;go_wp2;go_ret2;rw[hQ.out];exact⟨_,rfl,Ow.nil,a2⟩
 ·have V:=ab.heap aa U;have y1:=ag V 1 rfl;have x1:=a8 V 1;have b1:Fr w K:=ai.below cj ab cj.size (λi e=>by have e:i=B:=e;omega);have a2:Fr w (K.setCell ⟨R,1,none⟩ (.pointer (some ⟨o,0,none⟩))):=ai.below b1 (a9 K ⟨R,1,none⟩ (.pointer (some ⟨o,0,none⟩))) b1.size (λi e=>by have e:i=R:=e;omega);have b2:(K.setCell ⟨R,1,none⟩ (.pointer (some ⟨o,0,none⟩))).heap[R]?=some (.cells #[.pointer (some ⟨B,0,none⟩),.pointer (some ⟨o,0,none⟩),.pointer none] 364 (0,0)):=aJ V 1 (.pointer (some ⟨o,0,none⟩));have fb:=e6.chg (a9 K ⟨R,1,none⟩ (.pointer (some ⟨o,0,none⟩))) (λe=>U e.symm) (λk d e=>by have:=ch k d;have e:k=R:=e;omega);have d3:=hS.rd (nJ dv d2) (a9 K ⟨R,1,none⟩ (.pointer (some ⟨o,0,none⟩)));have cm:=ad (K2.out h0);have cn:=ad (K3.out h0);have d4:B<bs:=nJ e5 d2;have gg:Hid (W2.heap.size<=(K.setCell ⟨R,1,none⟩ (.pointer (some ⟨o,0,none⟩))).heap.size):=ay ab.size (a9 K ⟨R,1,none⟩ (.pointer (some ⟨o,0,none⟩))).size;subst h0;clear K1 K2 K3 d0 aa V ab e6 hS;go_upto_region 7 with fail;clear y1 x1;generalize K.setCell ⟨R,1,none⟩ (.pointer (some ⟨o,0,none⟩))=W4 at *;have d5:=ad (dc.out R B w.heap.size _ sa _ _ v W4 b2 fb);generalize bI b 12 sa=F at *;obtain⟨D,fa,fe⟩:=F;simp only at cm cn;clear dc fb;go_wp2_with fail;apply d5.z;rintro e X ⟨ac,⟨d1,rfl⟩ | ⟨h0,gf,cf,bf,rfl,fk,hH,fl,gi⟩⟩;·have Y:=ac.heap b2 U;have y2:=ag Y 2 rfl;have x2:=a8 Y 2;have b3:Fr w X:=ai.below a2 ac a2.size (λi e=>by have e:i=B:=e;omega);have b4:Fr w (X.setCell ⟨R,2,none⟩ (.pointer none)):=ai.below b3 (a9 X ⟨R,2,none⟩ (.pointer none)) b3.size (λi e=>by have e:i=R:=e;omega);have hQ:=ad (cm.out d1);have j1:((fe:Int) != 0)=true:=bne_iff_ne.2 ω;have j2:¬(fe:Int)=0:=ω;clear cm cn d5 b2 Y ac d3;go_wp2;go_ret2;rw[hQ.out];exact⟨_,rfl,Ow.nil,b4⟩
  ·have Y:=ac.heap b2 U;have fm:W2.heap.size<=W4.heap.size:=gg.out;have g1:R<bf:=nJ dv (ay fm fk);have fn:B<bf:=nJ e5 (ay fm fk);have y2:=ag Y 2 rfl;have x2:=a8 Y 2;have b5:=a9 X ⟨R,2,none⟩ (.pointer (some ⟨gf,0,none⟩));have b3:Fr w X:=ai.below a2 ac a2.size (λi e=>by have e:i=B:=e;omega);have b4:Fr w (X.setCell ⟨R,2,none⟩ (.pointer (some ⟨gf,0,none⟩))):=ai.below b3 b5 b3.size (λi e=>by have e:i=R:=e;omega);have d6:(X.setCell ⟨R,2,none⟩ (.pointer (some ⟨gf,0,none⟩))).heap[R]?=some (.cells #[.pointer (some ⟨B,0,none⟩),.pointer (some ⟨o,0,none⟩),.pointer (some ⟨gf,0,none⟩)] 364 (0,0)):=aJ Y 2 (.pointer (some ⟨gf,0,none⟩));have ct:=fl.chg b5 (λe=>U e.symm) (λk d e=>by have:=ch k d;have e:k=R:=e;omega);have a5:=(d3.rd d4 ac).rd (nJ dv d2) b5;have a6:=hH.rd g1 b5;have hQ:=ad (cn.out h0);subst h0;clear cm cn d5 b2 Y ac d3 fl hH b5;have fr:=ad (L9 A D b);have fs:=ad (LA A D b);have fv:=ad (L8 A D b);have f0:=ad (L6 A D b);have HP:=ad (L0 A D b);have b6:=ad (λa W h=>Xc B w.heap.size (8*b.length) a b W h hl);have b7:=ad (λa W h1 Q h3 h4=>Wj R B w.heap.size (8*b.length) a bs o bf gf v cs cf A D b W h1 Q hl h3 e7 d4 h4 gi fn U);go_wp2_with fail;generalize X.setCell ⟨R,2,none⟩ (.pointer (some ⟨gf,0,none⟩))=W6 at *;obtain⟨J,Z⟩:∃J,J=W6.heap.size:=⟨_,rfl⟩;have f3:w.heap.size<=J:=by rw[Z];exact b4.size
   have cu : Hid (∀ W W' a (G : Nat → Prop), ai G W W' → (∀ k, G k → J ≤ k) → eC W B w.heap.size v b (8 * b.length) a → ed W bs o A A.length cs → ed W bf gf D D.length cf → W.heap[R]? = some (.cells #[.pointer (some ⟨B, 0, none⟩), .pointer (some ⟨o, 0, none⟩), .pointer (some ⟨gf, 0, none⟩)] 364 (0, 0)) →
       eC W' B w.heap.size v b (8 * b.length) a ∧ ed W' bs o A A.length cs ∧ ed W' bf gf D D.length cf ∧ W'.heap[R]? = some (.cells #[.pointer (some ⟨B, 0, none⟩), .pointer (some ⟨o, 0, none⟩), .pointer (some ⟨gf, 0, none⟩)] 364 (0, 0))) := by
    intro W W' a G hc L c1 c2 c3 c4
    have q1:R<J:=by rw[Z];exact(aR.1 d6).1
    have q2:B<J:=by rw[Z];exact(aR.1 ct.h).1
    have q3:o<J:=by rw[Z];exact a5.arr.lt
    have q4:gf<J:=by rw[Z];exact a6.arr.lt
    refine ⟨c1.chg hc (fun e => by have := L _ e; omega) (fun k d e => by have := L _ e; have := ch k d; omega),
      c2.chg hc (λe => by have := L _ e; omega) (λk d e => by have := L _ e; have := (a5.own0.lt k d).2; omega) (λk d e => by have := L _ e; have := (a5.own1.lt k d).2; omega) (λl l1 l2 k d e => by have := L _ e; have := ((a5.syms l l1 l2).lt k d).2; omega),
      c3.chg hc (λe => by have := L _ e; omega) (λk d e => by have := L _ e; have := (a6.own0.lt k d).2; omega) (λk d e => by have := L _ e; have := (a6.own1.lt k d).2; omega) (λl l1 l2 k d e => by have := L _ e; have := ((a6.syms l l1 l2).lt k d).2; omega),
      hc.heap c4 (λe => by have := L _ e; omega)⟩
   have h6:B<J:=(by rw[Z];exact(aR.1 ct.h).1);have hI:gF A D b (8*b.length+1) most fa []=gF A D b (8*b.length+1) most fa []:=rfl;generalize f5:gF A D b (8*b.length+1) most fa []=G0 at *;have f6:=ad (And.intro f5 trivial);have f7:J<=W6.heap.size:=(by rw[Z];exact al _);clear f5 hI Z;go_loopw [1,4] (λmv ov wr=>∃(f m a:Nat) (M:List aU),mv=N m/\Hid (gF A D b f m a M=G0/\True)/\8*b.length+1<=f+a/\M.length+m<=most/\Ow wr J kS ov M/\eC wr B w.heap.size v b (8*b.length) a/\ed wr bs o A A.length cs/\ed wr bf gf D D.length cf/\wr.heap[R]?=some (.cells #[.pointer (some ⟨B,0,none⟩),.pointer (some ⟨o,0,none⟩),.pointer (some ⟨gf,0,none⟩)] 364 (0,0))/\Fr w wr/\J<=wr.heap.size) (λmv _ _=>(intOf mv).toNat);case atStart=>exact⟨8*b.length+1,most,fa,[],rfl,f6,ω,σ,Ow.nil,ct,a5,a6,d6,b4,f7⟩
   case round=>
    clear ct a5 a6 d6 b4 f7 f6;obtain⟨f,m,a,M,rfl,HG,h7,h8,hO,hC,hS,hH,hR,hF,f9⟩:=hrel;have h9:=hC.le;obtain⟨f,rfl⟩:∃g,f=g+1:=⟨f-1,ω⟩;have HT:=ad (b7.out a wr hR hC hS hH);have E1:=ad (fr.out f m a M);have E2:=ad (fs.out f m a M);have E3:=ad (fv.out f m a M);have E4:=ad (f0.out f m a M);have fB:=ad (HP.out a);have fC:=ad (L4 A D b a e7.1);have HC:=ad hC;have HS:=ad hS;have HH:=ad hH;clear hC hS hH fr fs fv f0 HP;generalize cd A D b a=q at *;obtain⟨t,gO,a',er⟩:=q;simp only[xN,nM]at HT;simp only at E1 E2 E3 E4 fB fC;obtain⟨p,z,rfl⟩:=hO.shape';go_wp2_with fail;apply HT.z;rintro e I ⟨rfl,bl,eq⟩;have ak:Fr I (I.alloc (.cells #[.int .u8 (t.lit.toNat:Int),N t.len,N t.dist] 238)):=(Fr.refl I).alloc _;have es:(I.alloc (.cells #[.int .u8 (t.lit.toNat:Int),N t.len,N t.dist] 238)).heap[I.heap.size]?=some (.cells #[.int .u8 (t.lit.toNat:Int),N t.len,N t.dist] 238 (0,0)):=aB _ _ _ rfl;have ap:=(hO.chg bl (λk d e=>by have:=(hO.lt k d).1;have e:k=B:=e;omega)).fr ak;have b8:=ak.heap (bl.heap hR U);have b9:=(HS.out.rd d4 bl).fr ak;have bA:=(HH.out.rd fn bl).fr ak;have bm:Fr w (I.alloc (.cells #[.int .u8 (t.lit.toNat:Int),N t.len,N t.dist] 238)):=Fr.trans (show Fr w I from ai.below hF bl hF.size (λi e=>by have e:i=B:=e;omega)) ak;have fP:=ay (ay f9 bl.size) ak.size;clear HT HC HS HH hO hR hF f9;by_cases he:er=0
    ·subst he;have fQ:=eq (by first | rfl | trivial);have bB:=fQ.fr ak;clear eq fQ;go_upto_region 13 with fail
     cases gO with
     | false=>
      have bL:G0=(M,a',0):=HG.out.1.symm.trans (E2.out (by first | rfl | trivial) (by first | rfl | trivial));subst bL;have c8:=ad (b6.out a' _ bB.f);have c0:(I.alloc (.cells #[.int .u8 (t.lit.toNat:Int),N t.len,N t.dist] 238)).cell? ⟨R,0,none⟩=some (.pointer (some ⟨B,0,none⟩)):=(by rw[aK b8];rfl);have hb:=ad ap;have fS:=ad bm;clear E1 E2 E3 E4 b7 cu b6 b8 b9 bA bB ap bm;generalize I.alloc (.cells #[.int .u8 (t.lit.toNat:Int),N t.len,N t.dist] 238)=W8 at *;simp only[lF]at hQ
      cases hp:nR b a' with
      | true=>rw[hp]at c8 hQ;go_wp2_with fail;apply c8.z;rintro e w9 ⟨rfl,cB⟩;go_wp2;go_ret2;rw[hQ.out];exact⟨_,rfl,(hb.out.fr cB.fr).rebase f3,fS.out.trans cB.fr⟩
      | false=>rw[hp]at c8 hQ;go_wp2_with fail;apply c8.z;rintro e w9 ⟨rfl,cB⟩;go_wp2;go_ret2;rw[hQ.out];exact⟨_,rfl,Ow.nil,fS.out.trans cB.fr⟩
     | true=>
      have c1:(I.alloc (.cells #[.int .u8 (t.lit.toNat:Int),N t.len,N t.dist] 238)).cell? ⟨I.heap.size,1,none⟩=some (N t.len):=(by rw[aK es];rfl);have hA:t.len<=1000:=fC.out (by first | rfl | trivial);have c0:(I.alloc (.cells #[.int .u8 (t.lit.toNat:Int),N t.len,N t.dist] 238)).cell? ⟨I.heap.size,0,none⟩=some (.int .u8 (t.lit.toNat:Int)):=(by rw[aK es];rfl);have c2:(I.alloc (.cells #[.int .u8 (t.lit.toNat:Int),N t.len,N t.dist] 238)).cell? ⟨I.heap.size,2,none⟩=some (N t.dist):=(by rw[aK es];rfl);have bn:db t=max 1 t.len:=rfl;go_upto_region 15 with fail;generalize I.alloc (.cells #[.int .u8 (t.lit.toNat:Int),N t.len,N t.dist] 238)=W8 at *;by_cases bR:m<db t;·have bL:G0=([],a,6):=HG.out.1.symm.trans (E3.out (by first | rfl | trivial) (by first | rfl | trivial) bR);subst bL;have j1:(m:Int)-max 1 (t.len:Int)<0:=(by rw[bn]at bR;omega);rw[ae (show ¬(6:Nat)=0 by decide)]at hQ;clear E1 E2 E3 E4 b7 cu b6 b8 b9 bA ap HG bB bn;go_wp2;go_ret2;rw[hQ.out];exact⟨_,rfl,Ow.nil,bm⟩
      ·have hd:=ad (And.intro ((E4.out (by first | rfl | trivial) (by first | rfl | trivial) bR).symm.trans HG.out.1) trivial);have j1:¬(m:Int)-max 1 (t.len:Int)<0:=(by rw[bn]at bR;omega);have gc:(m:Int)-max 1 (t.len:Int)=((m-db t:Nat):Int):=(by rw[bn]at bR ⊢;omega);have hB:1<=db t:=(by rw[bn];omega);have hE:a+1<=a':=fB.out (by first | rfl | trivial);have hf:Hid (M.length+[t].length<=2147483648):=(by show _<=_;simp;omega);have hg:=ad bB;have hh:=ad b9;have hi:=ad bA;have hj:=ad gc;clear E1 E2 E3 E4 b7 b6 HG bB b9 bA bn gc;go_wp2_with (at_builtin;refine cW kS rfl (.tmp 57) (.tmp 59) 170 rfl Tryz.underlying170 J rfl ap [t] _ _ _ rfl rfl rfl hf.out fP ?_);intro v9 w9 cE;obtain⟨k1,k2,k3,k4⟩:=cu.out W8 w9 a' _ cE.chg' (λk d=>(ap.lt k d).1) hg.out hh.out hi.out b8;have hr:Fr w w9:=cE.below ap bm f3 bm.size;go_wp2;go_roundw;case rel=>exact⟨f,m-db t,a',M++[t],dp (Value.int .i64) hj.out,hd,ω,by simp;omega,cE.own,k1,k2,k3,k4,hr,ay fP cE.size⟩
       case measure=>exact μ
    ·have bL:G0=([],a,er):=HG.out.1.symm.trans (E1.out he);subst bL;have j1:((er:Int) != 0)=true:=bne_iff_ne.2 ω;have j2:¬(er:Int)=0:=ω;rw[ae he]at hQ;clear E1 E2 E3 E4 b7 cu b6 b8 b9 bA ap eq HG;go_wp2;go_ret2;rw[hQ.out];exact⟨_,rfl,Ow.nil,bm⟩
end Go.Proofs.YtndbpldeabnkbaaGreatDoor
namespace Go.Fk
def L3(h m r:Z0)(a:Nat)(K:h.length=265)(L:m.length=12)(e:(cd h m r a).2.2.2=0):ex (cd h m r a).1=true:=by
 unfold cd at e ⊢;by_cases z:(aF h r a).2.2=0
 ·have M:=vC h r a z;rw[af z]at e ⊢;by_cases D:(aF h r a).1=256;·rw[af D];rfl
  ·rw[ae D]at e ⊢;by_cases F:(aF h r a).1<256;·rw[af F];rfl
   ·rw[ae F]at e ⊢;generalize (aF h r a).1=s,(aF h r a).2.1=o at *;simp only at e ⊢;unfold eb at e ⊢;have p1:(2:Nat)^(s-257)<=2^7:=fp ω ω;have p0:0<(2:Nat)^(s-257):=Nat.pow_pos ω;have p2:=pS r o (s-257);by_cases G:8*r.length<o+(s-257);·rw[af G]at e;cases e
    ·rw[ae G]at e ⊢;by_cases A:(aF m r (o+(s-257))).2.2=0
     ·rw[af A]at e ⊢;have O:=vC m r _ A;generalize (aF m r (o+(s-257))).1=d,(aF m r (o+(s-257))).2.1=I at *;have p3:(2:Nat)^d<=2^11:=fp ω ω;have Q:0<(2:Nat)^d:=Nat.pow_pos ω;have R:=pS r I d;by_cases J:8*r.length<I+d;·rw[af J]at e;cases e
      ·rw[ae J];unfold ex;simp only;rw[ae ω];simp;omega
     ·rw[ae A]at e;exact absurd e A
 ·rw[ae z]at e;exact absurd e z
def L7(m o r:Z0)(z:m.length=265)(A:o.length=12):∀f most a e,(∀t∈e,ex t=true)->∀t∈(gF m o r f most a e).1,ex t=true:=by
 intro f
 induction f with
 | zero=>intro most a e h;exact h
 | succ f D=>
  intro most a e h;rw[sX];split
  ·rename_i F;split
   ·split;·intro t d;cases d
    ·refine D _ _ _ λt d=>(jD.1 d).elim (h t) λG=>?_;rw[ow.1 G];exact L3 m o r a z A F
   ·exact h
  ·intro t d;cases d
def OR(most:Nat)(l:List aU):∀d:Z0,d.length<=most->(eg most l d).1.length<=most:=by
 induction l with
 | nil=>intro d h;exact h
 | cons t l e=>
  intro d h;rw[eg];have m:db t=max 1 t.len:=rfl;split;·exact ar _
  ·split;·exact ar _
   ·split;·exact ar _
    ·rename_i o;split;·refine e _ ?_;rw[am,kH];omega
     ·refine e _ ?_;rw[H5];omega
def KP(n:Nat)(d:Z0):(qD n d).1.length<=n:=by
 unfold qD;split
 ·split
  ·split;·exact ar _
   ·exact OR n _ [] (ar _)
  ·exact ar _
 ·exact ar _
def LU(s:Cs)(l:Z0)(n:Nat):(s.take l n).1.length<=n:=by
 unfold Cs.take;split
 ·split;·exact ar _
  ·rw[aA];omega
 ·exact ar _
def QJ(r:Z0)(n:Nat):∀f a e m,e.length<=n->n<=e.length+f->(dP r n f a e m).2.2=0->(dP r n f a e m).1.length=n:=by
 intro f
 induction f with
 | zero=>intro a e m G I _;show e.length=n;omega
 | succ f z=>
  intro a e m G I d;rw[dP]at d ⊢;by_cases A:n<=e.length;·rw[af A];show e.length=n;omega
  ·rw[ae A]at d ⊢;by_cases c2:8*r.length<a+4;·rw[af c2]at d;cases d
   ·rw[ae c2]at d ⊢;by_cases D:0<aI r a 4;·rw[af D]at d ⊢;exact z _ _ _ (by rw[am,kH];omega) (by rw[am,kH];omega) d
    ·rw[ae D]at d ⊢;by_cases F:8*r.length<a+4+6;·rw[af F]at d;cases d
     ·rw[ae F]at d ⊢;by_cases o:m=true\/n-e.length<=aI r (a+4) 6;·rw[af o]at d;cases d
      ·rw[ae o]at d ⊢;have J:aI r (a+4) 6<n-e.length:=by
        rcases mV (aI r (a+4) 6) (n-e.length)with h | h;·exact h
        ·exact absurd (.inr h) o
       exact z _ _ _ (by rw[am,jX];omega) (by rw[am,jX];omega) d
def FS(r:Z0)(n a:Nat)(h:(bI r n a).2.2=0):(bI r n a).1.length=n:=by
 unfold bI at h ⊢;by_cases d:(dP r n n a [] false).2.2=0
 ·rw[af d]at h ⊢;by_cases c2:bX (dP r n n a [] false).1=true;·rw[af c2]at h ⊢;exact QJ r n n a [] false (ar _) σ d
  ·rw[ae c2]at h;cases h
 ·rw[ae d]at h;exact absurd h d
def L5(d e r:Z0):∀f most a h,(gF d e r f most a h).1.length<=h.length+most:=by
 intro f
 induction f with
 | zero=>intro most a h;exact uj _ _
 | succ f m=>
  intro most a h;rw[sX];split
  ·split
   ·split;·exact ar _
    ·rename_i z;have o:=m (most-db (cd d e r a).1) (cd d e r a).2.2.1 (h++[(cd d e r a).1]);have A:db (cd d e r a).1=max 1 (cd d e r a).1.len:=rfl;rw[am,kH]at o;omega
   ·exact uj _ _
  ·exact ar _
def Ly(r:Z0)(most:Nat):(fA r most).1.length<=most/\∀t∈(fA r most).1,ex t=true:=by
 unfold fA;split
 ·rename_i d;split
  ·rename_i e;split
   ·split;·have m:(pH r most).1.length<=0+most:=L5 (oC r).1 (oD r).1 r (8*r.length+1) most (oD r).2.1 [];refine⟨by show(pH r most).1.length<=most;omega,?_⟩;exact L7 _ _ r (FS r 265 0 d) (FS r 12 _ e) _ _ _ [] (λt h=>(iU h).elim)
    ·exact⟨ar _,λt h=>(iU h).elim⟩
   ·exact⟨ar _,λt h=>(iU h).elim⟩
  ·exact⟨ar _,λt h=>(iU h).elim⟩
 ·exact⟨ar _,λt h=>(iU h).elim⟩
end Go.Fk
namespace Go.Proofs.YtndbpldeabnkbaaGreatDoor
open Go.RowKit Go.Fk
def IH(b:Z0):(eM b).1.length<=32768:=by
 have d:(d8 b).1<=32768:=Cs.int_top _ _ _;have e:(em b).1<=32768:=Cs.int_top _ _ _;have h:(fj b).1.length<=(em b).1:=LU _ _ _;unfold eM;split
 ·split;·show(fj b).1.length<=_;omega
  ·exact ar _
 ·exact ay (KP _ _) d
def ID(b:Z0):(df b).1.length<=32768:=by
 unfold df;split
 ·split;·exact IH b
  ·exact ar _
 ·exact ar _
def Eh(r:aq):Prop:=r.source.length<=4000/\r.text.length<=4000
def Oc(m:Bool)(b:Z0):∀f s d,(∀r∈d,Eh r)->(kJ m b f s d).1.length<=d.length+f/\∀r∈(kJ m b f s d).1,Eh r:=by
 intro f
 induction f with
 | zero=>intro s d h;exact⟨al _,h⟩
 | succ f D=>
  intro s d h;rw[kJ];split;·exact⟨uj _ _,h⟩
  ·split;·rename_i F;have z:=EK m b s F;have A:=D (fF m b s).2 (d++[iO m b s]) (λr o=>(jD.1 o).elim (h r) λe=>by rw[ow.1 e];exact⟨z.2.2.1,z.2.2.2⟩);rw[am,kH]at A;exact⟨ω,A.2⟩
   ·exact⟨ar _,λr o=>(iU o).elim⟩
def EE(d:Bool)(b:Z0):(iN d b).1.length<=b.length:=by
 have h:(iN d b).1.length<=0+b.length:=(Oc d b b.length ⟨0,0⟩ [] (λr e=>(iU e).elim)).1;omega
end Go.Proofs.YtndbpldeabnkbaaGreatDoor
namespace Go.Fk
def OS(most:Nat)(t:aU)(l:List aU)(d:Z0)(h:ex t=true)(e:d.length<t.dist):eg most (t::l) d=([],8):=by rw[eg,ae (by rw[h];simp),af e]
def OQ(most:Nat)(t:aU)(l:List aU)(d:Z0)(h:ex t=true)(e:¬d.length<t.dist)(m:most<d.length+db t):eg most (t::l) d=([],6):=by rw[eg,ae (by rw[h];simp),ae e,af m]
def OP(most:Nat)(t:aU)(l:List aU)(d:Z0)(h:ex t=true)(e:¬d.length<t.dist)(m:¬most<d.length+db t)(o:t.len=0):eg most (t::l) d=eg most l (d++[t.lit]):=by rw[eg,ae (by rw[h];simp),ae e,ae m,af o]
def OT(most:Nat)(t:aU)(l:List aU)(d:Z0)(h:ex t=true)(e:¬d.length<t.dist)(m:¬most<d.length+db t)(o:¬t.len=0):eg most (t::l) d=eg most l (nD t.dist t.len d):=by rw[eg,ae (by rw[h];simp),ae e,ae m,ae o]
end Go.Fk
namespace Go.Proofs.YtndbpldeabnkbaaGreatDoor
open Go.RowKit Go.Fk
def Xq(v:Value)(l:List aU)(most:Nat)(w:World)(hs:ah w kS v l)(hm:∀t∈l,ex t=true)(hl:l.length<=1000000)(cG:most<=1000000):Calls Tryz.prog 218 #[v,N most] w λe w'=>∃u,e=.returned (.tuple #[u,.int .i64 ((eg most l []).2:Int)])/\Ow w' w.heap.size eB u (eg most l []).1/\Fr w w':=by
 have bT:=ad (λt W (h:ex t=true)=>J6 t W h);have ca:=ad (λk (hk:k<l.length)=>zN hs k hk);have HM:=ad (λk (hk:k<l.length)=>hm l[k] (bJ hk));obtain⟨a0,cN,rfl,_⟩:=hs.shape;clear hs hm;obtain⟨I,a4⟩:∃I,eg most l []=I:=⟨_,rfl⟩;have cc:=ad (And.intro a4 trivial);rw[a4];clear a4;go_in;go_wp2;go_loopw [13,6] (λkv ov wr=>∃(k:Nat) (m:Z0),k<=l.length/\kv=N k/\Hid (eg most (l.drop k) m=I/\True)/\m.length<=most/\Ow wr w.heap.size eB ov m/\Fr w wr) (λkv _ _=>l.length-(intOf kv).toNat);case atStart=>exact⟨0,[],ar _,rfl,cc,ar _,Ow.nil,Fr.refl _⟩
 case round=>
  obtain⟨k,m,hk,rfl,A,cR,Q,hF⟩:=hrel;obtain⟨p,z,rfl⟩:=Q.shape';by_cases a7:k<l.length
  ·obtain⟨b,cT,cp,cf,c0,c1,c2⟩:=ca.out k a7;cases cf;have F:=HM.out k a7;have b0:=ad (λW=>bT.out l[k] W F);have hD:l.drop k=l[k]::l.drop (k+1):=gE a7;rw[hD]at A;have R:=ad (OS most l[k] (l.drop (k+1)) m F);have U:=ad (OQ most l[k] (l.drop (k+1)) m F);have V:=ad (OP most l[k] (l.drop (k+1)) m F);have X:=ad (OT most l[k] (l.drop (k+1)) m F);have dc:l[k].len<=257:=by
    by_cases h0:l[k].len=0;·omega
    ·exact(qT l[k] F h0).2.2.1
   have b1:¬l[k].len=0->1<=l[k].dist:=λh0=>(qT l[k] F h0).2.2.2.1;clear hD F;generalize l[k]=t at *;have x0:=hF.cell c0;have x1:=hF.cell c1;have x2:=hF.cell c2;have i1:(k:Int)<l.length:=ω;have i2:(0:Int)<=k:=ω;have aj:Fr wr (wr.alloc (.cells #[.int .u8 (t.lit.toNat:Int),N t.len,N t.dist] 238)):=(Fr.refl wr).alloc _;have Y:(wr.alloc (.cells #[.int .u8 (t.lit.toNat:Int),N t.len,N t.dist] 238)).heap[wr.heap.size]?=some (.cells #[.int .u8 (t.lit.toNat:Int),N t.len,N t.dist] 238 (0,0)):=aB _ _ _ rfl;clear c0 c1 c2;go_upto_region 7 with fail;have b2:=ad (b0.out (wr.alloc (.cells #[.int .u8 (t.lit.toNat:Int),N t.len,N t.dist] 238)));have b4:=Q.fr aj;have b5:=hF.trans aj;have ds:=aj.size;clear Q hF x0 x1 x2 b0 aj;generalize wr.alloc (.cells #[.int .u8 (t.lit.toNat:Int),N t.len,N t.dist] 238)=W1 at *;have y0:=ag Y 0 rfl;have y1:=ag Y 1 rfl;have y2:=ag Y 2 rfl;go_wp2_with fail;apply b2.z;rintro e w2 ⟨rfl,J⟩;have Z:=J.heap Y;have K:=b4.fr J;have L:=b5.trans J;have z0:=J.cell y0;have z1:=J.cell y1;have z2:=J.cell y2;clear y0 y1 y2 Y b4 b5 b2;have G:db t=max 1 t.len:=rfl;by_cases g1:m.length<t.dist;·have aa:I=([],8):=A.out.1.symm.trans (R.out g1);subst aa;have j1:(m.length:Int)<t.dist:=ω;clear R U V X A K G;go_wp2;go_ret2;exact⟨_,rfl,Ow.nil,L⟩
   ·have j1:¬(m.length:Int)<t.dist:=ω;by_cases D:most<m.length+db t;·have aa:I=([],6):=A.out.1.symm.trans (U.out g1 D);subst aa;have j2:(most:Int)-m.length<max 1 (t.len:Int):=(by rw[G]at D;omega);clear R U V X A K G;go_wp2;go_ret2;exact⟨_,rfl,Ow.nil,L⟩
    ·have j2:¬(most:Int)-m.length<max 1 (t.len:Int):=(by rw[G]at D;omega);have bc:=L.size;by_cases g3:t.len=0
     ·have a1:=ad (And.intro ((V.out g1 D g3).symm.trans A.out.1) trivial);have cn:m.length+1<=most:=(by rw[G]at D;omega);have bd:Hid (m.length+[t.lit].length<=2147483648):=(by show _<=_;simp;omega);rw[g3]at z1 j2;clear R U V X A G D Z;go_wp2_with (at_builtin;refine cW eB rfl (.tmp 39) (.tmp 42) 30 rfl Tryz.underlying30 w.heap.size rfl K [t.lit] _ _ _ rfl rfl rfl bd.out bc ?_);intro v9 w9 M;have bk:Fr w w9:=M.below K L (al _) bc;go_wp2;go_roundw;case rel=>exact⟨k+1,m++[t.lit],ω,γ,a1,by simp;omega,M.own,bk⟩
      case measure=>exact μ
     ·have a1:=ad (And.intro ((X.out g1 D g3).symm.trans A.out.1) trivial);have d1:=b1 g3;have cn:m.length+t.len<=most:=(by rw[G]at D;omega);have j3:¬(t.len:Int)=0:=ω;have j4:((t.len:Int) == 0)=false:=(by simpa using j3);obtain⟨C,hC⟩:∃C,nD t.dist t.len m=C:=⟨_,rfl⟩;rw[hC]at a1;have HC:=ad (And.intro hC trivial);have d3:Hid (C.length=m.length+t.len):=(by show _=_;rw[<- hC];exact H5 t.dist t.len m);clear R U V X A G D z0 z1 z2 hC b1;generalize ct:wr.heap.size=g at *;have z1:=ag Z 1 rfl;have z2:=ag Z 2 rfl;clear ct;go_wp2;go_loopw [46,6] (λjv ov wx=>∃(j:Nat) (o:Z0),j<=t.len/\jv=N j/\Hid (nD t.dist (t.len-j) o=C/\True)/\o.length=m.length+j/\Ow wx w.heap.size eB ov o/\wx.heap[g]?=some (.cells #[.int .u8 (t.lit.toNat:Int),N t.len,N t.dist] 238 (0,0))/\Fr w wx) (λjv _ _=>t.len-(intOf jv).toNat);case atStart=>exact⟨0,m,ar _,rfl,HC,rfl,K,Z,L⟩
      case round=>
       clear K Z L bc z1 z2 HC;obtain⟨j,o,hj,rfl,a2,bA,O,bn,bs⟩:=hrel;obtain⟨p3,z3,rfl⟩:=O.shape';have y2:=ag bn 2 rfl;by_cases d6:j<t.len
       ·have ab:o.length-t.dist<o.length:=ω;obtain⟨b3,cv,dE,c5,c3⟩:=O.see.cell1 Fk.u8 rfl (o.length-t.dist) ab;cases c5;have c6:Hid (nD t.dist (t.len-(j+1)) (o++[o[o.length-t.dist]'ab])=C/\True):=(by refine⟨?_,trivial⟩;have h:=a2.out.1;rw[show t.len-j=(t.len-(j+1))+1 by omega,nD,bq,bj ab]at h;exact h);generalize o[o.length-t.dist]'ab=x at *;have i3:(j:Int)<t.len:=ω;obtain⟨d,hd⟩:∃d,d=o.length-t.dist:=⟨_,rfl⟩;have c4:wr.cell? ⟨b3,cv+d,none⟩=some (Fk.u8 x):=(by rw[hd];exact c3);have ec:wrap64 ((o.length:Int)-t.dist)=(d:Int):=(by rw[IntWalk.wrap64_in _ ω];omega);have i4:(d:Int)<o.length:=ω;have i5:(0:Int)<=(d:Int):=ω;have bd:Hid (o.length+[x].length<=2147483648):=(by show _<=_;simp;omega);have bR:=bs.size;have c8:=ad bA;clear a2 c3 hd bA ab;go_wp2_with (at_builtin;refine cW eB rfl (.tmp 48) (.tmp 57) 30 rfl Tryz.underlying30 w.heap.size rfl O [x] _ _ _ rfl rfl rfl bd.out bR ?_);intro v9 w9 M;have cA:=M.chg'.heap bn (O.ne_cells bn δ);have bk:Fr w w9:=M.below O bs (al _) bR;go_wp2;go_roundw;case rel=>exact⟨j+1,o++[x],ω,γ,c6,by have:=c8.out;simp;omega,M.own,cA,bk⟩
        case measure=>exact μ
       ·obtain rfl:j=t.len:=ω;have cB:o=C:=(by have:=a2.out.1;rw[fY]at this;exact this);subst cB;have i3:¬(t.len:Int)<t.len:=ω;clear a2;go_wp2;go_roundw;case rel=>exact⟨k+1,o,ω,γ,a1,ω,O,bs⟩
        case measure=>exact μ
  ·obtain rfl:k=l.length:=ω;have aa:I=(m,0):=(by have:=A.out.1;rw[nL]at this;exact this.symm);subst aa;have HO:=ad Q;clear A Q;go_wp2;go_ret2;exact⟨_,rfl,HO.out,hF⟩
open Go.RowKit Go.Fk
def V2(F B base:Nat)(u:Value)(b:Z0)(w:World)(hl:b.length<=1000000)(h0:¬(fy b).1=0)(G:w.heap[F]?=some (lU B (fy b).1 (d8 b).1 (em b).1 u))(Q:Ow w base eB u (fj b).1):Calls Tryz.prog 180 #[.pointer (some ⟨F,0,none⟩)] w λe w'=>∃x,e=.returned (.tuple #[x,.int .i64 ((eM b).2:Int)])/\ah w' eB x (eM b).1/\Fr w w':=by
 have hn:(d8 b).1<=32768:=Cs.int_top _ _ _;have aj:(fj b).1.length<=b.length:=Vq b;have o:Hid (eM b=qD (d8 b).1 (fj b).1):=by show _=_;unfold eM;rw[ae h0]
 have HS:=ad Q.see;have bk:¬(((fy b).1:Nat):Int)=0:=ω
 have HU:Hid (∀n d,qD n d=if(fA d n).2=0 then(if(eg n (fA d n).1 []).2=0 then(if(eg n (fA d n).1 []).1.length<n then([],2)else((eg n (fA d n).1 []).1,0))else([],(eg n (fA d n).1 []).2))else([],(fA d n).2)):=λ_ _=>rfl;have V:=ad (λW v (h:ah W eB v (fj b).1)=>Wk v (fj b).1 (d8 b).1 W h (ay aj hl) ω);have av:=Ly (fj b).1 (d8 b).1;have I:=ad (λW v (h:ah W kS v (fA (fj b).1 (d8 b).1).1)=>Xq v (fA (fj b).1 (d8 b).1).1 (d8 b).1 W h av.2 ω ω);obtain⟨pu,zu,rfl⟩:=Q.shape';rw[HU.out]at o;clear h0 Q HU av aj;generalize (fj b).1=U,(em b).1=xp,(d8 b).1=xn,(fy b).1=xw,eM b=R at *;generalize fA U xn=T at *;generalize eg xn T.1 []=L at *;obtain⟨tl,X⟩:=T;obtain⟨Y,le⟩:=L;simp only at o V I;have c1:=ag G 1 rfl;have c2:=ag G 2 rfl;have c4:=ag G 4 rfl;have a0:=ad (V.out w.drew _ HS.out.drew);clear V HS G;go_in;go_wp2_with fail
 go_region_held3 (λW => W.cell? ⟨F, 2, none⟩ = some (N xn) ∧ W.cell? ⟨F, 4, none⟩ = some (.slice pu U.length zu))
  (first | exact Z | go_keep)
  ((go_at_call 217;refine a0.out.mono ?_;rintro e w1 ⟨v1,rfl,J,z⟩;obtain⟨p1,z1,ba⟩:=J.shape';subst ba;have Z:=And.intro (z.cell (show w.drew.cell? _=_ from c2)) (z.cell (show w.drew.cell? _=_ from c4))))
 have d2:=Z.1;have z:Fr w w1:=(Fr.refl w).drew.trans z;clear a0 Z;by_cases K:X=0
 ·have A:=ad (o.out.trans (af K));have m:((X:Nat):Int)=0:=ω;rw[m];have a2:=ad (I.out w1 _ J.see);clear o I K m J;go_wp2_with fail;apply a2.z;rintro e w2 ⟨v2,rfl,M,a3⟩;obtain⟨p2,z2,rfl⟩:=M.shape';have d3:=a3.cell d2;have aa:=z.trans a3;clear a2;by_cases O:le=0
  ·have D:=ad (A.out.trans (af O));have m:((le:Nat):Int)=0:=ω;rw[m];have bc:=ad M;clear A O m M;by_cases h3:Y.length<xn;·have ab:=ad (D.out.trans (af h3));have i1:(Y.length:Int)<xn:=ω;clear D;go_wp2;go_ret2;rw[ab.out];exact⟨_,rfl,ah.nil,aa⟩
   ·have ab:=ad (D.out.trans (ae h3));have i1:¬(Y.length:Int)<xn:=ω;clear D;go_wp2;go_ret2;rw[ab.out];exact⟨_,rfl,bc.out.see,aa⟩
  ·have D:=ad (A.out.trans (ae O));have m:¬((le:Nat):Int)=0:=ω;clear A O M;go_wp2;go_ret2;rw[D.out];exact⟨_,rfl,ah.nil,aa⟩
 ·have A:=ad (o.out.trans (ae K));have m:¬((X:Nat):Int)=0:=ω;clear o K J I;go_wp2;go_ret2;rw[A.out];exact⟨_,rfl,ah.nil,z⟩
def XU(v:Value)(b:Z0)(w:World)(z:ah w eB v b)(d:b.length<=1000000)(A:cP w):Calls Tryz.prog 93 #[v] w λe w'=>∃u,e=.returned (.tuple #[u,N (df b).2.1,.int .i64 ((df b).2.2:Int)])/\Ow w' w.heap.size eB u (df b).1/\Fr w w':=
 XT v b w z d A (ay (IH b) (by omega)) (fun F B base u W h m _ _ => by
   by_cases o : (fy b).1 = 0
   · exact V3 F B base u b W o h m
   · exact V2 F B base u b W d o h m)
