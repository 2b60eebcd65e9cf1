/- Lemmas. -/
import Derived.Test.YtmcaneofjlhhmaaGreatDoorM31
import Derived.Test.YtmcaneofjlhhmaaGreatDoorM34
import Derived.Test.YtmcaneofjlhhmaaGreatDoorM20
import Derived.Test.YtmcaneofjlhhmaaGreatDoorM23
set_option linter.all false
set_option maxHeartbeats 8000000
set_option maxRecDepth 100000
namespace Go.Proofs
open RowKit Fk Tryz
def xZ(q:Nat × Nat × Nat):Value:=.tuple #[if q.2.2=0 then N q.1 else .int .i64 (-1),.int .i64 (q.2.2:Int)]
def Ft(m:U0)(base g B J z a:Nat)(c:Nat->Value)(v:Value)(r:U0)(w:World)(h:eM w base g m m.length c)(hC:en w B J v r z a)(hl:r.length<=1000000)(hn:m.length<=300)(V:df m=true)(Z:∀c∈m,c.toNat<=15):Calls prog 324 #[.pointer (some ⟨g,0,none⟩),.pointer (some ⟨B,0,none⟩)] w λe w'=>e=.returned (xZ (aK m r a))/\en w' B J v r z (aK m r a).2.1/\ag (λb=>b=B) w w':=by
 have HP:=ad (Qm B J z a 15 r w hC.f hl ω);have HS:=ad (λW (o:Fr w W) l (av:a+l<=z)=>OI B J z a l v r W (hC.fr o) hl av);have HF:=ad (λW (o:Fr w W) x l p A hx=>QE m base g x l c W (h.fr o) hn V Z p A hx);have K:=ad (λW (o:Fr w W) y l A hy=>QI m base g y l c W (h.fr o) hn V Z A hy);have HH:=ad (LD m r a);have HM:=ad (LC m r a);have L:=ad (Kc r a);have az:=ad (jt r a 15);have aj:=ad (λy=>BP m V Z y 15 (λk p A=>absurd p ω));have a0:=hC.eq;have av:=hC.le;have M:cX r a=min 15 (z-a):=by unfold cX;rw[a0]
 rw[<- M]at HP;have bf:cX r a<=15:=by rw[M];exact Nat.min_le_left _ _
 have bk:cX r a<=z-a:=by rw[M];exact Nat.min_le_right _ _
 have HC:=ad hC;have hX:Fk.aF r a 15<=32768:=by have:=az.out;omega
 clear h hC M az a0;generalize cX r a=T,Fk.aF r a 15=X,Fk.aF r a (cX r a)=Y,aK m r a=Q at *;go_in;go_wp2_with fail;apply HP.z;rintro e w1 ⟨rfl,a4⟩;have a5:=a4.fr;clear HP;go_wp2;go_loopw [8] (λkv wr=>∃l:Nat,1<=l/\l<=T+1/\kv=N l/\Hid (∀j,1<=j->j<l->jz m (X / 2^(15-j)) j=none)/\Fr w wr) (λkv _=>16-(intOf kv).toNat);·exact⟨1,ω,ω,rfl,(λj p A=>absurd p ω),a5⟩
 ·
  obtain⟨l,p,bm,rfl,G,o⟩:=hrel;by_cases a6:l<=T
  ·have a7:IntKind.i64.wrap (15-(l:Int))=((15-l:Nat):Int):=(by rw[aA _ ω];omega);have a8:(X:Int) / 2^(15-l)=((X / 2^(15-l):Nat):Int):=σ;have bq:X / 2^(15-l)<=X:=il _ _;have D:=ad (HF.out wr o (X / 2^(15-l)) l p ω ω);have a9:min (15-l) 64=15-l:=ω;have i1:(l:Int)<=T:=ω;have bt:=aA ((l:Int)+1) ω
   cases F:jz m (X / 2^(15-l)) l with
   | some s=>have hQ:=HH.out l s p a6 F;rw[F]at D;simp only[ye]at D;have aC:=ad (λW (h:Fr w W)=>HS.out W h l ω);subst hQ;clear F G;generalize 15-l=d at *;generalize X / 2^d=q at *;go_wp2_with fail;apply D.z;rintro e O ⟨rfl,rfl⟩;have ba:=ad (aC.out O o);clear D;go_wp2_with fail;apply ba.z;rintro e w3 ⟨rfl,bc,bd⟩;go_wp2;go_ret2;exact⟨rfl,bc,(o.chg _).trans bd λ_ _ h=>h⟩
   | none=>
    rw[F]at D;simp only[ye]at D;have HX:Hid (∀j,1<=j->j<l+1->jz m (X / 2^(15-j)) j=none):=λj p A=>by
     by_cases e:j=l;·rw[e];exact F
     ·exact G.out j p ω
    clear F G;generalize 15-l=d at *;generalize X / 2^d=q at *;go_wp2_with fail;apply D.z;rintro e O ⟨rfl,rfl⟩;go_wp2;go_roundw;·exact⟨l+1,ω,ω,γ,HX,o⟩
    ·exact μ
  ·obtain rfl:l=T+1:=ω;have hQ:=HM.out (λj p A=>G.out j p ω);have al:=ad (HC.out.fr o);have i2:¬((T:Int)+1<=T):=ω;clear G;by_cases hT:T<15
   ·have a7:IntKind.i64.wrap (15-(T:Int))=((15-T:Nat):Int):=(by rw[aA _ ω];omega);have a9:min (15-T) 64=15-T:=ω;have a8:(X:Int) / 2^(15-T)=(Y:Int):=(by rw[<- L.out];simp);have hY:Y<=X:=(by rw[<- L.out];exact il _ _);have R:=ad (K.out wr o Y T ω ω);have i3:(T:Int)<15:=ω;clear L HF HS HH HM aj;generalize 15-T=d at *
    cases U:lC m Y T with
    | true=>rw[U]at R hQ;subst hQ;clear K U;go_wp2_with fail;apply R.z;rintro e O ⟨rfl,I⟩;go_wp2;go_ret2;exact⟨rfl,al.out.fr I.fr,(o.trans I.fr).chg _⟩
    | false=>rw[U]at R hQ;subst hQ;clear K U;go_wp2_with fail;apply R.z;rintro e O ⟨rfl,I⟩;go_wp2;go_ret2;exact⟨rfl,al.out.fr I.fr,(o.trans I.fr).chg _⟩
   ·obtain rfl:T=15:=ω;rw[aj.out Y]at hQ;subst hQ;clear L HF HS HH HM aj K;go_wp2;go_ret2;exact⟨rfl,al.out,o.chg _⟩
def LN(p:Bool)(l:List aQ)(d:List Nat)(k:Nat):U0:=Eo p (Em true ((l.drop (d.take k).sum).take (d.getD k 0)))
def JU(d:Nat)(p:Bool)(e f:Nat):U0:=Ky 1++bE d++[(if p then 1 else 0)]++bE e++bE f
def JT(d:Nat)(p:Bool)(l:List aQ):U0:=
 bD (JU d p l.length (xX d (xI true) l).length++(LP (LN p l (xX d (xI true) l)) (xX d (xI true) l).length).flatten)
def pX:List aQ:=[⟨0,0,[],[97]⟩,⟨0,0,[],[98]⟩]
def Ra:U0:=JT 16 false pX
def Re(d:World)(g:Nat)(U:Value):World:=(((((((d.setCell ⟨g,5,none⟩ (.int .i64 16)).setCell ⟨g,6,none⟩ (.bool false)).setCell ⟨g,7,none⟩ (.int .i64 0)).setCell ⟨g,8,none⟩ (.int .i64 0)).setCell ⟨g,9,none⟩ (.int .i64 0)).setCell ⟨g,10,none⟩ (.int .i64 0)).setCell ⟨g,11,none⟩ U).setCell ⟨g,2,none⟩ (.int .i64 1)
def Rp(W:World)(z:Nat)(d e f v3 h:Value):World:=((((W.setCell ⟨z,0,none⟩ d).setCell ⟨z,1,none⟩ e).setCell ⟨z,2,none⟩ f).setCell ⟨z,3,none⟩ v3).setCell ⟨z,4,none⟩ h
def Fw(x b:Nat)(w:World)(d:b<=60)(h:x<2^b):Calls prog 339 #[N x,N b] w λe w'=>e=.returned (.bool true)/\w'=w:=by
 have hD:(2:Nat)^b<=2^60:=dn ω d;have m:IntKind.i64.wrap ((2:Int)^b)=((2^b:Nat):Int):=by rw[show(2:Int)^b=((2^b:Nat):Int) by simp];exact aA _ ω
 generalize 2^b=D at *;have o:(0:Int)<=x:=ω
 have p:(x:Int)<D:=ω
 have q:(0:Int)<=b:=ω
 go_in;go_wp2;go_ret;exact⟨rfl,rfl⟩
def ry{T:TypeId}{W:World}{z:Nat}{m o p:Value}(d e f:Value)(h:W.heap[z]?=some (.cells #[m,o,p] T (0,0))):(((W.setCell ⟨z,0,none⟩ d).setCell ⟨z,1,none⟩ e).setCell ⟨z,2,none⟩ f).heap[z]?=some (.cells #[d,e,f] T (0,0))/\ag (λk=>k=z) W (((W.setCell ⟨z,0,none⟩ d).setCell ⟨z,1,none⟩ e).setCell ⟨z,2,none⟩ f):=
 ⟨aI (aI (aI h 0 d) 1 e) 2 f,((ay W ⟨z,0,none⟩ d).trans (ay _ ⟨z,1,none⟩ e) λ_ _ h=>h).trans (ay _ ⟨z,2,none⟩ f) λ_ _ h=>h⟩
def Q3(m o d p:Nat)(w:World)(h1:257<=m)(h2:m<265)(h3:d<12)(G:o<2^(m-257))(L:p<2^d):Calls prog 336 #[.agg #[N m,N o,N d,N p]] w λe w'=>e=.returned (.tuple #[ki ⟨0,2+2^(m-257)+o,2^d+p⟩,.int .i64 0])/\Fr w w':=by
 obtain⟨b,M⟩:∃b,b=m-257:=⟨_,rfl⟩;have a6:IntKind.i64.wrap ((m:Int)-257)=(b:Int):=by rw[aA _ ω];omega
 rw[<- M]at G ⊢;have O:=ad (λW=>Fw o b W ω G);have Q:=ad (λW=>Fw p d W ω L);have p1:(2:Nat)^b<=2^8:=dn ω ω;have p2:(2:Nat)^d<=2^12:=dn ω ω;have a7:IntKind.i64.wrap ((2:Int)^b)=((2^b:Nat):Int):=by rw[show(2:Int)^b=((2^b:Nat):Int) by simp];exact aA _ ω
 have a8:IntKind.i64.wrap ((2:Int)^d)=((2^d:Nat):Int):=by rw[show(2:Int)^d=((2^d:Nat):Int) by simp];exact aA _ ω
 generalize 2^d=E,2^b=D at *;have a9:=aA (2+(D:Int)) ω;have aC:=aA (2+(D:Int)+o) ω;have ba:=aA ((E:Int)+p) ω;have j1:(0:Int)<=m:=ω
 have j2:¬(m:Int)<256:=ω
 have j3:(257:Int)<=m:=ω
 have j4:(m:Int)<265:=ω
 have j5:(0:Int)<=d:=ω
 have j6:(d:Int)<12:=ω
 have j7:(0:Int)<=b:=ω
 have bm:min b 64=b:=ω
 have bq:min d 64=d:=ω
 have R:Fr w (w.alloc (.cells #[N m,N o,N d,N p] 293)):=(Fr.refl w).alloc _;have U:(w.alloc (.cells #[N m,N o,N d,N p] 293)).heap[w.heap.size]?=some (.cells #[N m,N o,N d,N p] 293 (0,0)):=aD _ _ _ rfl;have I:Fr (w.alloc (.cells #[N m,N o,N d,N p] 293)) ((w.alloc (.cells #[N m,N o,N d,N p] 293)).alloc (.cells #[.int .u8 0,.int .i64 0,.int .i64 0] 295)):=(Fr.refl _).alloc _;have V:((w.alloc (.cells #[N m,N o,N d,N p] 293)).alloc (.cells #[.int .u8 0,.int .i64 0,.int .i64 0] 295)).heap[w.heap.size+1]?=some (.cells #[.int .u8 0,.int .i64 0,.int .i64 0] 295 (0,0)):=aD _ _ (w.heap.size+1) (by rw [gu]);have z:=I.heap U;have X:=R.trans I;clear R I U M G L h1 h2 h3 p1 p2;go_in;go_upto_region 1 with fail;generalize (w.alloc (.cells #[N m,N o,N d,N p] 293)).alloc (.cells #[.int .u8 0,.int .i64 0,.int .i64 0] 295)=Y at *;have e0:=af z 0 rfl;have e1:=af z 1 rfl;have e2:=af z 2 rfl;have e3:=af z 3 rfl;have Z:=ad (O.out Y);have aa:=ad (Q.out Y);have HT:=ad V;have HF:=ad X;clear O Q z V X;go_upto_region 6 with fail;go_wp2_with fail;apply Z.z;rintro e w4 ⟨rfl,rfl⟩;go_wp2_with fail;apply aa.z;rintro e w4 ⟨rfl,rfl⟩;go_upto_region 7 with fail;have q:w4.drew.heap[w.heap.size+1]?=some (.cells #[.int .u8 0,.int .i64 0,.int .i64 0] 295 (0,0)):=HT.out;have J:Fr w w4.drew:=HF.out.drew;go_still_tail 13,(by kernel_rfl);change wpList _ _ _ _ _ w4.drew;have x0:=aB q 0;have x1:=aB q 1;have x2:=aB q 2;have y0:=af q 0 rfl;have y1:=af q 1 rfl;have y2:=af q 2 rfl;clear HT HF e0 e1 e2 e3 Z aa;generalize w4.drew=W5 at *;have KZ := ad (fun F (h : F = ((W5.setCell ⟨w.heap.size + 1, 0, none⟩ (.int .u8 0)).setCell ⟨w.heap.size + 1, 1, none⟩ (.int .i64 (2 + (D : Int) + o))).setCell ⟨w.heap.size + 1, 2, none⟩ (.int .i64 ((E : Int) + p))) => by
   have K := ry (.int .u8 0) (.int .i64 (2 + (D : Int) + o)) (.int .i64 ((E : Int) + p)) q;rw[← h] at K
   exact (⟨K.1, ag.below J K.2 J.size (λi e => by rw[show i = w.heap.size + 1 from e]; omega)⟩ : F.heap[w.heap.size + 1]? = some (.cells #[.int .u8 0, .int .i64 (2 + (D : Int) + o), .int .i64 ((E : Int) + p)] 295 (0, 0)) ∧ Fr w F))
 have a3:(prog.info? 295).map (·.size)=some 3:=by kernel_rfl
 clear q J;go_wp2_with fail;generalize hW:((W5.setCell ⟨w.heap.size+1,0,none⟩ (.int .u8 0)).setCell ⟨w.heap.size+1,1,none⟩ (.int .i64 (2+(D:Int)+o))).setCell ⟨w.heap.size+1,2,none⟩ (.int .i64 ((E:Int)+p))=F;obtain⟨a4,a5⟩:=KZ.out F hW.symm;clear hW KZ;refine aT (mL results336 _ _ (w.heap.size+1) 295 _ (0,0) _ _ rfl rfl a4 uAH rfl a3) rfl ?_;exact⟨rfl,a5⟩
end Go.Proofs
namespace Go.Fk
def oX(d r:U0)(a:Nat)(h:(aK d r a).2.2=0):(aK d r a).1<d.length:=by
 unfold aK at h ⊢;cases e:kx d (aF r a 15) (cX r a)with
 | some s=>have:=List.mem_of_find?_eq_some e;simpa using this
 | none=>rw[e]at h;simp at h;split at h <;> cases h
end Go.Fk
namespace Go.Proofs
open RowKit Fk Tryz
def eM.rd{w w':World}{base g n B:Nat}{a:U0}{c:Nat->Value}(h:eM w base g a n c)(p:B<base)(f:ag (λk=>k=B) w w'):eM w' base g a n c:=
 h.chg f (λe=>by have:=h.up;omega) (λk d e=>by have:=(h.own0.lt k d).1;omega) (λk d e=>by have:=(h.own1.lt k d).1;omega) (λl m o k d e=>by have:=((h.syms l m o).lt k d).1;omega)
def sq(n:Nat)(L:U0):Prop:=L.length=n/\df L=true/\∀c∈L,c.toNat<=15
def EK(R B o q a n:Nat)(Z s2 v:Value)(r:U0)(w:World)(hR:w.heap[R]?=some (.cells #[.pointer (some ⟨B,0,none⟩),Z,s2] 386 (0,0)))(hC:en w B o v r q a)(hl:r.length<=1000000)(J:n<=300):Calls prog 296 #[.pointer (some ⟨R, 0, none⟩), N n] w fun e w' => ag (fun b => b = B) w w' ∧ ((¬ (aU r n a).2.2 = 0 ∧ e = .returned (.tuple #[.pointer none, .int .i64 ((aU r n a).2.2 : Int)])) ∨
    ((aU r n a).2.2 = 0 ∧ ∃g c b, e = .returned (.tuple #[.pointer (some ⟨g, 0, none⟩), .int .i64 0]) ∧ w.heap.size ≤ b ∧ eM w' b g (aU r n a).1 (aU r n a).1.length c ∧ en w' B o v r q (aU r n a).2.1 ∧ sq n (aU r n a).1)) := by
 have A:=ad (QP B o q a n v r w hC hl J);have c0:=af hR 0 rfl;generalize aU r n a=Q at *;obtain⟨L,a',er⟩:=Q;by_cases K:er=0;·subst K;go_in;go_wp2_with fail;apply A.z;rintro e M ⟨u,rfl,d,m,O⟩;obtain⟨U,D,F,G⟩:=O trivial;have HN:=ad (QC u L M d.see (by rw[D];exact J) G F);have V:=ad U;have W:Hid (sq n L):=⟨D,F,G⟩;obtain⟨p,z,rfl⟩:=d.shape';have X:=m.size;clear U D F G O d A;go_wp2_with fail;apply HN.z;rintro e w2 ⟨g,c,rfl,Y,I⟩;go_wp2;go_ret2;exact⟨m.trans (I.chg _) λ_ _ h=>h,(by first | exact .inr ⟨trivial,g,c,_,rfl,X,Y,V.out.fr I,W.out⟩ | exact⟨g,c,⟨rfl,rfl⟩,_,X,Y,V.out.fr I,W.out⟩)⟩
 ·go_in;go_wp2_with fail;apply A.z;rintro e M ⟨u,rfl,d,m,_⟩;obtain⟨p,z,hu⟩:=d.shape';go_wp2;go_ret2;exact⟨m,.inl ⟨K,rfl⟩⟩
def Aa(q:bW × Nat × Nat):Value:=.tuple #[ki q.1,.int .i64 (q.2.2:Int)]
def OF(R B Z p a q bf gf:Nat)(s1 v:Value)(cf:Nat->Value)(m r:U0)(w:World)(hR:w.heap[R]?=some (.cells #[.pointer (some ⟨B,0,none⟩),s1,.pointer (some ⟨gf,0,none⟩)] 386 (0,0)))(hC:en w B Z v r p a)(hl:r.length<=1000000)
  (hH:eM w bf gf m m.length cf) (hG:sq 12 m) (hB:B<bf) (hRB:R≠B) (h1:257<=q) (h2:q<265) :
  Calls prog 325 #[.pointer (some ⟨R,0,none⟩),N q] w λe w'=>e=.returned (Aa (cO m r q a))/\ag (λb=>b=B) w w'/\((cO m r q a).2.2=0->en w' B Z v r p (cO m r q a).2.1):=by
 obtain⟨b,hb⟩:∃b,b=q-257:=⟨_,rfl⟩;have cT:IntKind.i64.wrap ((q:Int)-257)=(b:Int):=by rw[aA _ ω];omega
 have da:b<=7:=ω
 have al:=hC.eq;have KA:Hid (p<a+b->cO m r q a=(⟨0,0,0⟩,a,1)):=λh=>by unfold cO;rw[<- al,<- hb,an h]
 have KB:Hid (¬p<a+b->¬(aK m r (a+b)).2.2=0->cO m r q a=(⟨0,0,0⟩,a,(aK m r (a+b)).2.2)):=λh h2=>by unfold cO;rw[<- al,<- hb,ae h,ae h2]
 have KC:Hid (¬p<a+b->(aK m r (a+b)).2.2=0->p<(aK m r (a+b)).2.1+(aK m r (a+b)).1->cO m r q a=(⟨0,0,0⟩,a,1)):=λh h2 h3=>by unfold cO;rw[<- al,<- hb,ae h,an h2,an h3]
 have KD:Hid (¬p<a+b->(aK m r (a+b)).2.2=0->¬p<(aK m r (a+b)).2.1+(aK m r (a+b)).1->cO m r q a=(⟨0,2+2^b+Fk.aF r a b,2^(aK m r (a+b)).1+Fk.aF r (aK m r (a+b)).2.1 (aK m r (a+b)).1⟩,(aK m r (a+b)).2.1+(aK m r (a+b)).1,0)):=λh h2 h3=>by unfold cO;rw[<- al,<- hb,ae h,an h2,ae h3]
 have ct:=ad (λh=>(oX m r (a+b) h));have bT:=ad (λa k W (h:en W B Z v r p a) hk=>Fv B Z p a k v r W h hl hk);have a1:=ad (λW (h:eM W bf gf m m.length cf) (hc:en W B Z v r p (a+b))=>Ft m bf gf B Z p (a+b) cf v r W h hc hl (by rw[hG.1];omega) hG.2.1 hG.2.2);have HJ:=ad (λca d W (h3:d<12) (hx:Fk.aF r a b<2^b) (hf:ca<2^d)=>Q3 q (Fk.aF r a b) d ca W h1 h2 h3 (by rw[<- hb];exact hx) hf);rw[<- hb]at HJ;have bt:=ad (λa k=>jt r a k);have cz:Hid (m.length=12):=hG.1;have db:B<w.heap.size:=(aX.1 hC.h).1;have c1:∀k,v.ownBlock=some k->k<w.heap.size:=λk h=>(hC.o.lt k h).2;have dc:R<w.heap.size:=(aX.1 hR).1;have ai:Fr w (w.alloc (.cells #[.int .u8 0,.int .i64 0,.int .i64 0] 295)):=(Fr.refl w).alloc _;have a9:(w.alloc (.cells #[.int .u8 0,.int .i64 0,.int .i64 0] 295)).heap[w.heap.size]?=some (.cells #[.int .u8 0,.int .i64 0,.int .i64 0] 295 (0,0)):=aD _ _ _ rfl;have aC:=ai.heap hR;have iP:=hC.fr ai;have bu:=hH.fr ai;have aj:w.heap.size≠B:=ω
 have ba:(prog.info? 295).map (·.size)=some 3:=by kernel_rfl
 have O : Hid (∀ (W o : World) (t : bW), W.heap[w.heap.size]? = some (.cells #[.int .u8 0, .int .i64 0, .int .i64 0] 295 (0, 0)) → ag (fun b => b = B) w W → o = ((W.setCell ⟨w.heap.size, 0, none⟩ (.int .u8 (t.lit.toNat : Int))).setCell ⟨w.heap.size, 1, none⟩ (N t.len)).setCell ⟨w.heap.size, 2, none⟩ (N t.dist) →
     o.heap[w.heap.size]? = some (.cells #[.int .u8 (t.lit.toNat : Int), N t.len, N t.dist] 295 (0, 0)) ∧ ag (λb => b = B) w o ∧ ag (λb => b = w.heap.size) W o) := λW o t h hc e => by
  have D:=ry (.int .u8 (t.lit.toNat:Int)) (N t.len) (N t.dist) h
  rw[<- e]at D
  exact⟨D.1,hc.trans D.2 λi hi e=>by have e:i=w.heap.size:=e;omega,D.2⟩
 clear al hC hR hH hG hb;generalize cO m r q a=Q at *;go_in;go_upto_region 1 with fail;generalize w.alloc (.cells #[.int .u8 0,.int .i64 0,.int .i64 0] 295)=W0 at *;have a3:=ad (bT.out a b W0 iP ω);have c0:=af aC 0 rfl;have cb:=ad iP;clear iP;by_cases D:p<a+b;·simp only[an D]at a3;have hQ:=KA.out D;subst hQ;clear KA KB KC KD a1 HJ;go_wp2_with fail;apply a3.z;rintro e F ⟨rfl,bv,U⟩;have I:=U.heap a9 aj;have bc:ag (λb=>b=B) w F:=(ai.chg _).trans U λ_ _ h=>h;clear a9 aC cb bu;have x0:=aB I 0;have x1:=aB I 1;have x2:=aB I 2;have y0:=af I 0 rfl;have y1:=af I 1 rfl;have y2:=af I 2 rfl;have J:=ad (λo=>O.out F o ⟨0,0,0⟩ I bc);clear O I;go_wp2_with fail;generalize K:((F.setCell ⟨w.heap.size,0,none⟩ (.int .u8 0)).setCell ⟨w.heap.size,1,none⟩ (.int .i64 0)).setCell ⟨w.heap.size,2,none⟩ (.int .i64 0)=o;obtain⟨ac,V,_⟩:=J.out o K.symm;clear K J;refine aT (mL results325 _ _ w.heap.size 295 _ (0,0) _ _ rfl rfl ac uAH rfl ba) rfl ?_;exact⟨rfl,V⟩
 ·simp only[ae D]at a3;have hx:=bt.out a b;generalize aK m r (a+b)=G at *;obtain⟨s,M,e2⟩:=G;simp only[xZ]at a1;obtain⟨CV,b5⟩:∃CV,CV=(if e2=0 then N s else .int .i64 (-1)):=⟨_,rfl⟩;rw[<- b5]at a1;have c5:Hid (e2=0->CV=N s):=λh=>(by rw[b5,an h]);clear b5;go_wp2_with fail;apply a3.z;rintro e F ⟨rfl,bv,U⟩;have I:=U.heap a9 aj;have a5:=U.heap aC hRB;have cc:=bu.rd hB U;have bc:ag (λb=>b=B) w F:=(ai.chg _).trans U λ_ _ h=>h;have ch:=ad (a1.out F.drew (cc.fr (Fr.refl F).drew) (bv.fr (Fr.refl F).drew));have ci:F.drew.heap[R]?=some (.cells #[.pointer (some ⟨B,0,none⟩),s1,.pointer (some ⟨gf,0,none⟩)] 386 (0,0)):=a5;have d0:=af a5 0 rfl;have d2:=af a5 2 rfl;clear a3 cb bu aC a9 bv U c0 a1 cc ai;go_upto_region 4 with fail;go_cut [8,7]from 24 to 35 (λcv ev wx=>cv=CV/\ev=.int .i64 (e2:Int)/\en wx B Z v r p M/\ag (λb=>b=B) F wx)
  ·
   go_region_held3 (λW => W.cell? ⟨R, 0, none⟩ = some (.pointer (some ⟨B, 0, none⟩)) ∧ W.cell? ⟨R, 2, none⟩ = some (.pointer (some ⟨gf, 0, none⟩)))
    (first | go_keep)
    ((first
      | (go_at_call 324; refine ch.out.mono ?_; rintro e w3 ⟨rfl, ak, X⟩; have g0 : w3.cell? ⟨R, 0, none⟩ = some (.pointer (some ⟨B, 0, none⟩)) := aG (X.heap ci hRB) 0; have g2 : w3.cell? ⟨R, 2, none⟩ = some (.pointer (some ⟨gf, 0, none⟩)) := aG (X.heap ci hRB) 2)))
   all_goals go_wp2_with fail
   all_goals go_meet
   all_goals exact⟨rfl,rfl,ak,((Fr.refl F).drew.chg _).trans X λ_ _ h=>h⟩
  ·
   obtain⟨rfl,rfl,ak,X⟩:=hcut;have z:=X.heap I aj;have cl:=X.heap a5 hRB;have b6:ag (λb=>b=B) w wc:=bc.trans X λ_ _ h=>h;have f0:=af cl 0 rfl;clear I a5 d0 d2 X bc ch cl;by_cases he:e2=0
   ·subst he;obtain rfl:=c5.out rfl;have cm:s<m.length:=ct.out rfl;rw[cz.out]at cm;have be:=ad (bT.out M s wc ak ω);by_cases h4:p<M+s;·simp only[an h4]at be;have hQ:=KC.out D rfl h4;subst hQ;clear KA KB KC KD HJ ak;go_wp2_with fail;apply be.z;rintro e w4 ⟨rfl,b9,a6⟩;have L:=a6.heap z aj;have bC:=b6.trans a6 λ_ _ h=>h;clear z;have x0:=aB L 0;have x1:=aB L 1;have x2:=aB L 2;have y0:=af L 0 rfl;have y1:=af L 1 rfl;have y2:=af L 2 rfl;have J:=ad (λo=>O.out w4 o ⟨0,0,0⟩ L bC);clear O L;go_wp2_with fail;generalize K:((w4.setCell ⟨w.heap.size,0,none⟩ (.int .u8 0)).setCell ⟨w.heap.size,1,none⟩ (.int .i64 0)).setCell ⟨w.heap.size,2,none⟩ (.int .i64 0)=o;obtain⟨ac,V,bG⟩:=J.out o K.symm;clear K J;refine aT (mL results325 _ _ w.heap.size 295 _ (0,0) _ _ rfl rfl ac uAH rfl ba) rfl ?_;exact⟨rfl,V⟩
    ·simp only[ae h4]at be;have hQ:=KD.out D rfl h4;have hy:=bt.out M s;have cp:=ad (λW=>HJ.out (Fk.aF r M s) s W cm hx hy);have p1:(2:Nat)^b<=2^7:=dn ω ω;have p2:(2:Nat)^s<=2^12:=dn ω ω;have ds:IntKind.i64.wrap ((Fk.aF r a b:Nat):Int)=((Fk.aF r a b:Nat):Int):=aA _ ω;have dv:IntKind.i64.wrap ((Fk.aF r M s:Nat):Int)=((Fk.aF r M s:Nat):Int):=aA _ ω;have HQ:=ad (And.intro hQ trivial);clear KA KB KC KD HJ ak hx hy p1 p2 bt hQ;generalize Fk.aF r a b=x,Fk.aF r M s=y,2+2^b+Fk.aF r a b=L1,2^s+Fk.aF r M s=L2 at *;go_wp2_with fail;apply be.z;rintro e w4 ⟨rfl,b9,a6⟩;have L:=a6.heap z aj;have bC:=b6.trans a6 λ_ _ h=>h;have cF:=ad (cp.out w4);clear z cp;go_wp2_with fail;apply cF.z;rintro e w5 ⟨rfl,bL⟩;have Y:=bL.heap L;have cs:=b9.fr bL;have cL:=bC.trans (bL.chg (λb=>b=B)) λ_ _ h=>h;clear L b9;have x0:=aB Y 0;have x1:=aB Y 1;have x2:=aB Y 2;have y0:=af Y 0 rfl;have y1:=af Y 1 rfl;have y2:=af Y 2 rfl;have J:=ad (λo=>O.out w5 o ⟨0,L1,L2⟩ Y cL);clear O Y;have cN:=ad cs;clear cs;go_wp2_with fail;generalize K:((w5.setCell ⟨w.heap.size,0,none⟩ (.int .u8 0)).setCell ⟨w.heap.size,1,none⟩ (N L1)).setCell ⟨w.heap.size,2,none⟩ (N L2)=o;obtain⟨ac,V,bG⟩:=J.out o K.symm;clear K J;refine aT (mL results325 _ _ w.heap.size 295 _ (0,0) _ _ rfl rfl ac uAH rfl ba) rfl ?_;have cR:=cN.out.chg bG (λe=>aj e.symm) (λk hk e=>by have:=c1 k hk;omega);rw[HQ.out.1];exact⟨rfl,V,λ_=>cR⟩
   ·have hQ:=KB.out D he;have j1:¬(e2:Int)=0:=ω;subst hQ;clear KA KB KC KD HJ ak;have x0:=aB z 0;have x1:=aB z 1;have x2:=aB z 2;have y0:=af z 0 rfl;have y1:=af z 1 rfl;have y2:=af z 2 rfl;have J:=ad (λo=>O.out wc o ⟨0,0,0⟩ z b6);clear O z;go_wp2_with fail;generalize K:((wc.setCell ⟨w.heap.size,0,none⟩ (.int .u8 0)).setCell ⟨w.heap.size,1,none⟩ (.int .i64 0)).setCell ⟨w.heap.size,2,none⟩ (.int .i64 0)=o;obtain⟨ac,V,bG⟩:=J.out o K.symm;clear K J;refine aT (mL results325 _ _ w.heap.size 295 _ (0,0) _ _ rfl rfl ac uAH rfl ba) rfl ?_;exact(by first | exact⟨rfl,V,λh=>absurd h he⟩ | exact⟨rfl,V⟩ | trace_state)
end Go.Proofs
namespace Go.Fk
def cD(d e r:U0)(a:Nat):bW × Bool × Nat × Nat:=
 if (aK d r a).2.2 = 0 then
  (if (aK d r a).1 = 256 then (⟨0, 0, 0⟩, false, (aK d r a).2.1, 0)
   else if (aK d r a).1 < 256 then (⟨UInt8.ofNat (aK d r a).1, 0, 0⟩, true, (aK d r a).2.1, 0)
   else ((cO e r (aK d r a).1 (aK d r a).2.1).1, decide ((cO e r (aK d r a).1 (aK d r a).2.1).2.2 = 0), (cO e r (aK d r a).1 (aK d r a).2.1).2.1, (cO e r (aK d r a).1 (aK d r a).2.1).2.2))
 else(⟨0,0,0⟩,false,a,(aK d r a).2.2)
end Go.Fk
namespace Go.Proofs
open RowKit Fk Tryz
def tR(q:bW × Bool × Nat × Nat):Value:=.tuple #[ki q.1,.bool q.2.1,.int .i64 (q.2.2.2:Int)]
def rB{P:Program}{z:Func}{p q m:Tmp}{e:TypeId}(h:z.results=#[.cell p e,.tmp q,.tmp m])(tmps:Array Value)(w:World)(g:Nat)(t:TypeId)(f:Array Value)(A:Nat × Nat)(d:TypeDesc)(v o:Value)
  (hp:tmps.getD p undef=.pointer (some ⟨g,0,none⟩)) (hq:tmps.getD q undef=v) (hq2:tmps.getD m undef=o) (hg:w.heap[g]?=some (.cells f t A))
  (hu:P.underlying e=some d) (hd:(match d with | .struct _ | .array _ _=>true | _=>false)=true) (hi:(P.info? e).map (·.size)=some f.size) :
  (results z tmps).run P w=.ok (.tuple #[.agg f,v,o]) w:=by
 have D:tmps[p]?.getD undef=.pointer (some ⟨g,0,none⟩):=by simpa using hp
 have F:tmps[q]?.getD undef=v:=by simpa using hq
 have G:tmps[m]?.getD undef=o:=by simpa using hq2
 simp[results,h,D,F,G,asAddr,qD w g t e f A d hg hu hd hi]
def OA(R B U V a bs J bf gf:Nat)(v:Value)(cs cf:Nat->Value)(d q r:U0)(w:World)(hR:w.heap[R]?=some (.cells #[.pointer (some ⟨B,0,none⟩),.pointer (some ⟨J,0,none⟩),.pointer (some ⟨gf,0,none⟩)] 386 (0,0)))(hC:en w B U v r V a)(hl:r.length<=1000000)
  (hS:eM w bs J d d.length cs) (hGs:sq 265 d) (hBs:B<bs) (hH:eM w bf gf q q.length cf) (hG:sq 12 q) (hB:B<bf) (hRB:R≠B) :
  Calls prog 297 #[.pointer (some ⟨R,0,none⟩)] w λe w'=>e=.returned (tR (cD d q r a))/\ag (λb=>b=B) w w'/\((cD d q r a).2.2.2=0->en w' B U v r V (cD d q r a).2.2.1):=by
 have KA:Hid (¬(aK d r a).2.2=0->cD d q r a=(⟨0,0,0⟩,false,a,(aK d r a).2.2)):=λh=>by unfold cD;rw[ae h]
 have KB:Hid ((aK d r a).2.2=0->(aK d r a).1=256->cD d q r a=(⟨0,0,0⟩,false,(aK d r a).2.1,0)):=λh h2=>by unfold cD;rw[an h,an h2]
 have KC:Hid ((aK d r a).2.2=0->(aK d r a).1<256->cD d q r a=(⟨UInt8.ofNat (aK d r a).1,0,0⟩,true,(aK d r a).2.1,0)):=λh h2=>by unfold cD;rw[an h,ae ω,an h2]
 have KD:Hid ((aK d r a).2.2=0->257<=(aK d r a).1->cD d q r a=((cO q r (aK d r a).1 (aK d r a).2.1).1,decide ((cO q r (aK d r a).1 (aK d r a).2.1).2.2=0),(cO q r (aK d r a).1 (aK d r a).2.1).2.1,(cO q r (aK d r a).1 (aK d r a).2.1).2.2)):=λh h2=>by unfold cD;rw[an h,ae ω,ae ω]
 have bS:=ad (λh=>oX d r a h);have HL:Hid (d.length=265):=hGs.1;have ca:=ad (λW (h:eM W bs J d d.length cs) (hc:en W B U v r V a)=>Ft d bs J B U V a cs v r W h hc hl (by rw[hGs.1];omega) hGs.2.1 hGs.2.2);have a6:=ad (λcu a W (h:W.heap[R]?=some (.cells #[.pointer (some ⟨B,0,none⟩),.pointer (some ⟨J,0,none⟩),.pointer (some ⟨gf,0,none⟩)] 386 (0,0))) (hc:en W B U v r V a) (hh:eM W bf gf q q.length cf) h1 h2=>OF R B U V a cu bf gf _ v cf q r W h hc hl hh hG hB hRB h1 h2);have bd:∀k,v.ownBlock=some k->k<w.heap.size:=λk h=>(hC.o.lt k h).2;have cL:B<w.heap.size:=(aX.1 hC.h).1;have ab:Fr w (w.alloc (.cells #[.int .u8 0,.int .i64 0,.int .i64 0] 295)):=(Fr.refl w).alloc _;have cb:(w.alloc (.cells #[.int .u8 0,.int .i64 0,.int .i64 0] 295)).heap[w.heap.size]?=some (.cells #[.int .u8 0,.int .i64 0,.int .i64 0] 295 (0,0)):=aD _ _ _ rfl;have a7:=ab.heap hR;have cc:=hH.fr ab;have be:=ad (ca.out (w.alloc (.cells #[.int .u8 0,.int .i64 0,.int .i64 0] 295)).drew (hS.fr ab.drew) (hC.fr ab.drew));have ac:w.heap.size≠B:=ω
 have a8:(prog.info? 295).map (·.size)=some 3:=by kernel_rfl
 have HZ : Hid (∀ (W o : World) (t0 t1 t2 u0 u1 u2 : Value), W.heap[w.heap.size]? = some (.cells #[u0, u1, u2] 295 (0, 0)) → ag (fun b => b = B) w W → o = ((W.setCell ⟨w.heap.size, 0, none⟩ t0).setCell ⟨w.heap.size, 1, none⟩ t1).setCell ⟨w.heap.size, 2, none⟩ t2 →
     o.heap[w.heap.size]? = some (.cells #[t0, t1, t2] 295 (0, 0)) ∧ ag (λb => b = B) w o ∧ ag (λb => b = w.heap.size) W o) := λW o t0 t1 t2 u0 u1 u2 h hc e => by
  have hs:=ry t0 t1 t2 h
  rw[<- e]at hs
  exact⟨hs.1,hc.trans hs.2 λi hi e=>by have e:i=w.heap.size:=e;omega,hs.2⟩
 clear hC hR hH hS hG hGs ca;generalize aK d r a=G,cD d q r a=Q at *;obtain⟨s,a2,X⟩:=G;simp only[xZ]at be;obtain⟨CV,b2⟩:∃CV,CV=(if X=0 then N s else .int .i64 (-1)):=⟨_,rfl⟩;rw[<- b2]at be;have c1:Hid (X=0->CV=N s):=λh=>by rw[b2,an h]
 clear b2;go_in;go_upto_region 1 with fail;generalize w.alloc (.cells #[.int .u8 0,.int .i64 0,.int .i64 0] 295)=W0 at *;have d0:=af a7 0 rfl;have d1:=af a7 1 rfl;have b4:W0.drew.heap[R]?=some (.cells #[.pointer (some ⟨B,0,none⟩),.pointer (some ⟨J,0,none⟩),.pointer (some ⟨gf,0,none⟩)] 386 (0,0)):=a7;go_cut [5,4]from 6 to 17 (λcv ev wx=>cv=CV/\ev=.int .i64 (X:Int)/\en wx B U v r V a2/\ag (λb=>b=B) W0 wx)
 ·
  go_region_held3 (λW => W.cell? ⟨R, 0, none⟩ = some (.pointer (some ⟨B, 0, none⟩)) ∧ W.cell? ⟨R, 1, none⟩ = some (.pointer (some ⟨J, 0, none⟩)))
   (first | go_keep)
   ((first
     | (go_at_call 324; refine be.out.mono ?_; rintro e w3 ⟨rfl, F, I⟩; have g0 : w3.cell? ⟨R, 0, none⟩ = some (.pointer (some ⟨B, 0, none⟩)) := aG (I.heap b4 hRB) 0; have g1 : w3.cell? ⟨R, 1, none⟩ = some (.pointer (some ⟨J, 0, none⟩)) := aG (I.heap b4 hRB) 1)))
  all_goals go_wp2_with fail
  all_goals go_meet
  all_goals exact⟨rfl,rfl,F,((Fr.refl W0).drew.chg _).trans I λ_ _ h=>h⟩
 ·
  obtain⟨rfl,rfl,F,I⟩:=hcut;have m:=I.heap cb ac;have a9:=I.heap a7 hRB;have aC:=cc.rd hB I;have bu:ag (λb=>b=B) w wc:=(ab.chg _).trans I λ_ _ h=>h;clear cb a7 cc I d0 d1 b4 be ab;by_cases he:X=0
  ·subst he;obtain rfl:=c1.out rfl;by_cases cm:s=256;·subst cm;have K:=ad (And.intro (KB.out rfl rfl) trivial);have b6:=ad F;clear KA KB KC KD a6 F a9 aC;have x0:=aB m 0;have x1:=aB m 1;have x2:=aB m 2;have y0:=af m 0 rfl;have y1:=af m 1 rfl;have y2:=af m 2 rfl;have z:=ad (λo=>HZ.out wc o (.int .u8 0) (.int .i64 0) (.int .i64 0) _ _ _ m bu);clear m;go_wp2_with fail;generalize D:((wc.setCell ⟨w.heap.size,0,none⟩ (.int .u8 0)).setCell ⟨w.heap.size,1,none⟩ (.int .i64 0)).setCell ⟨w.heap.size,2,none⟩ (.int .i64 0)=o;obtain⟨p,L,av⟩:=z.out o D.symm;clear D z;refine aT (v:=.tuple #[.agg #[.int .u8 0,.int .i64 0,.int .i64 0],.bool false,.int .i64 0]) (rB results297 _ _ w.heap.size 295 _ (0,0) _ _ _ rfl rfl rfl p uAH rfl a8) rfl ?_;rw[K.out.1];exact⟨rfl,L,λ_=>b6.out.chg av (λe=>ac e.symm) (λk Y e=>by have:=bd k Y;omega)⟩
   ·by_cases cn:s<256;·have K:=ad (And.intro (KC.out rfl cn) trivial);have b6:=ad F;have da:IntKind.u8.wrap (s:Int)=(s:Int):=(by simp[IntKind.wrap,IntKind.bits,IntKind.signed];omega);have i1:¬(s:Int)=256:=ω;have i2:(s:Int)<256:=ω;have cp:(UInt8.ofNat s).toNat=s:=(by rw[lk];omega);have c9:Hid ((UInt8.ofNat s).toNat=s/\True):=⟨cp,trivial⟩;clear KA KB KC KD a6 F a9 aC cp;have x0:=aB m 0;have x1:=aB m 1;have x2:=aB m 2;have y0:=af m 0 rfl;have y1:=af m 1 rfl;have y2:=af m 2 rfl;have z:=ad (λo=>HZ.out wc o (.int .u8 (s:Int)) (.int .i64 0) (.int .i64 0) _ _ _ m bu);clear m;go_wp2_with fail;generalize D:((wc.setCell ⟨w.heap.size,0,none⟩ (.int .u8 (s:Int))).setCell ⟨w.heap.size,1,none⟩ (.int .i64 0)).setCell ⟨w.heap.size,2,none⟩ (.int .i64 0)=o;obtain⟨p,L,av⟩:=z.out o D.symm;clear D z;refine aT (v:=.tuple #[.agg #[.int .u8 (s:Int),.int .i64 0,.int .i64 0],.bool true,.int .i64 0]) (rB results297 _ _ w.heap.size 295 _ (0,0) _ _ _ rfl rfl rfl p uAH rfl a8) rfl ?_;rw[K.out.1];unfold tR ki;rw[c9.out.1];exact⟨rfl,L,λ_=>b6.out.chg av (λe=>ac e.symm) (λk Y e=>by have:=bd k Y;omega)⟩
    ·have cB:s<265:=(by have:=bS.out rfl;rw[HL.out]at this;exact this);have K:=ad (And.intro (KD.out rfl ω) trivial);have b7:=ad (a6.out s a2 wc a9 F aC ω cB);have i1:¬(s:Int)=256:=ω;have i2:¬(s:Int)<256:=ω;clear KA KB KC KD a6 F a9 aC bS HL cn cm;generalize cO q r s a2=M at *;obtain⟨t,a3,e3⟩:=M;simp only[Aa,ki]at b7;go_wp2_with fail;apply b7.z;rintro e w4 ⟨rfl,cq,cr⟩;have O:=cq.heap m ac;have cC:=bu.trans cq λ_ _ h=>h;have cE:=ad cr;clear m cr b7;have x0:=aB O 0;have x1:=aB O 1;have x2:=aB O 2;have y0:=af O 0 rfl;have y1:=af O 1 rfl;have y2:=af O 2 rfl;have z:=ad (λo=>HZ.out w4 o (.int .u8 (t.lit.toNat:Int)) (N t.len) (N t.dist) _ _ _ O cC);clear O;go_upto_region 7 with fail;generalize D:((w4.setCell ⟨w.heap.size,0,none⟩ (.int .u8 (t.lit.toNat:Int))).setCell ⟨w.heap.size,1,none⟩ (N t.len)).setCell ⟨w.heap.size,2,none⟩ (N t.dist)=o;obtain⟨p,L,av⟩:=z.out o D.symm;clear D z;clear x0 x1 x2 y0 y1 y2;by_cases h3:e3=0;·subst h3;have x0:=aB p 0;have x1:=aB p 1;have x2:=aB p 2;have y0:=af p 0 rfl;have y1:=af p 1 rfl;have y2:=af p 2 rfl;have z:=ad (λZ=>HZ.out o Z (.int .u8 (t.lit.toNat:Int)) (N t.len) (N t.dist) _ _ _ p L);clear p;go_wp2_with fail;generalize D:((o.setCell ⟨w.heap.size,0,none⟩ (.int .u8 (t.lit.toNat:Int))).setCell ⟨w.heap.size,1,none⟩ (N t.len)).setCell ⟨w.heap.size,2,none⟩ (N t.dist)=Z;obtain⟨bC,bG,ct⟩:=z.out Z D.symm;clear D z;refine aT (v:=.tuple #[.agg #[.int .u8 (t.lit.toNat:Int),N t.len,N t.dist],.bool true,.int .i64 0]) (rB results297 _ _ w.heap.size 295 _ (0,0) _ _ _ rfl rfl rfl bC uAH rfl a8) rfl ?_;rw[K.out.1];exact⟨rfl,bG,λ_=>((cE.out (by first | rfl | trivial)).chg av (λe=>ac e.symm) (λk Y e=>by have:=bd k Y;omega)).chg ct (λe=>ac e.symm) (λk Y e=>by have:=bd k Y;omega)⟩
     ·have j3:¬(e3:Int)=0:=ω;have j4:((e3:Int) == 0)=false:=(by simpa using j3);have x0:=aB p 0;have x1:=aB p 1;have x2:=aB p 2;have y0:=af p 0 rfl;have y1:=af p 1 rfl;have y2:=af p 2 rfl;have z:=ad (λZ=>HZ.out o Z (.int .u8 (t.lit.toNat:Int)) (N t.len) (N t.dist) _ _ _ p L);clear p;go_wp2_with fail;generalize D:((o.setCell ⟨w.heap.size,0,none⟩ (.int .u8 (t.lit.toNat:Int))).setCell ⟨w.heap.size,1,none⟩ (N t.len)).setCell ⟨w.heap.size,2,none⟩ (N t.dist)=Z;obtain⟨bC,bG,ct⟩:=z.out Z D.symm;clear D z;refine aT (v:=.tuple #[.agg #[.int .u8 (t.lit.toNat:Int),N t.len,N t.dist],.bool false,.int .i64 (e3:Int)]) (rB results297 _ _ w.heap.size 295 _ (0,0) _ _ _ rfl rfl rfl bC uAH rfl a8) rfl ?_;rw[K.out.1];refine⟨?_,bG,λh=>absurd h h3⟩;unfold tR;simp only[bw h3]
  ·have K:=ad (And.intro (KA.out he) trivial);have j1:¬(X:Int)=0:=ω;have j2:((X:Int) != 0)=true:=no.2 ω;clear KA KB KC KD a6 F a9 aC;have x0:=aB m 0;have x1:=aB m 1;have x2:=aB m 2;have y0:=af m 0 rfl;have y1:=af m 1 rfl;have y2:=af m 2 rfl;have z:=ad (λo=>HZ.out wc o (.int .u8 0) (.int .i64 0) (.int .i64 0) _ _ _ m bu);clear m;go_wp2_with fail;generalize D:((wc.setCell ⟨w.heap.size,0,none⟩ (.int .u8 0)).setCell ⟨w.heap.size,1,none⟩ (.int .i64 0)).setCell ⟨w.heap.size,2,none⟩ (.int .i64 0)=o;obtain⟨p,L,av⟩:=z.out o D.symm;clear D z;refine aT (v:=.tuple #[.agg #[.int .u8 0,.int .i64 0,.int .i64 0],.bool false,.int .i64 (X:Int)]) (rB results297 _ _ w.heap.size 295 _ (0,0) _ _ _ rfl rfl rfl p uAH rfl a8) rfl ?_;rw[K.out.1];exact⟨rfl,L,λh=>absurd h he⟩
end Go.Proofs
namespace Go.Fk
def ud(d r:U0)(a:Nat)(h:(aK d r a).2.2=0):a+1<=(aK d r a).2.1:=by
 unfold aK at h ⊢;cases e:kx d (aF r a 15) (cX r a)with
 | some s=>have:=((nR _ _ _ _).1 (List.find?_some e)).1;grind
 | none=>rw[e]at h;simp at h;split at h <;> cases h
def Ks(d r:U0)(s a:Nat)(h:(cO d r s a).2.2=0):a<=(cO d r s a).2.1:=by
 unfold cO at h ⊢;by_cases e:8*r.length<a+(s-257);·grind
 ·rw[ae e]at h ⊢;by_cases f:(aK d r (a+(s-257))).2.2=0;·have:=ud d r _ f;grind
  ·grind
def GD(d e r:U0)(a:Nat)(h:(cD d e r a).2.2.2=0):a+1<=(cD d e r a).2.2.1:=by
 unfold cD at h ⊢;by_cases f:(aK d r a).2.2=0
 ·have m:=ud d r a f;rw[an f]at h ⊢;by_cases o:(aK d r a).1=256;·grind
  ·rw[ae o]at h ⊢;by_cases p:(aK d r a).1<256;·grind
   ·rw[ae p]at h ⊢;exact ar m (Ks e r _ _ h)
 ·grind
def GF(d e r:U0)(a:Nat)(p:d.length=265)(_:(cD d e r a).2.2.2=0):(cD d e r a).1.len<=1000:=by
 unfold cD;by_cases f:(aK d r a).2.2=0
 ·have q:=oX d r a f;rw[an f];by_cases h:(aK d r a).1=256;·grind
  ·rw[ae h];by_cases m:(aK d r a).1<256;·grind
   ·rw[ae m];generalize (aK d r a).1=s,(aK d r a).2.1=o at *;simp only;unfold cO;have z:(2:Nat)^(s-257)<=2^7:=dn ω ω;have A:=jt r o (s-257);grind
 ·grind
def pM(d e r:U0)(f h a:Nat)(m:List bW):cJ d e r (f+1) h a m =
  if (cD d e r a).2.2.2 = 0 then (if (cD d e r a).2.1 = true then (if h < di (cD d e r a).1 then ([], a, 6) else cJ d e r f (h - di (cD d e r a).1) (cD d e r a).2.2.1 (m ++ [(cD d e r a).1]))
    else (m, (cD d e r a).2.2.1, 0)) else ([], a, (cD d e r a).2.2.2) := by
 rw[cJ];unfold cD;by_cases o:(aK d r a).2.2=0
 ·simp only[an o];by_cases p:(aK d r a).1=256;·grind
  ·simp only[ae p];by_cases q:(aK d r a).1<256;·simp only[an q,di];simp
   ·grind
 ·grind
def GL(d e r:U0)(f m a:Nat)(o:List bW)(h:¬(cD d e r a).2.2.2=0):cJ d e r (f+1) m a o=([],a,(cD d e r a).2.2.2):=by rw[pM,ae h]
def GM(d e r:U0)(f o a:Nat)(m:List bW)(h:(cD d e r a).2.2.2=0)(p:(cD d e r a).2.1=false):cJ d e r (f+1) o a m=(m,(cD d e r a).2.2.1,0):=by rw[pM,an h,ae (by rw[p];simp)]
def GK(d e r:U0)(f m a:Nat)(o:List bW)(h:(cD d e r a).2.2.2=0)(p:(cD d e r a).2.1=true)(q:m<di (cD d e r a).1):cJ d e r (f+1) m a o=([],a,6):=by rw[pM,an h,an p,an q]
def GI(d e r:U0)(f m a:Nat)(o:List bW)(h:(cD d e r a).2.2.2=0)(p:(cD d e r a).2.1=true)(q:¬m<di (cD d e r a).1):cJ d e r (f+1) m a o=cJ d e r f (m-di (cD d e r a).1) (cD d e r a).2.2.1 (o++[(cD d e r a).1]):=by rw[pM,an h,an p,ae q]
end Go.Fk
namespace Go.Proofs
open RowKit Fk Tryz
def QV(v:Value)(l:U0)(w:World)(d:ao w eB v l)(q:l.length<=1000000):Calls prog 291 #[v] w λe w'=>∃B u,e=.returned (.pointer (some ⟨B,0,none⟩))/\en w' B w.heap.size u l (8*l.length) 0/\Fr w w'/\w.heap.size<=B:=by
 have A:=ad (jY v l w d q);obtain⟨D,F,rfl,_⟩:=d.shape;clear d;go_in;go_wp2_with fail;apply A.z;rintro e h ⟨u,rfl,m,o⟩;obtain⟨p,z,rfl⟩:=m.shape';go_wp2;go_ret;exact⟨h.heap.size,_,rfl,⟨by rw[aD _ _ _ rfl];simp,m.fr ((Fr.refl h).alloc _),rfl,ax _⟩,o.alloc _,o.size⟩
end Go.Proofs
namespace Go.Fk
def GB(d m r:U0)(f o a:Nat)(p:List bW)(s q e:Nat)(h:aK d r a=(s,q,e))(z:¬e=0):cJ d m r (f+1) o a p=([],a,e):=by
 rw[cJ,h];simp only[ae z]
def GC(d o r:U0)(f p a:Nat)(e:List bW)(m:Nat)(h:aK d r a=(256,m,0)):cJ d o r (f+1) p a e=(e,m,0):=by
 rw[cJ,h];simp
def GA(d m r:U0)(f e a:Nat)(o:List bW)(s p:Nat)(h:aK d r a=(s,p,0))(q:s<256):cJ d m r (f+1) e a o=if e<1 then([],a,6)else cJ d m r f (e-1) p (o++[⟨UInt8.ofNat s,0,0⟩]):=by
 rw[cJ,h];simp only[jh,an q,ae (show ¬s=256 by omega)]
def G9(d m r:U0)(f o a:Nat)(p:List bW)(s q:Nat)(t:bW)(z e:Nat)(h:aK d r a=(s,q,0))(D:256<s)(A:cO m r s q=(t,z,e)):cJ d m r (f+1) o a p=if e=0 then(if o<di t then([],a,6)else cJ d m r f (o-di t) z (p++[t]))else([],a,e):=by
 rw[cJ,h];simp only[jh,ae (show ¬s<256 by omega),ae (show ¬s=256 by omega),A]
def Kr(d r:U0)(s a:Nat)(h:8*r.length<a+(s-257)):cO d r s a=(⟨0,0,0⟩,a,1):=by unfold cO;rw[an h]
def Kq(d r:U0)(s a c f e:Nat)(h:¬8*r.length<a+(s-257))(m:aK d r (a+(s-257))=(c,f,e))(o:¬e=0):cO d r s a=(⟨0,0,0⟩,a,e):=by
 unfold cO;rw[ae h,m];simp only[ae o]
def Kp(d r:U0)(s a c e:Nat)(h:¬8*r.length<a+(s-257))(f:aK d r (a+(s-257))=(c,e,0))(m:8*r.length<e+c):cO d r s a=(⟨0,0,0⟩,a,1):=by
 unfold cO;rw[ae h,f];simp only[jh,an m]
def Ko(e r:U0)(s a c d:Nat)(h:¬8*r.length<a+(s-257))(f:aK e r (a+(s-257))=(c,d,0))(m:¬8*r.length<d+c):cO e r s a=(⟨0,2+2^(s-257)+aF r a (s-257),2^c+aF r d c⟩,d+c,0):=by
 unfold cO;rw[ae h,f];simp only[jh,ae m]
end Go.Fk
namespace Go.Proofs
open RowKit Fk Tryz
def EP(b:Nat)(w:World)(K:b<=11):Calls prog 273 #[N b] w λe w'=>e=.returned (N (2^b))/\w'=w:=by
 obtain⟨Q,m,o,p,q⟩:∃Q:Nat->Nat,Q 0=1/\(∀i,2*Q i=Q (i+1))/\(∀i,i<b->Q i<=2048)/\Q b=2^b:=⟨λi=>2^i,rfl,λi=>by show 2*2^i=2^(i+1);rw[gE,g7],λi h=>ar (dn ω (show i<=11 by omega)) (show 2^11<=2048 by decide),rfl⟩;have z:=ad (And.intro o p);have A:=ad (And.intro m trivial);rw[<- q];clear o p m q;go_in;go_wp2;go_loopw [3,4] (λD d wr=>∃i:Nat,i<=b/\d=N i/\D=N (Q i)/\wr=w) (λ_ d _=>b-(intOf d).toNat);·exact⟨0,ax _,rfl,by rw[A.out.1];rfl,rfl⟩
 ·
  obtain⟨i,L,rfl,rfl,rfl⟩:=hrel;by_cases F:i<b
  ·have G:=z.out.2 i F;have I:=z.out.1 i;have J:(i:Int)<b:=ω;have M:IntKind.i64.wrap (2*(Q i:Int))=(Q (i+1):Int):=(by rw[aA _ ω];omega);clear I G;go_wp2;go_roundw;·exact⟨i+1,ω,γ,rfl,by first | rfl | trivial⟩
   ·exact μ
  ·obtain rfl:i=b:=ω;have J:¬(i:Int)<i:=ω;go_wp2;go_ret;exact⟨rfl,by first | rfl | trivial⟩
def PM(s:Nat)(w:World)(G:s<256):Calls prog 222 #[.agg #[N s,N 0,N 0,N 0]] w λe w'=>e=.returned (.tuple #[ki ⟨UInt8.ofNat s,0,0⟩,.int .i64 0])/\Fr w w':=by
 have q:Hid (ki ⟨UInt8.ofNat s,0,0⟩=.agg #[.int .u8 (s:Int),.int .i64 0,.int .i64 0]):=by show _=_;unfold ki N;rw[show(UInt8.ofNat s).toNat=s from by rw[lk];omega];rfl
 have I:IntKind.u8.wrap (s:Int)=(s:Int):=by rw[oy];omega
 have J:(0:Int)<=s:=ω
 have K:(s:Int)<256:=ω
 have h:Fr w ((w.alloc (.cells #[N s,N 0,N 0,N 0] 293)).alloc (.cells #[.int .u8 0,.int .i64 0,.int .i64 0] 295)):=((Fr.refl w).alloc _).alloc _;have hP:((w.alloc (.cells #[N s,N 0,N 0,N 0] 293)).alloc (.cells #[.int .u8 0,.int .i64 0,.int .i64 0] 295)).heap[w.heap.size]?=some (.cells #[N s,N 0,N 0,N 0] 293 (0,0)):=((Fr.refl _).alloc _).heap (aD _ _ _ rfl);have d:((w.alloc (.cells #[N s,N 0,N 0,N 0] 293)).alloc (.cells #[.int .u8 0,.int .i64 0,.int .i64 0] 295)).heap[w.heap.size+1]?=some (.cells #[.int .u8 0,.int .i64 0,.int .i64 0] 295 (0,0)):=aD _ _ _ σ;rw[q.out];go_in;go_upto_region 1 with fail;generalize (w.alloc (.cells #[N s,N 0,N 0,N 0] 293)).alloc (.cells #[.int .u8 0,.int .i64 0,.int .i64 0] 295)=L at *;obtain⟨g,m⟩:∃g,g=w.heap.size:=⟨_,rfl⟩;rw[<- m]at hP d ⊢;have M:=af hP 0 rfl;have O:=af hP 1 rfl;have c2:=af hP 2 rfl;have Q:=af hP 3 rfl;have R:=af d 0 rfl;have U:=af d 1 rfl;have V:=af d 2 rfl;have W:=aB d 0;have X:=aB d 1;have Y:=aB d 2;have o:=ad (ry (.int .u8 (s:Int)) (.int .i64 0) (.int .i64 0) d);have p:=ad h;have z:Hid (w.heap.size<=g+1):=by show _<=_;omega
 clear hP h m d;go_wp2_with fail;have D:=o.out.1;have F:Fr w _:=ag.below p.out o.out.2 p.out.size (λi e=>by have:=z.out;have e:i=g+1:=e;omega);exact aT (mL results222 _ _ (g+1) 295 _ (0,0) _ _ rfl rfl D uAH rfl (by kernel_rfl)) rfl ⟨rfl,F⟩
def PL(s x d y:Nat)(w:World)(Z:257<=s)(h2:s<=264)(q:d<=11)(hx:x<2^(s-257))(hy:y<2^d):Calls prog 222 #[.agg #[N s,N x,N d,N y]] w λe w'=>e=.returned (.tuple #[ki ⟨0,2+2^(s-257)+x,2^d+y⟩,.int .i64 0])/\Fr w w':=by
 have ah:2^(s-257)<=2^7:=dn ω ω;have ai:2^d<=2^11:=dn ω q;have F:=ad (λW=>EP (s-257) W ω);have I:=ad (λW=>EP d W q);have o:Hid (ki ⟨0,2+2^(s-257)+x,2^d+y⟩=.agg #[.int .u8 0,N (2+2^(s-257)+x),N (2^d+y)]):=rfl;rw[o.out];obtain⟨z,J⟩:∃z:Int,z=(s:Int)-257:=⟨_,rfl⟩;have K:N (s-257)=.int .i64 z:=by unfold N;rw[show((s-257:Nat):Int)=z by omega]
 rw[K]at F;generalize 2^(s-257)=P at *;generalize 2^d=D at *;have L:N (2+P+x)=.int .i64 ((P:Int)+x+2):=by unfold N;rw[show((2+P+x:Nat):Int)=(P:Int)+x+2 by omega]
 have M:N (D+y)=.int .i64 ((D:Int)+y):=by unfold N;rw[show((D+y:Nat):Int)=(D:Int)+y by omega]
 rw[L,M];have O:Fr w ((w.alloc (.cells #[N s,N x,N d,N y] 293)).alloc (.cells #[.int .u8 0,.int .i64 0,.int .i64 0] 295)):=((Fr.refl w).alloc _).alloc _;have hP:((w.alloc (.cells #[N s,N x,N d,N y] 293)).alloc (.cells #[.int .u8 0,.int .i64 0,.int .i64 0] 295)).heap[w.heap.size]?=some (.cells #[N s,N x,N d,N y] 293 (0,0)):=((Fr.refl _).alloc _).heap (aD _ _ _ rfl);have G:((w.alloc (.cells #[N s,N x,N d,N y] 293)).alloc (.cells #[.int .u8 0,.int .i64 0,.int .i64 0] 295)).heap[w.heap.size+1]?=some (.cells #[.int .u8 0,.int .i64 0,.int .i64 0] 295 (0,0)):=aD _ _ _ σ;have k1:(0:Int)<=s:=ω
 have k2:¬(s:Int)<256:=ω
 have k3:¬(s:Int)<257:=ω
 have k4:¬(264:Int)<s:=ω
 have k5:¬(11:Int)<d:=ω
 have k6:IntKind.i64.wrap ((s:Int)-257)=z:=by rw[aA _ ω];exact J.symm
 have k7:¬(P:Int)<=x:=ω
 have k8:¬(D:Int)<=y:=ω
 have k9:=aA ((P:Int)+x) ω;have ka:=aA ((P:Int)+x+2) ω;have kb:=aA ((D:Int)+y) ω;have kc:¬(d:Int)<0:=ω
 have kd:¬(x:Int)<0:=ω
 have ke:¬(y:Int)<0:=ω
 clear K L M ah ai hx hy Z h2 q o J;go_in;go_upto_region 1 with fail;generalize (w.alloc (.cells #[N s,N x,N d,N y] 293)).alloc (.cells #[.int .u8 0,.int .i64 0,.int .i64 0] 295)=m at *;obtain⟨g,Q⟩:∃g,g=w.heap.size:=⟨_,rfl⟩;rw[<- Q]at hP G ⊢;have c0:=af hP 0 rfl;have R:=af hP 1 rfl;have c2:=af hP 2 rfl;have U:=af hP 3 rfl;have ak:Hid (w.heap.size<=g+1):=by show _<=_;omega
 have V:=ad O;have o:=ad G;clear hP Q O G;have QA:=ad (λn=>qU (F.out (m.drewN n)));have QB:=ad (λn=>qU (I.out (m.drewN n)));clear F I;go_upto_region 5 with fail;go_quiet ((go_at_call 273;first | with_reducible exact QA.out _ | with_reducible exact QB.out _));have p:Fr m (m.drewN nq):=(Fr.refl m).drewN nq;generalize m.drewN nq=W3 at *;have e1:=p.cell R;have e3:=p.cell U;have h:=p.heap o.out;have d0:=af h 0 rfl;have d1:=af h 1 rfl;have d2:=af h 2 rfl;have f0:=aB h 0;have f1:=aB h 1;have f2:=aB h 2;have X:=ad (ry (.int .u8 0) (.int .i64 ((P:Int)+x+2)) (.int .i64 ((D:Int)+y)) h);have Y:=ad (V.out.trans p);clear c0 R c2 U p h o V;go_wp2_with fail;have hG:=X.out.1;have hE:Fr w _:=ag.below Y.out X.out.2 Y.out.size (λi e=>by have:=ak.out;have e:i=g+1:=e;omega);exact aT (mL results222 _ _ (g+1) 295 _ (0,0) _ _ rfl rfl hG uAH rfl (by kernel_rfl)) rfl ⟨rfl,hE⟩
def OC(v0:Value)(b:U0)(I:Nat)(w:World)(hs:ao w eB v0 b)(hl:b.length<=1000000)(hm:I<=1000000):Calls prog 251 #[v0,N I] w λe w'=>∃u,e=.returned (.tuple #[u,.int .i64 ((dh b I).2:Int)])/\Ow w' w.heap.size j8 u (dh b I).1/\Fr w w':=by
 have HN:=ad (QV v0 b w hs hl);have K1:Hid (¬(aU b 265 0).2.2=0->dh b I=([],(aU b 265 0).2.2)):=λh=>by unfold dh ly;rw[ae h]
 have K2:Hid ((aU b 265 0).2.2=0->¬(aU b 12 (aU b 265 0).2.1).2.2=0->dh b I=([],(aU b 12 (aU b 265 0).2.1).2.2)):=λh U=>by unfold dh lT ly;rw[an h,ae U]
 have K3:Hid ((aU b 265 0).2.2=0->(aU b 12 (aU b 265 0).2.1).2.2=0->dh b I=if(cJ (aU b 265 0).1 (aU b 12 (aU b 265 0).2.1).1 b (8*b.length+1) I (aU b 12 (aU b 265 0).2.1).2.1 []).2.2=0 then(if io b (cJ (aU b 265 0).1 (aU b 12 (aU b 265 0).2.1).1 b (8*b.length+1) I (aU b 12 (aU b 265 0).2.1).2.1 []).2.1 then((cJ (aU b 265 0).1 (aU b 12 (aU b 265 0).2.1).1 b (8*b.length+1) I (aU b 12 (aU b 265 0).2.1).2.1 []).1,0)else([],2))else([],(cJ (aU b 265 0).1 (aU b 12 (aU b 265 0).2.1).1 b (8*b.length+1) I (aU b 12 (aU b 265 0).2.1).2.1 []).2.2)):=λh U=>by unfold dh nC lT ly;rw[an h,an U]
 have cv:=ad (λR B bb n8 s1 s2 v W h1 U=>EK R B bb n8 0 265 s1 s2 v b W h1 U hl ω);have c8:=ad (λR B bb n8 a s1 s2 v W h1 U=>EK R B bb n8 a 12 s1 s2 v b W h1 U hl ω);obtain⟨a0,hx,rfl,_⟩:=hs.shape;clear hs;generalize aU b 265 0=S at *;obtain⟨A,sa,se⟩:=S;simp only at K1 K2 K3 cv;go_in;go_wp2_with fail;apply HN.z;rintro e Q ⟨B,v,rfl,bC,ec,ge⟩;have ef:B<Q.heap.size:=(aX.1 bC.h).1;have bG:∀k,v.ownBlock=some k->k<Q.heap.size:=λk h=>(bC.o.lt k h).2;have c9:Fr Q (Q.alloc (.cells #[.pointer (some ⟨B,0,none⟩),.pointer none,.pointer none] 386)):=(Fr.refl Q).alloc _;have ab:(Q.alloc (.cells #[.pointer (some ⟨B,0,none⟩),.pointer none,.pointer none] 386)).heap[Q.heap.size]?=some (.cells #[.pointer (some ⟨B,0,none⟩),.pointer none,.pointer none] 386 (0,0)):=aD _ _ _ rfl;have cB:=bC.fr c9;have V:Q.heap.size≠B:=ω
 have bL:=ec.trans c9;clear bC HN ec;go_upto_region 4 with fail;generalize Q.alloc (.cells #[.pointer (some ⟨B,0,none⟩),.pointer none,.pointer none] 386)=W2 at *;obtain⟨R,cC⟩:∃R,R=Q.heap.size:=⟨_,rfl⟩;rw[<- cC]at ab V bG ⊢;have hy:w.heap.size<=R:=by rw[cC];exact ar ge (Nat.le_of_lt ef)
 have cE:R<W2.heap.size:=(aX.1 ab).1;have ek:B<W2.heap.size:=(aX.1 cB.h).1;clear cC ef c9;have cF:=ad (cv.out R B w.heap.size _ _ _ v W2 ab cB);clear cv cB;go_wp2_with fail;apply cF.z;rintro e L ⟨ac,⟨cL,rfl⟩ | ⟨h0,d,cs,bs,rfl,cN,hS,em,eq⟩⟩;·have X:=ac.heap ab V;have y1:=af X 1 rfl;have x1:=aB X 1;have bl:Fr w L:=ag.below bL ac bL.size (xA ω);have ap:Fr w (L.setCell ⟨R,1,none⟩ (.pointer none)):=ag.below bl (ay L ⟨R,1,none⟩ (.pointer none)) bl.size (xA ω);have hQ:=ad (K1.out cL);have j1:((se:Int) != 0)=true:=no.2 ω;have j2:¬(se:Int)=0:=ω;clear K1 K2 K3 c8 cF ab X ac;go_wp2;go_ret2;rw[hQ.out];exact⟨_,rfl,Ow.nil,ap⟩
 ·have X:=ac.heap ab V;have y1:=af X 1 rfl;have x1:=aB X 1;have bl:Fr w L:=ag.below bL ac bL.size (xA ω);have ap:Fr w (L.setCell ⟨R,1,none⟩ (.pointer (some ⟨d,0,none⟩))):=ag.below bl (ay L ⟨R,1,none⟩ (.pointer (some ⟨d,0,none⟩))) bl.size (xA ω);have bm:(L.setCell ⟨R,1,none⟩ (.pointer (some ⟨d,0,none⟩))).heap[R]?=some (.cells #[.pointer (some ⟨B,0,none⟩),.pointer (some ⟨d,0,none⟩),.pointer none] 386 (0,0)):=aI X 1 (.pointer (some ⟨d,0,none⟩));have e1:=em.chg (ay L ⟨R,1,none⟩ (.pointer (some ⟨d,0,none⟩))) (λe=>V e.symm) (λk o e=>by have:=bG k o;have e:k=R:=e;omega);have cR:=hS.rd (jk cE cN) (ay L ⟨R,1,none⟩ (.pointer (some ⟨d,0,none⟩)));have bT:=ad (K2.out h0);have ca:=ad (K3.out h0);have cT:B<bs:=jk ek cN;have gg:Hid (W2.heap.size<=(L.setCell ⟨R,1,none⟩ (.pointer (some ⟨d,0,none⟩))).heap.size):=ar ac.size (ay L ⟨R,1,none⟩ (.pointer (some ⟨d,0,none⟩))).size;subst h0;clear K1 K2 K3 cF ab X ac em hS;go_upto_region 7 with fail;clear y1 x1;generalize L.setCell ⟨R,1,none⟩ (.pointer (some ⟨d,0,none⟩))=W4 at *;have da:=ad (c8.out R B w.heap.size _ sa _ _ v W4 bm e1);generalize aU b 12 sa=F at *;obtain⟨D,fa,fe⟩:=F;simp only at bT ca;clear c8 e1;go_wp2_with fail;apply da.z;rintro e Y ⟨ah,⟨cL,rfl⟩ | ⟨h0,gf,cf,bf,rfl,e4,hH,e5,gi⟩⟩;·have Z:=ah.heap bm V;have y2:=af Z 2 rfl;have x2:=aB Z 2;have bq:Fr w Y:=ag.below ap ah ap.size (xA ω);have bt:Fr w (Y.setCell ⟨R,2,none⟩ (.pointer none)):=ag.below bq (ay Y ⟨R,2,none⟩ (.pointer none)) bq.size (xA ω);have hQ:=ad (bT.out cL);have j1:((fe:Int) != 0)=true:=no.2 ω;have j2:¬(fe:Int)=0:=ω;clear bT ca da bm Z ah cR;go_wp2;go_ret2;rw[hQ.out];exact⟨_,rfl,Ow.nil,bt⟩
  ·have Z:=ah.heap bm V;have e6:W2.heap.size<=W4.heap.size:=gg.out;have g0:R<bf:=jk cE (ar e6 e4);have e7:B<bf:=jk ek (ar e6 e4);have y2:=af Z 2 rfl;have x2:=aB Z 2;have bu:=ay Y ⟨R,2,none⟩ (.pointer (some ⟨gf,0,none⟩));have bq:Fr w Y:=ag.below ap ah ap.size (xA ω);have bt:Fr w (Y.setCell ⟨R,2,none⟩ (.pointer (some ⟨gf,0,none⟩))):=ag.below bq bu bq.size (xA ω);have db:(Y.setCell ⟨R,2,none⟩ (.pointer (some ⟨gf,0,none⟩))).heap[R]?=some (.cells #[.pointer (some ⟨B,0,none⟩),.pointer (some ⟨d,0,none⟩),.pointer (some ⟨gf,0,none⟩)] 386 (0,0)):=aI Z 2 (.pointer (some ⟨gf,0,none⟩));have ch:=e5.chg bu (λe=>V e.symm) (λk o e=>by have:=bG k o;have e:k=R:=e;omega);have a1:=(cR.rd cT ah).rd (jk cE cN) bu;have a2:=hH.rd g0 bu;have hQ:=ad (ca.out h0);subst h0;clear bT ca da bm Z ah cR e5 hH bu;have e8:=ad (GL A D b);have e9:=ad (GM A D b);have eC:=ad (GK A D b);have eL:=ad (GI A D b);have HP:=ad (GD A D b);have bv:=ad (λa W h=>Qn B w.heap.size (8*b.length) a b W h hl);have bx:=ad (λa W h1 U h3 h4=>OA R B w.heap.size (8*b.length) a bs d bf gf v cs cf A D b W h1 U hl h3 eq cT h4 gi e7 V);go_wp2_with fail;generalize Y.setCell ⟨R,2,none⟩ (.pointer (some ⟨gf,0,none⟩))=W6 at *;obtain⟨K,aa⟩:∃K,K=W6.heap.size:=⟨_,rfl⟩;have fh:w.heap.size<=K:=by rw[aa];exact bt.size
   have ci : Hid (∀ W W' a (G : Nat → Prop), ag G W W' → (∀ k, G k → K ≤ k) → en W B w.heap.size v b (8 * b.length) a → eM W bs d A A.length cs → eM W bf gf D D.length cf → W.heap[R]? = some (.cells #[.pointer (some ⟨B, 0, none⟩), .pointer (some ⟨d, 0, none⟩), .pointer (some ⟨gf, 0, none⟩)] 386 (0, 0)) →
       en W' B w.heap.size v b (8 * b.length) a ∧ eM W' bs d A A.length cs ∧ eM W' bf gf D D.length cf ∧ W'.heap[R]? = some (.cells #[.pointer (some ⟨B, 0, none⟩), .pointer (some ⟨d, 0, none⟩), .pointer (some ⟨gf, 0, none⟩)] 386 (0, 0))) := by
    intro W W' a G hc M c1 c2 c3 c4
    have q1:R<K:=by rw[aa];exact(aX.1 db).1
    have q2:B<K:=by rw[aa];exact(aX.1 ch.h).1
    have q3:d<K:=by rw[aa];exact a1.arr.lt
    have q4:gf<K:=by rw[aa];exact a2.arr.lt
    refine ⟨c1.chg hc (fun e => by have := M _ e; omega) (fun k o e => by have := M _ e; have := bG k o; omega),
      c2.chg hc (λe => by have := M _ e; omega) (λk o e => by have := M _ e; have := (a1.own0.lt k o).2; omega) (λk o e => by have := M _ e; have := (a1.own1.lt k o).2; omega) (λl l1 l2 k o e => by have := M _ e; have := ((a1.syms l l1 l2).lt k o).2; omega),
      c3.chg hc (λe => by have := M _ e; omega) (λk o e => by have := M _ e; have := (a2.own0.lt k o).2; omega) (λk o e => by have := M _ e; have := (a2.own1.lt k o).2; omega) (λl l1 l2 k o e => by have := M _ e; have := ((a2.syms l l1 l2).lt k o).2; omega),
      hc.heap c4 (λe => by have := M _ e; omega)⟩
   have h8:B<K:=(by rw[aa];exact(aX.1 ch.h).1);have hI:cJ A D b (8*b.length+1) I fa []=cJ A D b (8*b.length+1) I fa []:=rfl;generalize fn:cJ A D b (8*b.length+1) I fa []=G0 at *;have fr:=ad (And.intro fn trivial);have fv:K<=W6.heap.size:=(by rw[aa];exact au _);clear fn hI aa;go_loopw [1,4] (λmv ov wr=>∃(f m a:Nat) (O:List bW),mv=N m/\Hid (cJ A D b f m a O=G0/\True)/\8*b.length+1<=f+a/\O.length+m<=I/\Ow wr K j8 ov O/\en wr B w.heap.size v b (8*b.length) a/\eM wr bs d A A.length cs/\eM wr bf gf D D.length cf/\wr.heap[R]?=some (.cells #[.pointer (some ⟨B,0,none⟩),.pointer (some ⟨d,0,none⟩),.pointer (some ⟨gf,0,none⟩)] 386 (0,0))/\Fr w wr/\K<=wr.heap.size) (λmv _ _=>(intOf mv).toNat);·exact⟨8*b.length+1,I,fa,[],rfl,fr,ω,σ,Ow.nil,ch,a1,a2,db,bt,fv⟩
   ·
    clear ch a1 a2 db bt fv fr;obtain⟨f,m,a,O,rfl,HG,h9,hA,hO,hC,hS,hH,hR,hF,fB⟩:=hrel;have hB:=hC.le;obtain⟨f,rfl⟩:∃g,f=g+1:=⟨f-1,ω⟩;have HT:=ad (bx.out a wr hR hC hS hH);have E1:=ad (e8.out f m a O);have E2:=ad (e9.out f m a O);have E3:=ad (eC.out f m a O);have E4:=ad (eL.out f m a O);have fC:=ad (HP.out a);have fD:=ad (GF A D b a eq.1);have HC:=ad hC;have HS:=ad hS;have HH:=ad hH;clear hC hS hH e8 e9 eC eL HP;generalize cD A D b a=q at *;obtain⟨t,hb,a',er⟩:=q;simp only[tR,ki]at HT;simp only at E1 E2 E3 E4 fC fD;obtain⟨p,z,rfl⟩:=hO.shape';go_wp2_with fail;apply HT.z;rintro e J ⟨rfl,a9,ds⟩;have aj:Fr J (J.alloc (.cells #[.int .u8 (t.lit.toNat:Int),N t.len,N t.dist] 295)):=(Fr.refl J).alloc _;have dv:(J.alloc (.cells #[.int .u8 (t.lit.toNat:Int),N t.len,N t.dist] 295)).heap[J.heap.size]?=some (.cells #[.int .u8 (t.lit.toNat:Int),N t.len,N t.dist] 295 (0,0)):=aD _ _ _ rfl;have ak:=(hO.chg a9 (hO.nL ω)).fr aj;have b0:=aj.heap (a9.heap hR V);have b1:=(HS.out.rd cT a9).fr aj;have b2:=(HH.out.rd e7 a9).fr aj;have aC:Fr w (J.alloc (.cells #[.int .u8 (t.lit.toNat:Int),N t.len,N t.dist] 295)):=Fr.trans (show Fr w J from ag.below hF a9 hF.size (xA ω)) aj;have fP:=ar (ar fB a9.size) aj.size;clear HT HC HS HH hO hR hF fB;by_cases he:er=0
    ·subst he;have fQ:=ds (by first | rfl | trivial);have b3:=fQ.fr aj;clear ds fQ;go_upto_region 13 with fail
     cases hb with
     | false=>
      have b4:G0=(O,a',0):=HG.out.1.symm.trans (E2.out (by first | rfl | trivial) (by first | rfl | trivial));subst b4;have cn:=ad (bv.out a' _ b3.f);have c0:(J.alloc (.cells #[.int .u8 (t.lit.toNat:Int),N t.len,N t.dist] 295)).cell? ⟨R,0,none⟩=some (.pointer (some ⟨B,0,none⟩)):=(by rw[aG b0];rfl);have hf:=ad ak;have fS:=ad aC;clear E1 E2 E3 E4 bx ci bv b0 b1 b2 b3 ak aC;generalize J.alloc (.cells #[.int .u8 (t.lit.toNat:Int),N t.len,N t.dist] 295)=W8 at *;simp only[jh]at hQ
      cases hp:io b a' with
      | true=>rw[hp]at cn hQ;go_wp2_with fail;apply cn.z;rintro e w9 ⟨rfl,cq⟩;go_wp2;go_ret2;rw[hQ.out];exact⟨_,rfl,(hf.out.fr cq.fr).rebase fh,fS.out.trans cq.fr⟩
      | false=>rw[hp]at cn hQ;go_wp2_with fail;apply cn.z;rintro e w9 ⟨rfl,cq⟩;go_wp2;go_ret2;rw[hQ.out];exact⟨_,rfl,Ow.nil,fS.out.trans cq.fr⟩
     | true=>
      have c1:(J.alloc (.cells #[.int .u8 (t.lit.toNat:Int),N t.len,N t.dist] 295)).cell? ⟨J.heap.size,1,none⟩=some (N t.len):=(by rw[aG dv];rfl);have hE:t.len<=1000:=fD.out (by first | rfl | trivial);have c0:(J.alloc (.cells #[.int .u8 (t.lit.toNat:Int),N t.len,N t.dist] 295)).cell? ⟨J.heap.size,0,none⟩=some (.int .u8 (t.lit.toNat:Int)):=(by rw[aG dv];rfl);have c2:(J.alloc (.cells #[.int .u8 (t.lit.toNat:Int),N t.len,N t.dist] 295)).cell? ⟨J.heap.size,2,none⟩=some (N t.dist):=(by rw[aG dv];rfl);have ba:di t=max 1 t.len:=rfl;go_upto_region 15 with fail;generalize J.alloc (.cells #[.int .u8 (t.lit.toNat:Int),N t.len,N t.dist] 295)=W8 at *;by_cases b5:m<di t;·have b4:G0=([],a,6):=HG.out.1.symm.trans (E3.out (by first | rfl | trivial) (by first | rfl | trivial) b5);subst b4;have j1:(m:Int)-max 1 (t.len:Int)<0:=(by rw[ba]at b5;omega);rw[ae (show ¬(6:Nat)=0 by decide)]at hQ;clear E1 E2 E3 E4 bx ci bv b0 b1 b2 ak HG b3 ba;go_wp2;go_ret2;rw[hQ.out];exact⟨_,rfl,Ow.nil,aC⟩
      ·have hg:=ad (And.intro ((E4.out (by first | rfl | trivial) (by first | rfl | trivial) b5).symm.trans HG.out.1) trivial);have j1:¬(m:Int)-max 1 (t.len:Int)<0:=(by rw[ba]at b5;omega);have gc:(m:Int)-max 1 (t.len:Int)=((m-di t:Nat):Int):=(by rw[ba]at b5 ⊢;omega);have hJ:1<=di t:=(by rw[ba];omega);have hK:a+1<=a':=fC.out (by first | rfl | trivial);have hh:Hid (O.length+[t].length<=2147483648):=(by show _<=_;simp;omega);have hi:=ad b3;have hj:=ad b1;have hn:=ad b2;have ho:=ad gc;clear E1 E2 E3 E4 bx bv HG b3 b1 b2 ba gc;go_wp2_with (at_builtin;refine bA j8 rfl (.tmp 57) (.tmp 59) 208 rfl underlying208 K rfl ak [t] _ _ _ rfl rfl rfl hh.out fP ?_);intro v9 w9 cr;obtain⟨k1,k2,k3,k4⟩:=ci.out W8 w9 a' _ cr.chg' (λk o=>(ak.lt k o).1) hi.out hj.out hn.out b0;have hu:Fr w w9:=cr.below ak aC fh aC.size;go_wp2;go_roundw;·exact⟨f,m-di t,a',O++[t],iG (Value.int .i64) ho.out,hg,ω,by simp;omega,cr.own,k1,k2,k3,k4,hu,ar fP cr.size⟩
       ·exact μ
    ·have b4:G0=([],a,er):=HG.out.1.symm.trans (E1.out he);subst b4;have j1:((er:Int) != 0)=true:=no.2 ω;have j2:¬(er:Int)=0:=ω;rw[ae he]at hQ;clear E1 E2 E3 E4 bx ci bv b0 b1 b2 ak ds HG;go_wp2;go_ret2;rw[hQ.out];exact⟨_,rfl,Ow.nil,aC⟩
end Go.Proofs
namespace Go.Fk
def GE(f h r:U0)(a:Nat)(G:f.length=265)(I:h.length=12)(e:(cD f h r a).2.2.2=0):gR (cD f h r a).1=true:=by
 unfold cD at e ⊢;by_cases o:(aK f r a).2.2=0
 ·have J:=oX f r a o;rw[an o]at e ⊢;by_cases q:(aK f r a).1=256;·rw[an q];rfl
  ·rw[ae q]at e ⊢;by_cases z:(aK f r a).1<256;·rw[an z];rfl
   ·rw[ae z]at e ⊢;generalize (aK f r a).1=s,(aK f r a).2.1=m at *;simp only at e ⊢;unfold cO at e ⊢;have K:(2:Nat)^(s-257)<=2^7:=dn ω ω;have L:0<(2:Nat)^(s-257):=Nat.pow_pos ω;have M:=jt r m (s-257);by_cases A:8*r.length<m+(s-257);·rw[an A]at e;cases e
    ·rw[ae A]at e ⊢;by_cases p:(aK h r (m+(s-257))).2.2=0
     ·rw[an p]at e ⊢;have O:=oX h r _ p;generalize (aK h r (m+(s-257))).1=d,(aK h r (m+(s-257))).2.1=D at *;have Q:(2:Nat)^d<=2^11:=dn ω ω;have R:0<(2:Nat)^d:=Nat.pow_pos ω;have U:=jt r D d;by_cases F:8*r.length<D+d;·rw[an F]at e;cases e
      ·rw[ae F];unfold gR;simp only;rw[ae ω];simp;omega
     ·rw[ae p]at e;exact absurd e p
 ·rw[ae o]at e;exact absurd e o
def GJ(m o r:U0)(q:m.length=265)(z:o.length=12):∀f p a e,(∀t∈e,gR t=true)->∀t∈(cJ m o r f p a e).1,gR t=true:=by
 intro f
 induction f with
 | zero=>intro p a e h;exact h
 | succ f A=>
  intro p a e h;rw[pM];split
  ·rename_i D;split
   ·split;·intro t d;cases d
    ·refine A _ _ _ λt d=>(iI.1 d).elim (h t) λF=>?_;rw[lp.1 F];exact GE m o r a q z D
   ·exact h
  ·intro t d;cases d
end Go.Fk
namespace Go.Proofs
open RowKit Fk Tryz
abbrev N6(d e:Value):Obj:=.cells #[d,e] 288 (0,0)
structure jV (W:World) (g bs Q:Nat) (lv cv:Value) (lens:U0):Prop where
 h:W.heap[g]?=some (N6 lv cv)
 l:Ow W bs eB lv lens
 c:Ow W bs eU cv (dD lens)
 lt:g<Q/\bs<=g/\(∀k,lv.ownBlock=some k->k<Q)/\∀k,cv.ownBlock=some k->k<Q
def jV.chg{W p:World}{g f Q B:Nat}{q z:Value}{A:U0}{G:Nat->Prop}(h:jV W g f Q q z A)(I:B<f)(m:ag G W p)(o:∀k,G k->k=B\/Q<=k):jV p g f Q q z A:=by
 obtain⟨J,K,D,F⟩:=h.lt;exact⟨m.heap h.h (λe=>by have:=o _ e;omega),h.l.chg m (λk d e=>by have:=o _ e;have:=(h.l.lt k d).1;have:=D k d;omega),h.c.chg m (λk d e=>by have:=o _ e;have:=(h.c.lt k d).1;have:=F k d;omega),h.lt⟩
def jV.fr{W e:World}{g f Q:Nat}{m o:Value}{p:U0}(h:jV W g f Q m o p)(d:Fr W e):jV e g f Q m o p:=⟨d.heap h.h,h.l.fr d,h.c.fr d,h.lt⟩
theorem Dk(s a:Nat):ub (s,a,0)=.tuple #[N s,.int .i64 0]:=rfl
def Dl(s a e:Nat)(h:¬e=0):ub (s,a,e)=.tuple #[.int .i64 (-1),.int .i64 (e:Int)]:=by unfold ub;rw[ae h]
def OX(v0:Value)(b:U0)(K:Nat)(w:World)(hs:ao w eB v0 b)(hl:b.length<=1000000)(hm:K<=1000000):Calls prog 152 #[v0,N K] w λe w'=>∃u,e=.returned (.tuple #[u,.int .i64 ((dh b K).2:Int)])/\Ow w' w.heap.size j8 u (dh b K).1/\Fr w w':=by
 have HN:=ad (EU v0 b w hs hl);have K1:Hid (¬(aU b 265 0).2.2=0->dh b K=([],(aU b 265 0).2.2)):=λh=>by unfold dh ly;rw[ae h]
 have K2:Hid ((aU b 265 0).2.2=0->¬(aU b 12 (aU b 265 0).2.1).2.2=0->dh b K=([],(aU b 12 (aU b 265 0).2.1).2.2)):=λh L=>by unfold dh lT ly;rw[an h,ae L]
 have K3:Hid ((aU b 265 0).2.2=0->(aU b 12 (aU b 265 0).2.1).2.2=0->dh b K=if(cJ (aU b 265 0).1 (aU b 12 (aU b 265 0).2.1).1 b (8*b.length+1) K (aU b 12 (aU b 265 0).2.1).2.1 []).2.2=0 then(if io b (cJ (aU b 265 0).1 (aU b 12 (aU b 265 0).2.1).1 b (8*b.length+1) K (aU b 12 (aU b 265 0).2.1).2.1 []).2.1 then((cJ (aU b 265 0).1 (aU b 12 (aU b 265 0).2.1).1 b (8*b.length+1) K (aU b 12 (aU b 265 0).2.1).2.1 []).1,0)else([],2))else([],(cJ (aU b 265 0).1 (aU b 12 (aU b 265 0).2.1).1 b (8*b.length+1) K (aU b 12 (aU b 265 0).2.1).2.1 []).2.2)):=λh L=>by unfold dh nC lT ly;rw[an h,an L]
 have fB:=ad (λB base v W h=>EX B base 0 265 v b W h hl ω);have fC:=ad (λB base a v W h=>EX B base a 12 v b W h hl ω);obtain⟨a0,nB,rfl,_⟩:=hs.shape;clear hs;generalize aU b 265 0=S at *;obtain⟨I,sa,se⟩:=S;simp only at K1 K2 K3 fB;go_in;go_wp2_with fail;apply HN.z;rintro e w1 ⟨rfl,bt,hy⟩;obtain⟨v,bt⟩:∃v,ii w1 w.heap.size (w.heap.size+1) v (aZ b) 0:=by obtain⟨⟨v,R,L⟩,h3⟩:=bt;exact⟨v,R,L,h3⟩
 have hz:w.heap.size<w1.heap.size:=(aX.1 bt.h).1;have h5:∀k,v.ownBlock=some k->k<w1.heap.size:=λk h=>(bt.o.lt k h).2;have fD:=ad (fB.out w.heap.size (w.heap.size+1) v w1 bt);have fE:=ad (λv W l h R L h3 h4=>PQ v l W h R L h3 h4);obtain⟨B,hB⟩:∃B,B=w.heap.size:=⟨_,rfl⟩;have nF:w.heap.size<=B:=ω
 rw[<- hB]at fD bt hz ⊢;clear fB HN hB;go_wp2_with fail;apply fD.z;rintro e w2 ⟨u,rfl,cC,fP,fQ⟩;have fS:Fr w w2:=ag.below hy fP hy.size (λi e=>by have e:i=B:=e;omega);have l4:=fP.size;clear fD bt fP;by_cases h7:se=0
 ·obtain⟨h8,n2,ga,gb⟩:=fQ h7;subst h7;have cF:=ad (K2.out rfl);have cL:=ad (K3.out rfl);have h9:=ad (fC.out B (B+1) sa v w2 h8);clear K1 K2 K3 fC h8 fQ;generalize aU b 12 sa=F at *;obtain⟨o,fa,fe⟩:=F;simp only at cF cL;go_wp2_with fail;apply h9.z;rintro e w3 ⟨u3,rfl,gc,cN,ge⟩;have gg:Fr w w3:=ag.below fS cN fS.size (λi e=>by have e:i=B:=e;omega);have l6:=cN.size;have gi:=cC.chg cN (λk G e=>by have:=(cC.lt k G).1;have e:k=B:=e;omega);clear h9 cC cN;by_cases hH:fe=0
  ·obtain⟨hI,n3,gr,gs⟩:=ge hH;subst hH;have hQ:=ad (cL.out rfl);have hJ:=ad (fE.out u w3 I gi.see ω ω gb ga);clear cF cL ge;go_wp2_with fail;apply hJ.z;rintro e w4 ⟨lv,cv,rfl,cT,da,gv⟩;obtain⟨la,lc,cl⟩:=cT.shape';rw[n2]at cl;subst cl;obtain⟨ca,cc,cm⟩:=da.shape';rw[jT,n2]at cm;subst cm;have O:Fr w4 (w4.alloc (.cells #[.slice la 265 lc,.slice ca 265 cc] 288)):=(Fr.refl w4).alloc _;have hK:(w4.alloc (.cells #[.slice la 265 lc,.slice ca 265 cc] 288)).heap[w4.heap.size]?=some (.cells #[.slice la 265 lc,.slice ca 265 cc] 288 (0,0)):=aD _ _ _ rfl;have l7:=gv.size;have ma:=O.size;have db:=gv.trans O;have hL:=hI.fr db;have hR:=gc.fr db;have hS:=cT.fr O;have hU:=da.fr O;have hV:=gg.trans db;have hW:∀k,(Value.slice la 265 lc).ownBlock=some k->k<w4.heap.size:=λk h=>(cT.lt k h).2;have hY:∀k,(Value.slice ca 265 cc).ownBlock=some k->k<w4.heap.size:=λk h=>(da.lt k h).2;have mb:w4.heap.size<(w4.alloc (.cells #[.slice la 265 lc,.slice ca 265 cc] 288)).heap.size:=σ;clear hJ gi hI gc cT da db O gg gv;go_upto_region 11 with fail;generalize w4.alloc (.cells #[.slice la 265 lc,.slice ca 265 cc] 288)=W5 at *;have hZ:=ad (fE.out u3 W5 o hR.see ω ω gs gr);clear fE hR;go_wp2_with fail;apply hZ.z;rintro e w6 ⟨oa,ob,rfl,dd,dj,g0⟩;obtain⟨U,V,cl⟩:=dd.shape';rw[n3]at cl;subst cl;obtain⟨X,Y,cm⟩:=dj.shape';rw[jT,n3]at cm;subst cm;have O:Fr w6 (w6.alloc (.cells #[.slice U 12 V,.slice X 12 Y] 288)):=(Fr.refl w6).alloc _;have ia:(w6.alloc (.cells #[.slice U 12 V,.slice X 12 Y] 288)).heap[w6.heap.size]?=some (.cells #[.slice U 12 V,.slice X 12 Y] 288 (0,0)):=aD _ _ _ rfl;have mc:w6.heap.size+1=(w6.alloc (.cells #[.slice U 12 V,.slice X 12 Y] 288)).heap.size:=σ;have mg:=g0.size;have bL:=g0.trans O;have ic:=hL.fr bL;obtain⟨J,mk⟩:∃J,J=(w6.alloc (.cells #[.slice U 12 V,.slice X 12 Y] 288)).heap.size:=⟨_,rfl⟩;have HA:jV (w6.alloc (.cells #[.slice U 12 V,.slice X 12 Y] 288)) w4.heap.size w3.heap.size J (.slice la 265 lc) (.slice ca 265 cc) I:=⟨bL.heap hK,hS.fr bL,hU.fr bL,ω,ω,λk h=>by have:=hW k h;omega,λk h=>by have:=hY k h;omega⟩;have ih:jV (w6.alloc (.cells #[.slice U 12 V,.slice X 12 Y] 288)) w6.heap.size W5.heap.size J (.slice U 12 V) (.slice X 12 Y) o:=⟨ia,dd.fr O,dj.fr O,ω,ω,λk h=>by have:=(dd.lt k h).2;omega,λk h=>by have:=(dj.lt k h).2;omega⟩;have ij:=hV.trans bL;have ba:B<w3.heap.size:=ω;have bb:B<W5.heap.size:=ω;have iv:w.heap.size<=J:=ω;have i0:J<=(w6.alloc (.cells #[.slice U 12 V,.slice X 12 Y] 288)).heap.size:=ω;have dk:∀k,v.ownBlock=some k->k<J:=λk h=>(by have:=h5 k h;omega);clear hZ dd dj hS hU hK ia hL O g0 bL hV hW hY mc mk mb mg ma l7;go_upto_region 12 with fail;generalize w6.alloc (.cells #[.slice U 12 V,.slice X 12 Y] 288)=W7 at *;clear l4 l6;generalize w4.heap.size=g1 at *;generalize w3.heap.size=b1 at *;generalize w6.heap.size=g2 at *;generalize W5.heap.size=b2 at *;generalize i2:cJ I o b (8*b.length+1) K fa []=G0 at *;have i3:=ad (And.intro i2 trivial);have od:B<J:=(by have:=HA.lt;omega);have HS:=ad (λa W h R L=>Fa B (B+1) a v (.slice la 265 lc) (.slice ca 265 cc) I b W h hl R L ga gb ω);have HD:=ad (λa W h R L=>Fa B (B+1) a v (.slice U 12 V) (.slice X 12 Y) o b W h hl R L gr gs ω);have i4:=ad (λa k W h G=>Fb B (B+1) a k v b W h hl G);have mq:=ad (λa W h=>Pn B (B+1) a b W h hl);have i5:=ad (λa h=>oX I b a h);have i6:=ad (λa h=>oX o b a h);have ms:=ad (λa h=>ud I b a h);have mu:=ad (λa h=>ud o b a h);have i7:=ad (λa k=>jt b a k);have oe:=kT b;rw[n2]at i5;rw[n3]at i6;clear i2 n2 ga gb n3 gr gs h5 hz;go_wp2;go_loopw [14,15] (λov nv wr=>∃(f m a n:Nat) (D:List bW),nv=N n/\n+m=K/\Hid (cJ I o b f m a D=G0/\True)/\8*b.length+1<=f+a/\D.length+m<=K/\Ow wr J j8 ov D/\ii wr B (B+1) v (aZ b) a/\jV wr g1 b1 J (.slice la 265 lc) (.slice ca 265 cc) I/\jV wr g2 b2 J (.slice U 12 V) (.slice X 12 Y) o/\Fr w wr/\J<=wr.heap.size) (λ_ nv _=>K-(intOf nv).toNat);·exact⟨8*b.length+1,K,fa,0,[],rfl,jZ _,i3,ω,σ,Ow.nil,ic,HA,ih,ij,i0⟩
   ·
    clear ic HA ih ij i0 i3;obtain⟨f,m,a,n,D,rfl,ok,HG,ol,om,hO,hC,hA,hD,hF,i8⟩:=hrel;have oo:=hC.le;obtain⟨f,rfl⟩:∃g,f=g+1:=⟨f-1,ω⟩;have bS:=ad (HS.out a wr hC hA.l.see hA.c.see);have x0:wr.cell? ⟨g1,0,none⟩=some (.slice la 265 lc):=(by rw[aG hA.h];rfl);have x1:wr.cell? ⟨g1,1,none⟩=some (.slice ca 265 cc):=(by rw[aG hA.h];rfl);have jn:=i5.out a;have jv:=ms.out a;generalize cq:aK I b a=q at *;obtain⟨s,A,e⟩:=q;have T1:=ad (GB I o b f m a D s A e cq);have T2:Hid (e=0->s=256->cJ I o b (f+1) m a D=(D,A,0)):=λR L=>GC I o b f m a D A (by rw[cq,R,L]);have T3:Hid (e=0->s<256->cJ I o b (f+1) m a D=if m<1 then([],a,6)else cJ I o b f (m-1) A (D++[⟨UInt8.ofNat s,0,0⟩])):=λR L=>GA I o b f m a D s A (by rw[cq,R]) L;have T4:Hid (e=0->256<s->∀t d Q,cO o b s A=(t,d,Q)->cJ I o b (f+1) m a D=if Q=0 then(if m<di t then([],a,6)else cJ I o b f (m-di t) d (D++[t]))else([],a,Q)):=λR L t d Q h3=>G9 I o b f m a D s A t d Q (by rw[cq,R]) L h3;clear cq;simp only at bS jn jv;obtain⟨p,z,rfl⟩:=hO.shape';by_cases he:e=0
    ·subst he;rw[Dk]at bS;have oq:s<265:=jn rfl;have m0:=jv rfl;go_wp2_with fail;apply bS.z;rintro e w8 ⟨rfl,eb,bd⟩;have cr:=hO.chg bd (λk G e=>by have:=(hO.lt k G).1;have e:k=B:=e;omega);have ha:=hA.chg ba bd (λk e=>.inl e);have hb:=hD.chg bb bd (λk e=>.inl e);have bT:Fr w w8:=ag.below hF bd hF.size (λi e=>by have e:i=B:=e;omega);have m1:=ar i8 bd.size;clear hO hC hA hD hF i8 bS x0 x1 bd;by_cases m2:s=256
     ·have av:G0=(D,A,0):=HG.out.1.symm.trans (T2.out (by first | rfl | trivial) m2);have ec:=ad (mq.out A w8 eb.f);have i1:(s:Int)=256:=ω;have m3:=ad (cr.rebase iv);subst av;simp only[jh]at hQ;clear T1 T2 T3 T4 HG cr ha hb
      cases hp:io b A with
      | true=>rw[hp]at ec hQ;go_wp2_with fail;apply ec.z;rintro e w9 ⟨rfl,ef⟩;go_wp2;go_ret2;rw[hQ.out];exact⟨_,rfl,m3.out.fr ef.fr,bT.trans ef.fr⟩
      | false=>rw[hp]at ec hQ;go_wp2_with fail;apply ec.z;rintro e w9 ⟨rfl,ef⟩;go_wp2;go_ret2;rw[hQ.out];exact⟨_,rfl,Ow.nil,bT.trans ef.fr⟩
     ·have ek:Hid (s<256->cJ I o b (f+1) m a D=if m<1 then([],a,6)else cJ I o b f (m-1) A (D++[⟨UInt8.ofNat s,0,0⟩])):=λh=>T3.out (by first | rfl | trivial) h;have em:Hid (256<s->∀t d Q,cO o b s A=(t,d,Q)->cJ I o b (f+1) m a D=if Q=0 then(if m<di t then([],a,6)else cJ I o b f (m-di t) d (D++[t]))else([],a,Q)):=λh=>T4.out (by first | rfl | trivial) h;have m4:¬(s:Int)=256:=ω;have or:((s:Int) == 256)=false:=(by simpa using m4);have O:Fr w8 (w8.alloc (.cells #[N s,.int .i64 0,.int .i64 0,.int .i64 0] 293)):=(Fr.refl w8).alloc _;have eq:(w8.alloc (.cells #[N s,.int .i64 0,.int .i64 0,.int .i64 0] 293)).heap[w8.heap.size]?=some (.cells #[N s,.int .i64 0,.int .i64 0,.int .i64 0] 293 (0,0)):=aD _ _ _ rfl;have cs:=cr.fr O;have er:=eb.fr O;have es:=ha.fr O;have ev:=hb.fr O;have bv:=bT.trans O;have e3:=ar m1 O.size;have e4:∀k,(Value.slice p D.length z).ownBlock=some k->k<w8.heap.size:=λk h=>(cr.lt k h).2;clear T1 T2 T3 T4 cr eb ha hb bT O;go_upto_region 19 with fail;generalize w8.alloc (.cells #[N s,.int .i64 0,.int .i64 0,.int .i64 0] 293)=W9 at *;generalize w8.heap.size=g at *;go_upto_if 67 with fail;go_cut []from 67 to 105 (λwx=>∃(x c y d:Nat) (t:bW),wx.heap[g]?=some (.cells #[N s,N x,N c,N y] 293 (0,0))/\Hid (∀W,Calls prog 222 #[.agg #[N s,N x,N c,N y]] W λe w'=>e=.returned (.tuple #[.agg #[.int .u8 (t.lit.toNat:Int),N t.len,N t.dist],.int .i64 0])/\Fr W w')/\Hid (cJ I o b (f+1) m a D=if m<di t then([],a,6)else cJ I o b f (m-di t) d (D++[t]))/\a+1<=d/\t.len<=1000/\ii wx B (B+1) v (aZ b) d/\Ow wx J j8 (.slice p D.length z) D/\jV wx g1 b1 J (.slice la 265 lc) (.slice ca 265 cc) I/\jV wx g2 b2 J (.slice U 12 V) (.slice X 12 Y) o/\Fr w wx/\J<=wx.heap.size)
      ·
       by_cases j4:s<256;·have i1:¬(256:Int)<s:=ω;have HJ:Hid (∀W,Calls prog 222 #[.agg #[N s,N 0,N 0,N 0]] W λe w'=>e=.returned (.tuple #[.agg #[.int .u8 ((UInt8.ofNat s).toNat:Int),N 0,N 0],.int .i64 0])/\Fr W w'):=λW=>PM s W j4;have be:=ad (ek.out j4);clear ek em;go_wp2;go_meet;exact⟨0,0,0,A,⟨UInt8.ofNat s,0,0⟩,eq,HJ.out,be.out,m0,ax _,er,cs,es,ev,bv,e3⟩
       ·have m6:256<s:=ω;have HM:=ad (em.out m6);obtain⟨k,G⟩:∃k,k=s-257:=⟨_,rfl⟩;have m8:k<=7:=ω;have i1:(256:Int)<s:=ω;have ou:IntKind.i64.wrap ((s:Int)-257)=(k:Int):=(by rw[aA _ ω];omega);have M1:=ad (λh=>Kr o b s A h);have M2:=ad (λc d e h=>Kq o b s A c d e h);have M3:=ad (λc d h=>Kp o b s A c d h);have M4:=ad (λc d h=>Ko o b s A c d h);have HJ:=ad (λx c y W R L h3=>PL s x c y W ω ω R L h3);rw[<- G]at M1 M2 M3 M4 HJ;have ct:=ad (i4.out A k W9 er ω);have j5:2^k<=2^7:=dn ω m8;have j6:=ad j5;have o1:B<g:=ω;have o2:w.heap.size<=g:=ω;clear ek em G j5;by_cases a6:8*b.length<A+k;·rw[an a6,an a6,an a6]at ct;have av:G0=([],a,1):=HG.out.1.symm.trans ((HM.out _ _ _ (M1.out a6)).trans (ae δ));subst av;rw[ae (show ¬(1:Nat)=0 by decide)]at hQ;clear HM M1 M2 M3 M4 HJ HG;go_wp2_with fail;apply ct.z;rintro e Z ⟨rfl,hc,a7⟩;have cu:Fr w Z:=ag.below bv a7 bv.size (λi e=>by have e:i=B:=e;omega);go_wp2;go_ret2;rw[hQ.out];exact⟨_,rfl,Ow.nil,cu⟩
        ·rw[ae a6,ae a6,ae a6]at ct;have HX:Hid (Fk.aF b A k<2^k):=i7.out A k;generalize Fk.aF b A k=x at *;have o3:x<128:=(by have:=HX.out;have:=j6.out;omega);have o4:=aA (x:Int) ω;have ka:=ad (λc d e=>M2.out c d e a6);have kb:=ad (λc d=>M3.out c d a6);have kc:=ad (λc d=>M4.out c d a6);clear M1 M2 M3 M4;go_wp2_with fail;apply ct.z;rintro e Z ⟨rfl,hc,a7⟩;have e9:=a7.heap eq (λe=>by have e:g=B:=e;omega);have cu:Fr w Z:=ag.below bv a7 bv.size (λi e=>by have e:i=B:=e;omega);have kd:=cs.chg a7 (λk G e=>by have:=(cs.lt k G).1;have e:k=B:=e;omega);have ke:=es.chg ba a7 (λk e=>.inl e);have kk:=ev.chg bb a7 (λk e=>.inl e);have m9:=af e9 1 rfl;have mB:=aB e9 1;have M:=ay Z ⟨g,1,none⟩ (.int .i64 (x:Int));have eC:=aI e9 1 (.int .i64 (x:Int));have b0:=hc.chg M (λe=>by have e:B=g:=e;omega) (λk G e=>by have:=dk k G;have e:k=g:=e;omega);have ah:=kd.chg M (λk G e=>by have:=e4 k G;have e:k=g:=e;omega);have b3:=ke.chg ba M (λk e=>.inr (by have e:k=g:=e;omega));have a3:=kk.chg bb M (λk e=>.inr (by have e:k=g:=e;omega));have a4:Fr w (Z.setCell ⟨g,1,none⟩ (.int .i64 (x:Int))):=ag.below cu M cu.size (λi e=>by have e:i=g:=e;omega);have b4:J<=(Z.setCell ⟨g,1,none⟩ (.int .i64 (x:Int))).heap.size:=ar (ar e3 a7.size) M.size;clear eq cs er es ev bv e3 hc kd ke kk cu M ct a7;go_upto_region 24 with fail;clear m9 mB e9;generalize Z.setCell ⟨g,1,none⟩ (.int .i64 (x:Int))=cz at *;have y0:cz.cell? ⟨g2,0,none⟩=some (.slice U 12 V):=(by rw[aG a3.h];rfl);have y1:cz.cell? ⟨g2,1,none⟩=some (.slice X 12 Y):=(by rw[aG a3.h];rfl);have b5:=ad (HD.out (A+k) cz b0 a3.l.see a3.c.see);have eL:=i6.out (A+k);have fb:=mu.out (A+k);generalize mK:aK o b (A+k)=q2 at *;obtain⟨c,d,Q⟩:=q2;simp only at b5 eL fb;have hd:Hid (¬Q=0->cO o b s A=(⟨0,0,0⟩,A,Q)):=λh=>ka.out c d Q rfl h;have hf:Hid (Q=0->8*b.length<d+c->cO o b s A=(⟨0,0,0⟩,A,1)):=λh L=>kb.out c d (by rw[h]) L;have hg:Hid (Q=0->¬8*b.length<d+c->cO o b s A=(⟨0,2+2^k+x,2^c+Fk.aF b d c⟩,d+c,0)):=λh L=>kc.out c d (by rw[h]) L;clear ka kb kc mK;by_cases cb:Q=0
         ·subst cb;rw[Dk]at b5;have o5:c<12:=eL rfl;have o6:=fb rfl;have hh:Hid (8*b.length<d+c->cO o b s A=(⟨0,0,0⟩,A,1)):=λh=>hf.out (by first | rfl | trivial) h;have hi:Hid (¬8*b.length<d+c->cO o b s A=(⟨0,2+2^k+x,2^c+Fk.aF b d c⟩,d+c,0)):=λh=>hg.out (by first | rfl | trivial) h;clear hd hf hg eL fb;go_wp2_with fail;apply b5.z;rintro e a8 ⟨rfl,fc,a5⟩;have bk:=a5.heap eC (λe=>by have e:g=B:=e;omega);have cf:Fr w a8:=ag.below a4 a5 a4.size (λi e=>by have e:i=B:=e;omega);have kn:=ah.chg a5 (λk G e=>by have:=(ah.lt k G).1;have e:k=B:=e;omega);have kq:=b3.chg ba a5 (λk e=>.inl e);have kr:=a3.chg bb a5 (λk e=>.inl e);have ks:=af bk 2 rfl;have kv:=aB bk 2;have M:=ay a8 ⟨g,2,none⟩ (N c);have hj:=aI bk 2 (N c);have k0:=fc.chg M (λe=>by have e:B=g:=e;omega) (λk G e=>by have:=dk k G;have e:k=g:=e;omega);have hn:=kn.chg M (λk G e=>by have:=e4 k G;have e:k=g:=e;omega);have k1:=kq.chg ba M (λk e=>.inr (by have e:k=g:=e;omega));have k2:=kr.chg bb M (λk e=>.inr (by have e:k=g:=e;omega));have b6:Fr w (a8.setCell ⟨g,2,none⟩ (N c)):=ag.below cf M cf.size (λi e=>by have e:i=g:=e;omega);have k4:J<=(a8.setCell ⟨g,2,none⟩ (N c)).heap.size:=ar (ar b4 a5.size) M.size;clear eC ah b0 b3 a3 a4 b4 fc kn kq kr cf M b5 a5 y0 y1;go_upto_region 25 with fail;clear ks kv bk;generalize a8.setCell ⟨g,2,none⟩ (N c)=nb at *;have y2:=af hj 2 rfl;have bl:=ad (i4.out d c nb k0 ω);by_cases bm:8*b.length<d+c;·rw[an bm,an bm,an bm]at bl;have av:G0=([],a,1):=HG.out.1.symm.trans ((HM.out _ _ _ (hh.out bm)).trans (ae δ));subst av;rw[ae (show ¬(1:Nat)=0 by decide)]at hQ;clear HM hh hi HJ HG;go_wp2_with fail;apply bl.z;rintro e ch ⟨rfl,ho,a9⟩;have c4:Fr w ch:=ag.below b6 a9 b6.size (λi e=>by have e:i=B:=e;omega);go_wp2;go_ret2;rw[hQ.out];exact⟨_,rfl,Ow.nil,c4⟩
          ·rw[ae bm,ae bm,ae bm]at bl;have HY:Hid (Fk.aF b d c<2^c):=i7.out d c;have hM:=hi.out bm;generalize Fk.aF b d c=y at *;have b7:2^c<=2^11:=dn ω ω;have o7:y<2048:=(by have:=HY.out;omega);have o8:=aA (y:Int) ω;have be:=ad ((HM.out _ _ _ hM).trans (an rfl));have fh:=ad (λW=>HJ.out x c y W ω HX.out HY.out);have nd:Hid (2+2^k+x<=1000):=(by show _<=_;have:=j6.out;omega);clear HM hh hi HJ hM b7;go_wp2_with fail;apply bl.z;rintro e ch ⟨rfl,ho,a9⟩;have hq:=a9.heap hj (λe=>by have e:g=B:=e;omega);have c4:Fr w ch:=ag.below b6 a9 b6.size (λi e=>by have e:i=B:=e;omega);have k7:=hn.chg a9 (λk G e=>by have:=(hn.lt k G).1;have e:k=B:=e;omega);have k8:=k1.chg ba a9 (λk e=>.inl e);have k9:=k2.chg bb a9 (λk e=>.inl e);have oC:=af hq 3 rfl;have oG:=aB hq 3;have M:=ay ch ⟨g,3,none⟩ (.int .i64 (y:Int));have ne:=aI hq 3 (.int .i64 (y:Int));have nf:=ho.chg M (λe=>by have e:B=g:=e;omega) (λk G e=>by have:=dk k G;have e:k=g:=e;omega);have ng:=k7.chg M (λk G e=>by have:=e4 k G;have e:k=g:=e;omega);have nk:=k8.chg ba M (λk e=>.inr (by have e:k=g:=e;omega));have nl:=k9.chg bb M (λk e=>.inr (by have e:k=g:=e;omega));have nn:Fr w (ch.setCell ⟨g,3,none⟩ (.int .i64 (y:Int))):=ag.below c4 M c4.size (λi e=>by have e:i=g:=e;omega);have nr:J<=(ch.setCell ⟨g,3,none⟩ (.int .i64 (y:Int))).heap.size:=ar (ar k4 a9.size) M.size;clear hj hn k0 k1 k2 b6 k4 ho k7 k8 k9 c4 M bl a9 y2;go_wp2;go_meet;exact⟨x,c,y,d+c,⟨0,2+2^k+x,2^c+y⟩,ne,fh.out,be.out,ω,nd.out,nf,ng,nk,nl,nn,nr⟩
         ·rw[Dl _ _ _ cb]at b5;have av:G0=([],a,Q):=HG.out.1.symm.trans ((HM.out _ _ _ (hd.out cb)).trans (ae cb));subst av;rw[ae cb]at hQ;have j2:¬(Q:Int)=0:=ω;clear HM hd hf hg HJ HG eL fb cb;go_wp2_with fail;apply b5.z;rintro e a8 ⟨rfl,fc,a5⟩;have bk:=a5.heap eC (λe=>by have e:g=B:=e;omega);have cf:Fr w a8:=ag.below a4 a5 a4.size (λi e=>by have e:i=B:=e;omega);have ks:=af bk 2 rfl;have kv:=aB bk 2;have b6:Fr w (a8.setCell ⟨g,2,none⟩ (.int .i64 (-1))):=ag.below cf (ay a8 ⟨g,2,none⟩ (.int .i64 (-1))) cf.size (λi e=>by have e:i=g:=e;omega);clear eC ah b0 b3 a3 a4 b4 fc b5 a5 y0 y1 bk;go_wp2;go_ret2;rw[hQ.out];exact⟨_,rfl,Ow.nil,b6⟩
      ·
       obtain⟨x,c,y,d,t,b7,HJ,be,oL,oP,li,ll,ln,lo,lr,ls⟩:=hcut;clear ek em eq cs er es ev bv e3 e4;have c0:=af b7 0 rfl;have c1:=af b7 1 rfl;have c2:=af b7 2 rfl;have c3:=af b7 3 rfl;have fh:=ad (HJ.out wc);clear HJ b7;go_wp2_with fail;apply fh.z;rintro e Z ⟨rfl,lt⟩;have O:Fr Z (Z.alloc (.cells #[.int .u8 (t.lit.toNat:Int),N t.len,N t.dist] 295)):=(Fr.refl Z).alloc _;have hT:(Z.alloc (.cells #[.int .u8 (t.lit.toNat:Int),N t.len,N t.dist] 295)).heap[Z.heap.size]?=some (.cells #[.int .u8 (t.lit.toNat:Int),N t.len,N t.dist] 295 (0,0)):=aD _ _ _ rfl;have b9:=lt.trans O;have ah:=ll.fr b9;have b0:=li.fr b9;have b3:=ln.fr b9;have a3:=lo.fr b9;have a4:=lr.trans b9;have b4:=ar ls b9.size;clear fh ll li ln lo lr ls lt O b9 c0 c1 c2 c3;go_upto_region 32 with fail;generalize Z.alloc (.cells #[.int .u8 (t.lit.toNat:Int),N t.len,N t.dist] 295)=cz at *;generalize Z.heap.size=h at *;have e0:=af hT 0 rfl;have e1:=af hT 1 rfl;have Q:=af hT 2 rfl;have aC:di t=max 1 t.len:=rfl;have w1:=aA ((n:Int)+1) ω;have w2:=aA ((n:Int)+1+t.len) ω;have w3:IntKind.i64.wrap ((n:Int)+1+t.len-1)=(n:Int)+t.len:=(by rw[aA _ ω];omega);by_cases cj:m<di t
       ·have av:G0=([],a,6):=HG.out.1.symm.trans (be.out.trans (an cj));subst av;rw[ae (show ¬(6:Nat)=0 by decide)]at hQ;clear HG be hT ah b0 b3 a3;by_cases h0:t.len=0;·have j1:¬(0:Int)<t.len:=ω;have j2:(K:Int)<(n:Int)+1:=(by rw[aC]at cj;omega);clear aC cj;go_wp2;go_ret2;rw[hQ.out];exact⟨_,rfl,Ow.nil,a4⟩
        ·have j1:(0:Int)<t.len:=ω;have j2:(K:Int)<(n:Int)+t.len:=(by rw[aC]at cj;omega);clear aC cj;go_wp2;go_ret2;rw[hQ.out];exact⟨_,rfl,Ow.nil,a4⟩
       ·have bl:=ad (And.intro ((be.out.trans (ae cj)).symm.trans HG.out.1) trivial);have lz:Hid (D.length+[t].length<=2147483648):=(by show _<=_;simp;omega);have pa:1<=di t:=(by rw[aC];omega);have l0:=ad b0;have l1:=ad b3;have l2:=ad a3;clear HG be hT b0 b3 a3;have fn:Hid (∀v9 w9,dF J j8 (D++[t]) cz (.slice p D.length z) v9 w9->∀n',n'=n+di t->(∃(f m a n:Nat) (D:List bW),N n'=N n/\n+m=K/\Hid (cJ I o b f m a D=G0/\True)/\8*b.length+1<=f+a/\D.length+m<=K/\Ow w9 J j8 v9 D/\ii w9 B (B+1) v (aZ b) a/\jV w9 g1 b1 J (.slice la 265 lc) (.slice ca 265 cc) I/\jV w9 g2 b2 J (.slice U 12 V) (.slice X 12 Y) o/\Fr w w9/\J<=w9.heap.size)):=(by intro v9 w9 ap n' pb;exact⟨f,m-di t,d,n',D++[t],rfl,ω,bl.out,ω,by rw[aM];simp;omega,ap.own,l0.out.chg ap.chg' (λe=>by have:=(ah.lt B e).1;omega) (λk G e=>by have:=(ah.lt k e).1;have:=dk k G;omega),l1.out.chg ba ap.chg' (λk e=>.inr (ah.lt k e).1),l2.out.chg bb ap.chg' (λk e=>.inr (ah.lt k e).1),ap.below ah a4 iv a4.size,ar b4 ap.size⟩);clear bl l0 l1 l2;by_cases h0:t.len=0
        ·have j1:¬(0:Int)<t.len:=ω;have n0:di t=1:=(by rw[aC];omega);have j2:¬(K:Int)<(n:Int)+1:=ω;have n1:n<K:=ω;clear aC h0;go_wp2_with (at_builtin;refine bA j8 rfl (.tmp 122) (.tmp 124) 208 rfl underlying208 J rfl ah [t] _ _ _ rfl rfl rfl lz.out b4 ?_);intro v9 w9 ap;obtain⟨f',m',a',n',o',hN,c6⟩:=fn.out v9 w9 ap (n+1) ω;have HR:=ad (And.intro hN c6);clear hN c6 fn ap;go_wp2;go_roundw;·exact⟨f',m',a',n',o',by rw[<- HR.out.1];go_num,HR.out.2⟩
         ·exact μ
        ·have j1:(0:Int)<t.len:=ω;have n0:di t=t.len:=(by rw[aC];omega);have j2:¬(K:Int)<(n:Int)+t.len:=ω;have n1:n<K:=ω;have pc:1<=t.len:=ω;clear aC;go_wp2_with (at_builtin;refine bA j8 rfl (.tmp 122) (.tmp 124) 208 rfl underlying208 J rfl ah [t] _ _ _ rfl rfl rfl lz.out b4 ?_);intro v9 w9 ap;obtain⟨f',m',a',n',o',hN,c6⟩:=fn.out v9 w9 ap (n+t.len) ω;have HR:=ad (And.intro hN c6);clear hN c6 fn ap;go_wp2;go_roundw;·exact⟨f',m',a',n',o',by rw[<- HR.out.1];go_num,HR.out.2⟩
         ·exact μ
    ·have av:G0=([],a,e):=HG.out.1.symm.trans (T1.out he);rw[Dl _ _ _ he]at bS;subst av;rw[ae he]at hQ;have j1:¬(e:Int)=0:=ω;clear T1 T2 T3 T4 HG;go_wp2_with fail;apply bS.z;rintro e' w8 ⟨rfl,eb,bd⟩;have bT:Fr w w8:=ag.below hF bd hF.size (λi e=>by have e:i=B:=e;omega);go_wp2;go_ret2;rw[hQ.out];exact⟨_,rfl,Ow.nil,bT⟩
  ·have hQ:=ad (cF.out hH);have j2:¬(fe:Int)=0:=ω;clear cF cL ge gc gi;go_wp2;go_ret2;rw[hQ.out];exact⟨_,rfl,Ow.nil,gg⟩
 ·have hQ:=ad (K1.out h7);have j2:¬(se:Int)=0:=ω;clear K1 K2 K3 fC fQ cC;go_wp2;go_ret2;rw[hQ.out];exact⟨_,rfl,Ow.nil,fS⟩
end Go.Proofs
namespace Go.Fk
def BJ(e:Nat)(t:bW)(l:List bW)(d:U0)(h:gR t=true)(f:d.length<t.dist):dU e (t::l) d=([],8):=by rw[dU,ae (by rw[h];simp),an f]
def BI(e:Nat)(t:bW)(l:List bW)(d:U0)(h:gR t=true)(f:¬d.length<t.dist)(m:e<d.length+di t):dU e (t::l) d=([],6):=by rw[dU,ae (by rw[h];simp),ae f,an m]
def BH(e:Nat)(t:bW)(l:List bW)(d:U0)(h:gR t=true)(f:¬d.length<t.dist)(m:¬e<d.length+di t)(o:t.len=0):dU e (t::l) d=dU e l (d++[t.lit]):=by rw[dU,ae (by rw[h];simp),ae f,ae m,an o]
def BL(e:Nat)(t:bW)(l:List bW)(d:U0)(h:gR t=true)(f:¬d.length<t.dist)(m:¬e<d.length+di t)(o:¬t.len=0):dU e (t::l) d=dU e l (kA t.dist t.len d):=by rw[dU,ae (by rw[h];simp),ae f,ae m,ae o]
end Go.Fk
namespace Go.Proofs
open RowKit Fk Tryz
def Q1(v:Value)(l:List bW)(q:Nat)(w:World)(hs:ao w j8 v l)(hm:∀t∈l,gR t=true)(hl:l.length<=1000000)(ct:q<=1000000):Calls prog 252 #[v,N q] w λe w'=>∃u,e=.returned (.tuple #[u,.int .i64 ((dU q l []).2:Int)])/\Ow w' w.heap.size eB u (dU q l []).1/\Fr w w':=by
 have b5:=ad (λt W (h:gR t=true)=>Q2 t W h);have b6:=ad (λk (hk:k<l.length)=>Ad hs k hk);have HM:=ad (λk (hk:k<l.length)=>hm l[k] (co hk));obtain⟨a0,cv,rfl,_⟩:=hs.shape;clear hs hm;obtain⟨I,av⟩:∃I,dU q l []=I:=⟨_,rfl⟩;have b9:=ad (And.intro av trivial);rw[av];clear av;go_in;go_wp2;go_loopw [13,6] (λkv ov wr=>∃(k:Nat) (m:U0),k<=l.length/\kv=N k/\Hid (dU q (l.drop k) m=I/\True)/\m.length<=q/\Ow wr w.heap.size eB ov m/\Fr w wr) (λkv _ _=>l.length-(intOf kv).toNat);·exact⟨0,[],ax _,rfl,b9,ax _,Ow.nil,Fr.refl _⟩
 ·
  obtain⟨k,m,hk,rfl,A,cz,Q,hF⟩:=hrel;obtain⟨p,z,rfl⟩:=Q.shape';by_cases a2:k<l.length
  ·obtain⟨b,c5,cp,bC,c0,c1,c2⟩:=b6.out k a2;cases bC;have F:=HM.out k a2;have bk:=ad (λW=>b5.out l[k] W F);have hD:l.drop k=l[k]::l.drop (k+1):=kO a2;rw[hD]at A;have R:=ad (BJ q l[k] (l.drop (k+1)) m F);have U:=ad (BI q l[k] (l.drop (k+1)) m F);have V:=ad (BH q l[k] (l.drop (k+1)) m F);have X:=ad (BL q l[k] (l.drop (k+1)) m F);have c7:l[k].len<=257:=by
    by_cases h0:l[k].len=0;·omega
    ·exact(pW l[k] F h0).2.2.1
   have bl:¬l[k].len=0->1<=l[k].dist:=λh0=>(pW l[k] F h0).2.2.2.1;clear hD F;generalize l[k]=t at *;have x0:=hF.cell c0;have x1:=hF.cell c1;have x2:=hF.cell c2;have i1:(k:Int)<l.length:=ω;have i2:(0:Int)<=k:=ω;have ah:Fr wr (wr.alloc (.cells #[.int .u8 (t.lit.toNat:Int),N t.len,N t.dist] 295)):=(Fr.refl wr).alloc _;have Y:(wr.alloc (.cells #[.int .u8 (t.lit.toNat:Int),N t.len,N t.dist] 295)).heap[wr.heap.size]?=some (.cells #[.int .u8 (t.lit.toNat:Int),N t.len,N t.dist] 295 (0,0)):=aD _ _ _ rfl;clear c0 c1 c2;go_upto_region 7 with fail;have bm:=ad (bk.out (wr.alloc (.cells #[.int .u8 (t.lit.toNat:Int),N t.len,N t.dist] 295)));have bq:=Q.fr ah;have bs:=hF.trans ah;have cB:=ah.size;clear Q hF x0 x1 x2 bk ah;generalize wr.alloc (.cells #[.int .u8 (t.lit.toNat:Int),N t.len,N t.dist] 295)=W1 at *;have y0:=af Y 0 rfl;have y1:=af Y 1 rfl;have y2:=af Y 2 rfl;go_wp2_with fail;apply bm.z;rintro e w2 ⟨rfl,J⟩;have Z:=J.heap Y;have K:=bq.fr J;have L:=bs.trans J;have z0:=J.cell y0;have z1:=J.cell y1;have z2:=J.cell y2;clear y0 y1 y2 Y bq bs bm;have G:di t=max 1 t.len:=rfl;by_cases g1:m.length<t.dist;·have aa:I=([],8):=A.out.1.symm.trans (R.out g1);subst aa;have j1:(m.length:Int)<t.dist:=ω;clear R U V X A K G;go_wp2;go_ret2;exact⟨_,rfl,Ow.nil,L⟩
   ·have j1:¬(m.length:Int)<t.dist:=ω;by_cases D:q<m.length+di t;·have aa:I=([],6):=A.out.1.symm.trans (U.out g1 D);subst aa;have j2:(q:Int)-m.length<max 1 (t.len:Int):=(by rw[G]at D;omega);clear R U V X A K G;go_wp2;go_ret2;exact⟨_,rfl,Ow.nil,L⟩
    ·have j2:¬(q:Int)-m.length<max 1 (t.len:Int):=(by rw[G]at D;omega);have a6:=L.size;by_cases g3:t.len=0
     ·have al:=ad (And.intro ((V.out g1 D g3).symm.trans A.out.1) trivial);have ca:m.length+1<=q:=(by rw[G]at D;omega);have a7:Hid (m.length+[t.lit].length<=2147483648):=(by show _<=_;simp;omega);rw[g3]at z1 j2;clear R U V X A G D Z;go_wp2_with (at_builtin;refine bA eB rfl (.tmp 39) (.tmp 42) 22 rfl sJ w.heap.size rfl K [t.lit] _ _ _ rfl rfl rfl a7.out a6 ?_);intro v9 w9 M;have a9:Fr w w9:=M.below K L (au _) a6;go_wp2;go_roundw;·exact⟨k+1,m++[t.lit],ω,γ,al,by simp;omega,M.own,a9⟩
      ·exact μ
     ·have al:=ad (And.intro ((X.out g1 D g3).symm.trans A.out.1) trivial);have cF:=bl g3;have ca:m.length+t.len<=q:=(by rw[G]at D;omega);have j3:¬(t.len:Int)=0:=ω;have j4:((t.len:Int) == 0)=false:=(by simpa using j3);obtain⟨C,hC⟩:∃C,kA t.dist t.len m=C:=⟨_,rfl⟩;rw[hC]at al;have HC:=ad (And.intro hC trivial);have cN:Hid (C.length=m.length+t.len):=(by show _=_;rw[<- hC];exact DT t.dist t.len m);clear R U V X A G D z0 z1 z2 hC bl;generalize cf:wr.heap.size=g at *;have z1:=af Z 1 rfl;have z2:=af Z 2 rfl;clear cf;go_wp2;go_loopw [46,6] (λjv ov wx=>∃(j:Nat) (o:U0),j<=t.len/\jv=N j/\Hid (kA t.dist (t.len-j) o=C/\True)/\o.length=m.length+j/\Ow wx w.heap.size eB ov o/\wx.heap[g]?=some (.cells #[.int .u8 (t.lit.toNat:Int),N t.len,N t.dist] 295 (0,0))/\Fr w wx) (λjv _ _=>t.len-(intOf jv).toNat);·exact⟨0,m,ax _,rfl,HC,rfl,K,Z,L⟩
      ·
       clear K Z L a6 z1 z2 HC;obtain⟨j,o,hj,rfl,am,b0,O,bb,bc⟩:=hrel;obtain⟨p3,z3,rfl⟩:=O.shape';have y2:=af bb 2 rfl;by_cases db:j<t.len
       ·have ab:o.length-t.dist<o.length:=ω;obtain⟨b3,ci,dc,cj,c3⟩:=O.see.cell1 Fk.u8 rfl (o.length-t.dist) ab;cases cj;have ck:Hid (kA t.dist (t.len-(j+1)) (o++[o[o.length-t.dist]'ab])=C/\True):=(by refine⟨?_,trivial⟩;have h:=am.out.1;rw[show t.len-j=(t.len-(j+1))+1 by omega,kA,fx,cQ ab]at h;exact h);generalize o[o.length-t.dist]'ab=x at *;have i3:(j:Int)<t.len:=ω;obtain⟨d,hd⟩:∃d,d=o.length-t.dist:=⟨_,rfl⟩;have c4:wr.cell? ⟨b3,ci+d,none⟩=some (Fk.u8 x):=(by rw[hd];exact c3);have dj:wrap64 ((o.length:Int)-t.dist)=(d:Int):=(by rw[qT _ ω];omega);have i4:(d:Int)<o.length:=ω;have i5:(0:Int)<=(d:Int):=ω;have a7:Hid (o.length+[x].length<=2147483648):=(by show _<=_;simp;omega);have b4:=bc.size;have cm:=ad b0;clear am c3 hd b0 ab;go_wp2_with (at_builtin;refine bA eB rfl (.tmp 48) (.tmp 57) 22 rfl sJ w.heap.size rfl O [x] _ _ _ rfl rfl rfl a7.out b4 ?_);intro v9 w9 M;have cn:=M.chg'.heap bb (O.ne_cells bb δ);have a9:Fr w w9:=M.below O bc (au _) b4;go_wp2;go_roundw;·exact⟨j+1,o++[x],ω,γ,ck,by have:=cm.out;simp;omega,M.own,cn,a9⟩
        ·exact μ
       ·obtain rfl:j=t.len:=ω;have cq:o=C:=(by have:=am.out.1;rw[eA]at this;exact this);subst cq;have i3:¬(t.len:Int)<t.len:=ω;clear am;go_wp2;go_roundw;·exact⟨k+1,o,ω,γ,al,ω,O,bc⟩
        ·exact μ
  ·obtain rfl:k=l.length:=ω;have aa:I=(m,0):=(by have:=A.out.1;rw[qR]at this;exact this.symm);subst aa;have HO:=ad Q;clear A Q;go_wp2;go_ret2;exact⟨_,rfl,HO.out,hF⟩
open Go.RowKit Go.Fk Tryz
def Pk(v:Value)(l:List bW)(q:Nat)(w:World)(hs:ao w j8 v l)(hm:∀t∈l,gR t=true)(hl:l.length<=1000000)(ci:q<=1000000):Calls prog 153 #[v,N q] w λe w'=>∃u,e=.returned (.tuple #[u,.int .i64 ((dU q l []).2:Int)])/\Ow w' w.heap.size eB u (dU q l []).1/\Fr w w':=by
 have be:=ad (λt W (h:gR t=true)=>PF t W h);have bf:=ad (λk (Z:k<l.length)=>Ad hs k Z);have HM:=ad (λk (Z:k<l.length)=>hm l[k] (co Z));obtain⟨a0,ck,rfl,_⟩:=hs.shape;obtain⟨F,a3⟩:∃F,dU q l []=F:=⟨_,rfl⟩;have bl:=ad (And.intro a3 trivial);rw[a3];have k1:¬(q:Int)<0:=ω
 go_in;go_wp2;go_loopw [7,6] (λkv M wr=>∃(k:Nat) (m:U0),k<=l.length/\kv=N k/\Hid (dU q (l.drop k) m=F/\True)/\m.length<=q/\Ow wr w.heap.size eB M m/\Fr w wr) (λkv _ _=>l.length-(intOf kv).toNat);·exact⟨0,[],ax _,rfl,bl,ax _,Ow.nil,Fr.refl _⟩
 ·
  obtain⟨k,m,Z,rfl,G,cm,hO,hF⟩:=hrel;obtain⟨p,z,rfl⟩:=hO.shape';by_cases am:k<l.length
  ·obtain⟨b,cn,cp,bm,c0,c1,c2⟩:=bf.out k am;cases bm;have D:=HM.out k am;have bt:=ad (be.out l[k] wr D);have hD:l.drop k=l[k]::l.drop (k+1):=kO am;rw[hD]at G;have E1:=ad (BJ q l[k] (l.drop (k+1)) m D);have E2:=ad (BI q l[k] (l.drop (k+1)) m D);have E3:=ad (BH q l[k] (l.drop (k+1)) m D);have E4:=ad (BL q l[k] (l.drop (k+1)) m D);have cr:l[k].len<=257:=by
    by_cases O:l[k].len=0;·omega
    ·exact(pW l[k] D O).2.2.1
   have b0:¬l[k].len=0->1<=l[k].dist:=λO=>(pW l[k] D O).2.2.2.1;have b1:l[k].len=0->l[k].dist=0:=λO=>(by have h:=D;unfold gR at h;rw[an O]at h;simpa using h);generalize l[k]=t at *;have HC:=ad (λW (h:Fr w W)=>And.intro (h.cell c0) (And.intro (h.cell c1) (h.cell c2)));obtain⟨x0,x1,x2⟩:=HC.out wr hF;have i1:(k:Int)<l.length:=ω;have i2:(0:Int)<=k:=ω;go_wp2_with fail;apply bt.z;rintro e w2 ⟨rfl,a5⟩;have ap:=hO.fr a5;have I:=hF.trans a5;have a6:=I.size;obtain⟨z0,z1,z2⟩:=HC.out w2 I;have a7:di t=max 1 t.len:=rfl;by_cases K:t.len=0
   ·have hd:=b1 K;rw[K]at z1;rw[hd]at z2;have Q:di t=1:=(by rw[a7];omega);have L:¬m.length<t.dist:=ω;have i3:¬(m.length:Int)<0:=ω;have i4:=aA ((m.length:Int)+1) ω;by_cases A:q<m.length+di t;·have J:F=([],6):=G.out.1.symm.trans (E2.out L A);subst J;have j2:(q:Int)<(m.length:Int)+1:=(by rw[Q]at A;omega);go_wp2;go_ret2;exact⟨_,rfl,Ow.nil,I⟩
    ·have ac:=ad (And.intro ((E3.out L A K).symm.trans G.out.1) trivial);have b7:m.length+1<=q:=(by rw[Q]at A;omega);have j2:¬(q:Int)<(m.length:Int)+1:=ω;have az:Hid (m.length+[t.lit].length<=2147483648):=(by show _<=_;simp;omega);go_wp2_with (at_builtin;refine bA eB rfl (.tmp 52) (.tmp 58) 22 rfl sJ w.heap.size rfl ap [t.lit] _ _ _ rfl rfl rfl az.out a6 ?_);intro v9 R U;have ah:Fr w R:=U.below ap I (au _) a6;have b9:=U.own;obtain⟨_,y1,_⟩:=HC.out R ah;rw[K]at y1;go_wp2;go_loopw [9,6] (λV M wx=>V=N 0/\M=v9/\wx=R) (λ_ _ _=>0);·exact⟨rfl,rfl,rfl⟩
     ·
      obtain⟨rfl,rfl,rfl⟩:=hrel;go_wp2;go_roundw;·exact⟨k+1,m++[t.lit],ω,γ,ac,by simp;omega,b9,ah⟩
      ·exact μ
   ·have j3:¬(t.len:Int)=0:=ω;have j4:((t.len:Int) == 0)=false:=(by simpa using j3);have c7:=b0 K;have i4:=aA ((m.length:Int)+t.len) ω;have Q:di t=t.len:=(by rw[a7];omega);by_cases L:m.length<t.dist;·have J:F=([],8):=G.out.1.symm.trans (E1.out L);subst J;have j1:(m.length:Int)<t.dist:=ω;go_wp2;go_ret2;exact⟨_,rfl,Ow.nil,I⟩
    ·have j1:¬(m.length:Int)<t.dist:=ω;by_cases A:q<m.length+di t;·have J:F=([],6):=G.out.1.symm.trans (E2.out L A);subst J;have j2:(q:Int)<(m.length:Int)+t.len:=(by rw[Q]at A;omega);go_wp2;go_ret2;exact⟨_,rfl,Ow.nil,I⟩
     ·have ac:=ad (And.intro ((E4.out L A K).symm.trans G.out.1) trivial);have b7:m.length+t.len<=q:=(by rw[Q]at A;omega);have j2:¬(q:Int)<(m.length:Int)+t.len:=ω;obtain⟨C,hC⟩:∃C,kA t.dist t.len m=C:=⟨_,rfl⟩;rw[hC]at ac;have bL:=ad (And.intro hC trivial);go_wp2;go_loopw [9,6] (λV M wx=>∃(j:Nat) (o:U0),j<=t.len/\V=N j/\Hid (kA t.dist (t.len-j) o=C/\True)/\o.length=m.length+j/\Ow wx w.heap.size eB M o/\Fr w wx) (λV _ _=>t.len-(intOf V).toNat);·exact⟨0,m,ax _,rfl,bL,rfl,ap,I⟩
      ·
       obtain⟨j,o,hj,rfl,a1,ba,X,aj⟩:=hrel;obtain⟨p3,z3,rfl⟩:=X.shape';obtain⟨_,y1,y2⟩:=HC.out wr aj;by_cases cE:j<t.len
       ·have Y:o.length-t.dist<o.length:=ω;obtain⟨b3,bS,cF,bT,c3⟩:=X.see.cell1 Fk.u8 rfl (o.length-t.dist) Y;cases bT;have ca:Hid (kA t.dist (t.len-(j+1)) (o++[o[o.length-t.dist]'Y])=C/\True):=(by refine⟨?_,trivial⟩;have h:=a1.out.1;rw[show t.len-j=(t.len-(j+1))+1 by omega,kA,fx,cQ Y]at h;exact h);generalize o[o.length-t.dist]'Y=x at *;have i3:(j:Int)<t.len:=ω;obtain⟨d,hd⟩:∃d,d=o.length-t.dist:=⟨_,rfl⟩;have c4:wr.cell? ⟨b3,bS+d,none⟩=some (Fk.u8 x):=(by rw[hd];exact c3);have cN:wrap64 ((o.length:Int)-t.dist)=(d:Int):=(by rw[qT _ ω];omega);have i5:(d:Int)<o.length:=ω;have i6:(0:Int)<=(d:Int):=ω;have az:Hid (o.length+[x].length<=2147483648):=(by show _<=_;simp;omega);have bc:=aj.size;have cb:=ad ba;clear a1 c3 hd ba Y;go_wp2_with (at_builtin;refine bA eB rfl (.tmp 80) (.tmp 82) 22 rfl sJ w.heap.size rfl X [x] _ _ _ rfl rfl rfl az.out bc ?_);intro v9 R U;have ah:Fr w R:=U.below X aj (au _) bc;go_wp2;go_roundw;·exact⟨j+1,o++[x],ω,γ,ca,by have:=cb.out;simp;omega,U.own,ah⟩
        ·exact μ
       ·obtain rfl:j=t.len:=ω;have cc:o=C:=(by have:=a1.out.1;rw[eA]at this;exact this);subst cc;have i3:¬(t.len:Int)<t.len:=ω;go_wp2;go_roundw;·exact⟨k+1,o,ω,γ,ac,ω,X,aj⟩
        ·exact μ
  ·obtain rfl:k=l.length:=ω;have J:F=(m,0):=(by have:=G.out.1;rw[qR]at this;exact this.symm);subst J;have HO:=ad hO;go_wp2;go_ret2;exact⟨_,rfl,HO.out,hF⟩
end Go.Proofs
namespace Go.Fk
def Jz(e:Nat)(l:List bW):∀d:U0,d.length<=e->(dU e l d).1.length<=e:=by
 induction l with
 | nil=>intro d h;exact h
 | cons t l f=>
  intro d h;rw[dU];have m:di t=max 1 t.len:=rfl;split;·simp
  ·split;·simp
   ·split;·simp
    ·rename_i o;split;·grind
     ·refine f _ ?_;rw[DT];omega
def Gs(n:Nat)(d:U0):(n9 n d).1.length<=n:=by
 unfold n9;split
 ·split
  ·split;·simp
   ·exact Jz n _ [] (ax _)
  ·simp
 ·simp
def GY(s:Cs)(l:U0)(n:Nat):(s.take l n).1.length<=n:=by
 unfold Cs.take;grind
def KI(r:U0)(n:Nat):∀f a d e,d.length<=n->n<=d.length+f->(dO r n f a d e).2.2=0->(dO r n f a d e).1.length=n:=by
 intro f
 induction f with
 | zero=>intro a d e h m _;show d.length=n;omega
 | succ f p=>intro a d e h m o;rw[dO]at o ⊢;grind
def C4(r:U0)(n a:Nat)(h:(aU r n a).2.2=0):(aU r n a).1.length=n:=by
 unfold aU at h ⊢;by_cases d:(dO r n n a [] false).2.2=0
 ·rw[an d]at h ⊢;by_cases c2:df (dO r n n a [] false).1=true;·rw[an c2]at h ⊢;exact KI r n n a [] false (ax _) σ d
  ·grind
 ·grind
def GH(d e r:U0):∀f h a m,(cJ d e r f h a m).1.length<=m.length+h:=by
 intro f
 induction f with
 | zero=>intro h a m;exact uU _ _
 | succ f o=>
  intro h a m;rw[pM];split
  ·split
   ·split;·simp
    ·rename_i p;have q:=o (h-di (cD d e r a).1) (cD d e r a).2.2.1 (m++[(cD d e r a).1]);have z:di (cD d e r a).1=max 1 (cD d e r a).1.len:=rfl;grind
   ·simp
  ·simp
def Ac(r:U0)(d:Nat):(dh r d).1.length<=d/\∀t∈(dh r d).1,gR t=true:=by
 unfold dh;split
 ·rename_i e;split
  ·rename_i f;split
   ·split;·have m:(nC r d).1.length<=0+d:=GH (ly r).1 (lT r).1 r (8*r.length+1) d (lT r).2.1 [];refine⟨by show(nC r d).1.length<=d;omega,?_⟩;exact GJ _ _ r (C4 r 265 0 e) (C4 r 12 _ f) _ _ _ [] (λt h=>(kK h).elim)
    ·simp
   ·simp
  ·simp
 ·simp
end Go.Fk
namespace Go.Proofs
open RowKit Fk Tryz
def Es(b:U0):(ej b).1.length<=32768:=by
 have d:(bH b).1<=32768:=Cs.int_top _ _ _;have e:(bV b).1<=32768:=Cs.int_top _ _ _;have f:(cy b).1.length<=(bV b).1:=GY _ _ _;unfold ej;split;·grind
 ·exact ar (Gs _ _) d
def yI(b:U0):(bU b).1.length<=32768:=by
 unfold bU;split
 ·split;·exact Es b
  ·simp
 ·simp
def AP(r:aQ):Prop:=r.source.length<=4000/\r.text.length<=4000
def IS(m:Bool)(b:U0):∀f s d,(∀r∈d,AP r)->(iM m b f s d).1.length<=d.length+f/\∀r∈(iM m b f s d).1,AP r:=by
 intro f
 induction f with
 | zero=>intro s d h;exact⟨au _,h⟩
 | succ f p=>
  intro s d h;rw[iM];split;·grind
  ·split;·rename_i q;have o:=wE m b s q;have A:=p (eW m b s).2 (d++[gW m b s]) (λr z=>(iI.1 z).elim (h r) λe=>by rw[lp.1 e];exact⟨o.2.2.1,o.2.2.2⟩);grind
   ·simp
def wC(d:Bool)(b:U0):(eT d b).1.length<=b.length:=by
 have h:(eT d b).1.length<=0+b.length:=(IS d b b.length ⟨0,0⟩ [] (λr e=>(kK e).elim)).1;omega
end Go.Proofs
namespace Go.Fk
def Ak(s:Cs)(l:U0)(k:Nat)(h:(s.take l k).2.er=0):s.er=0/\s.at_+k<=l.length/\s.take l k=((l.drop s.at_).take k,⟨s.at_+k,0⟩):=by
 unfold Cs.take at h ⊢;by_cases d:s.er=0
 ·rw[an d]at h ⊢;by_cases e:l.length<s.at_+k;·rw[an e]at h;cases h
  ·rw[ae e];exact⟨d,ω,rfl⟩
 ·rw[ae d]at h;exact absurd h d
def NN(b:U0)(h:fJ b=0):(dY b).2.at_=(ey b).at_+(bV b).1+4/\(dY b).2.at_<=b.length/\(cy b).1=(b.take ((ey b).at_+(bV b).1)).drop (ey b).at_:=by
 have d:(dY b).2.er=0:=by
  unfold fJ at h;by_cases d:(dY b).2.er=0;·exact d
  ·rw[ae d]at h;exact absurd h d
 obtain⟨m,o,p⟩:=Ak _ _ _ d;obtain⟨A,D,q⟩:=Ak (ey b) b (bV b).1 m;have e:cy b=((b.drop (ey b).at_).take (bV b).1,⟨(ey b).at_+(bV b).1,0⟩):=q;have f:dY b=((b.drop (cy b).2.at_).take 4,⟨(cy b).2.at_+4,0⟩):=p;have z:(cy b).2.at_=(ey b).at_+(bV b).1:=by rw[e]
 refine⟨by rw[f,z],by rw[f];exact o,?_⟩;rw[e,lQ,nt]
end Go.Fk
namespace Go.Proofs
open RowKit Fk Tryz
def Qc(v:Value)(b:U0)(w:World)(I:ao w eB v b)(hl:b.length<=1000000)(ht:dm w):Calls prog 88 #[v] w λe w'=>∃u,e=.returned (.tuple #[u,N (bU b).2.1,.int .i64 ((bU b).2.2:Int)])/\Ow w' w.heap.size eB u (bU b).1/\Fr w w':=by
 have K:=ad (PP v b w I hl ht);by_cases G:fJ b=0
 ·have M:oV b=.tuple #[N (dr b).1,N (bH b).1,N (bV b).1,N (ey b).at_,.int .i64 0]:=(by unfold oV;rw[an G]);have A:Hid (bU b=if(ej b).2=0 then((ej b).1,(dY b).2.at_,0)else([],0,(ej b).2)):=(by show _=_;unfold bU;rw[an G]);obtain⟨t1,t2,t3⟩:=NN b G;have D:Hid (ej b=if(dr b).1=0 then(if(bH b).1=(bV b).1 then((cy b).1,0)else([],2))else n9 (bH b).1 (cy b).1):=rfl;have hn:(bH b).1<=32768:=Cs.int_top _ _ _;have hp:(bV b).1<=32768:=Cs.int_top _ _ _;have a5:(cy b).1.length=(bV b).1:=(by rw[t3,bn,aP];omega);have HU:Hid (∀n o,n9 n o=if(dh o n).2=0 then(if(dU n (dh o n).1 []).2=0 then(if(dU n (dh o n).1 []).1.length<n then([],2)else((dU n (dh o n).1 []).1,0))else([],(dU n (dh o n).1 []).2))else([],(dh o n).2)):=λ_ _=>rfl;have HT:=ad (λW u (h:ao W eB u (cy b).1)=>OX u (cy b).1 (bH b).1 W h ω ω);have a7:=Ac (cy b).1 (bH b).1;have HP:=ad (λW u (h:ao W j8 u (dh (cy b).1 (bH b).1).1)=>Pk u (dh (cy b).1 (bH b).1).1 (bH b).1 W h a7.2 ω ω);rw[M]at K;rw[t1]at A;have F:=ad (HU.out (bH b).1 (cy b).1);obtain⟨a0,a9,rfl,_⟩:=I.shape;have aj:=ad (λW (h:Fr w W)=>l9 eB 22 sJ (I.fr h) (ey b).at_ ((ey b).at_+(bV b).1) ω ω);rw[<- t3]at aj;have bL:(ey b).at_<=1000000:=ω;clear I ht M t1 t2 t3 G HU a7;generalize bU b=Q,ej b=O at *;generalize n9 (bH b).1 (cy b).1=US,dh (cy b).1 (bH b).1=T at *;generalize dU (bH b).1 T.1 []=L at *;generalize (cy b).1=o,(ey b).at_=d,(bV b).1=p,(bH b).1=n,(dr b).1=x at *;obtain⟨tl,te⟩:=T;obtain⟨X,le⟩:=L;simp only at F HT HP;have i1:=aA ((d:Int)+p) ω;have i2:=aA ((d:Int)+p+4) ω;have hN:N (d+p+4)=.int .i64 ((d:Int)+p+4):=(by unfold N;rw[show((d+p+4:Nat):Int)=(d:Int)+p+4 by omega]);have HN:=ad (And.intro hN trivial);clear hN;go_in;go_wp2_with fail;apply K.z;rintro e m ⟨rfl,R⟩;have al:Ow (m.alloc (.cells #[] 5)) m.heap.size eB (.slice (some ⟨m.heap.size,0,none⟩) 0 0) []:=md eB m #[] [] 0 rfl (ax _) (au _);have U:Fr m (m.alloc (.cells #[] 5)):=(Fr.refl m).alloc _;obtain⟨ma,mc,am,ap⟩:=aj.out _ (R.trans U);rw[show d+p-d=p by omega]at am ap;have bt:∀W,(Instr.slice 22 (.slice a0 b.length a9) (some (.int .i64 (d:Int))) (some (.int .i64 ((d:Int)+p))) none).run prog W=.ok (.slice ma p mc) W:=λW=>(by have:=am W;rw[show((d+p:Nat):Int)=(d:Int)+p by omega]at this;exact this);have ca:o.length<=1000000:=ω;clear am aj K;go_wp2_with (at_builtin;refine fT eB rfl (.tmp 24) (.tmp 30) 22 rfl sJ m.heap.size rfl al _ _ rfl ap ?c1 U.size ?_);case c1=>simp;omega
  intro v5 w5 az;have bv:Fr m w5:=az.below al U (au _) U.size;have Y:Ow w5 m.heap.size eB v5 o:=(by simpa using az.own);have a1:=R.trans bv;have bx:w.heap.size<=m.heap.size:=R.size;have b0:=ad (Y.rebase bx);obtain⟨p5,z5,ba⟩:=Y.shape';rw[a5]at ba;subst ba;have bb:=Y.see;clear az al ap Y U bt a5;by_cases hx:x=0
  ·rw[an hx]at D;have j1:(x:Int)=0:=ω;by_cases be:n=p;·have J:=D.out;rw[an be]at J;have q:Hid (Q=(o,d+p+4,0)):=ad (by rw[A.out,J];rfl);have V:(n:Int)=p:=ω;go_wp2;go_ret3;rw[q.out,HN.out.1];exact⟨_,rfl,b0.out,a1⟩
   ·have J:=D.out;rw[ae be]at J;have q:Hid (Q=([],0,2)):=ad (by rw[A.out,J];rfl);have V:¬(n:Int)=p:=ω;clear D A J HT HP F bb;go_wp2;go_ret3;rw[q.out];exact⟨_,rfl,Ow.nil,a1⟩
  ·rw[ae hx]at D;have j1:¬(x:Int)=0:=ω;have b1:=ad (HT.out w5 _ bb);go_wp2_with fail;apply b1.z;rintro e w6 ⟨u6,rfl,b4,b5⟩;have a2:=a1.trans b5;by_cases Z:te=0
   ·have b6:=ad (HP.out w6 u6 b4.see);rw[an Z]at F;subst Z;go_wp2_with fail;apply b6.z;rintro e w7 ⟨u7,rfl,bf,b7⟩;have a3:=a2.trans b7;by_cases aa:le=0
    ·rw[an aa]at F;subst aa;obtain⟨p7,z7,rfl⟩:=bf.shape';by_cases bk:X.length<n;·have z:=F.out;rw[an bk]at z;have q:Hid (Q=([],0,2)):=ad (by rw[A.out,D.out,z];rfl);have V:(X.length:Int)<n:=ω;go_wp2;go_ret3;rw[q.out];exact⟨_,rfl,Ow.nil,a3⟩
     ·have z:=F.out;rw[ae bk]at z;have q:Hid (Q=(X,d+p+4,0)):=ad (by rw[A.out,D.out,z];rfl);have V:¬(X.length:Int)<n:=ω;have b9:=ad (bf.rebase a2.size);go_wp2;go_ret3;rw[q.out,HN.out.1];exact⟨_,rfl,b9.out,a3⟩
    ·have z:=F.out;rw[ae aa]at z;have q:Hid (Q=([],0,le)):=(by show _=_;rw[A.out,D.out,z];exact ae aa);have V:¬(le:Int)=0:=ω;go_wp2;go_ret3;rw[q.out];exact⟨_,rfl,Ow.nil,a3⟩
   ·have z:=F.out;rw[ae Z]at z;have q:Hid (Q=([],0,te)):=(by show _=_;rw[A.out,D.out,z];exact ae Z);have V:¬(te:Int)=0:=ω;go_wp2;go_ret3;rw[q.out];exact⟨_,rfl,Ow.nil,a2⟩
 ·have M:oV b=.tuple #[.int .i64 0,.int .i64 0,.int .i64 0,.int .i64 0,.int .i64 (fJ b:Int)]:=(by unfold oV;rw[ae G]);have A:Hid (bU b=([],0,fJ b)):=(by show _=_;unfold bU;rw[ae G]);rw[M]at K;have j1:¬(fJ b:Int)=0:=ω;obtain⟨a0,a9,rfl,_⟩:=I.shape;clear I ht M G;generalize bU b=Q,fJ b=eb at *;go_in;go_wp2_with fail;apply K.z;rintro e m ⟨rfl,R⟩;go_wp2;go_ret3;rw[A.out];exact⟨_,rfl,Ow.nil,R⟩
open Go.RowKit Go.Fk Tryz
def NY(F B base:Nat)(u:Value)(b:U0)(w:World)(hl:b.length<=1000000)(h0:¬(dr b).1=0)(A:w.heap[F]?=some (jR B (dr b).1 (bH b).1 (bV b).1 u))(K:Ow w base eB u (cy b).1):Calls prog 194 #[.pointer (some ⟨F,0,none⟩)] w λe w'=>∃x,e=.returned (.tuple #[x,.int .i64 ((ej b).2:Int)])/\ao w' eB x (ej b).1/\Fr w w':=by
 have hn:(bH b).1<=32768:=Cs.int_top _ _ _;have aj:(cy b).1.length<=b.length:=NP b;have p:Hid (ej b=n9 (bH b).1 (cy b).1):=by show _=_;unfold ej;rw[ae h0]
 have HS:=ad K.see;have a7:¬(((dr b).1:Nat):Int)=0:=ω
 have HU:Hid (∀n d,n9 n d=if(dh d n).2=0 then(if(dU n (dh d n).1 []).2=0 then(if(dU n (dh d n).1 []).1.length<n then([],2)else((dU n (dh d n).1 []).1,0))else([],(dU n (dh d n).1 []).2))else([],(dh d n).2)):=λ_ _=>rfl;have M:=ad (λW v (h:ao W eB v (cy b).1)=>OC v (cy b).1 (bH b).1 W h (ar aj hl) ω);have am:=Ac (cy b).1 (bH b).1;have O:=ad (λW v (h:ao W j8 v (dh (cy b).1 (bH b).1).1)=>Q1 v (dh (cy b).1 (bH b).1).1 (bH b).1 W h am.2 ω ω);obtain⟨pu,zu,rfl⟩:=K.shape';rw[HU.out]at p;generalize (cy b).1=U,(bV b).1=xp,(bH b).1=xn,(dr b).1=xw,ej b=R at *;generalize dh U xn=T at *;generalize dU xn T.1 []=L at *;obtain⟨tl,D⟩:=T;obtain⟨G,le⟩:=L;simp only at p M O;have c1:=af A 1 rfl;have c2:=af A 2 rfl;have c4:=af A 4 rfl;have a0:=ad (M.out w.drew _ HS.out.drew);go_in;go_wp2_with fail
 go_region_held3 (λW => W.cell? ⟨F, 2, none⟩ = some (N xn) ∧ W.cell? ⟨F, 4, none⟩ = some (.slice pu U.length zu))
  (first | exact Q | go_keep)
  ((go_at_call 251;refine a0.out.mono ?_;rintro e V ⟨v1,rfl,X,m⟩;obtain⟨p1,z1,a1⟩:=X.shape';subst a1;have Q:=And.intro (m.cell (show w.drew.cell? _=_ from c2)) (m.cell (show w.drew.cell? _=_ from c4))))
 have d2:=Q.1;have m:Fr w V:=(Fr.refl w).drew.trans m;by_cases Y:D=0
 ·have q:=ad (p.out.trans (an Y));have o:((D:Nat):Int)=0:=ω;rw[o];have a3:=ad (O.out V _ X.see);go_wp2_with fail;apply a3.z;rintro e w2 ⟨v2,rfl,Z,aa⟩;obtain⟨p2,z2,rfl⟩:=Z.shape';have d3:=aa.cell d2;have I:=m.trans aa;by_cases h2:le=0
  ·have z:=ad (q.out.trans (an h2));have o:((le:Nat):Int)=0:=ω;rw[o];have a4:=ad Z;by_cases h3:G.length<xn;·have J:=ad (z.out.trans (an h3));have i1:(G.length:Int)<xn:=ω;go_wp2;go_ret2;rw[J.out];exact⟨_,rfl,ao.nil,I⟩
   ·have J:=ad (z.out.trans (ae h3));have i1:¬(G.length:Int)<xn:=ω;go_wp2;go_ret2;rw[J.out];exact⟨_,rfl,a4.out.see,I⟩
  ·have z:=ad (q.out.trans (ae h2));have o:¬((le:Nat):Int)=0:=ω;go_wp2;go_ret2;rw[z.out];exact⟨_,rfl,ao.nil,I⟩
 ·have q:=ad (p.out.trans (ae Y));have o:¬((D:Nat):Int)=0:=ω;go_wp2;go_ret2;rw[q.out];exact⟨_,rfl,ao.nil,m⟩
def QT(v:Value)(b:U0)(w:World)(p:ao w eB v b)(d:b.length<=1000000)(q:dm w):Calls prog 67 #[v] w λe w'=>∃u,e=.returned (.tuple #[u,N (bU b).2.1,.int .i64 ((bU b).2.2:Int)])/\Ow w' w.heap.size eB u (bU b).1/\Fr w w':=
 QS v b w p d q (ar (Es b) (by omega)) (fun F B base u W h m _ _ => by
   by_cases o : (dr b).1 = 0
   · exact NZ F B base u b W o h m
   · exact NY F B base u b W d o h m)
