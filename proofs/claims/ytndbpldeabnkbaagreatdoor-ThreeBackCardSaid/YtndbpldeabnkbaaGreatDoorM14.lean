/- Lemmas for ThreeTurned. -/
import Derived.Test.YtndbpldeabnkbaaGreatDoorM08
import Derived.Test.YtndbpldeabnkbaaGreatDoorM12
set_option linter.all false
set_option maxHeartbeats 8000000
set_option maxRecDepth 100000
namespace Go.Fk
abbrev pr:=@UInt64.toNat_lt
abbrev wi:=@beq_eq_false_iff_ne
abbrev uj:=@Nat.le_add_right
abbrev C3:=@List.drop_replicate
abbrev wk:=@Nat.sub_zero
end Go.Fk
namespace Go.Proofs.YtndbpldeabnkbaaGreatDoor
open Go.RowKit Go.Fk
def eH:aw Tryz.prog It:=⟨346,2,16,⟨0,false,[]⟩,.agg #[.int .u64 0,.bool false],λx=>[.int .u64 (x.w.toNat:Int),.bool x.leaf],by kernel_rfl,δ,δ,by simp[Value.cells],λ_=>rfl,by intro x u d;simp at d;rcases d with rfl | rfl <;> rfl⟩
def ce(d e:List Nat):List It:=e.map λs=>⟨UInt64.ofNat (d.getD s 0),true,[s]⟩
def Gf(e d:List Nat):(ce e d).length=d.length:=by simp[ce]
def tC(d e:List Nat):∀x∈ce d e,x.leaf=true:=by
 intro x h;obtain⟨s,_,rfl⟩:=ee.1 h;rfl
def Gg(e d:List Nat)(k:Nat)(h:k<d.length):(ce e d)[k]?=some ⟨UInt64.ofNat (e.getD d[k] 0),true,[d[k]]⟩:=by simp[ce,h]
def Rf(J K:Value)(h d:List Nat)(w:World)(L:ah w eV J h)(M:ah w eJ K d)(hn:d.length<=1000000)(O:∀s∈d,s<h.length)(Q:∀x∈h,x<4294967296):Calls Tryz.prog 231 #[J,K] w λe w'=>∃v,e=.returned v/\Ow w' w.heap.size eH v (ce h d)/\Fr w w':=by
 obtain⟨a,bb,rfl,bc,ak,bd⟩:=L.shape;obtain⟨a',bk,rfl,bl,ap,bm⟩:=M.shape;unfold maxLen at ak ap;have bn:=vk eH 341 Tryz.underlying341 .i64 .i64 d.length ω;have U:=ad (AX (base:=w.heap.size) eH d.length ω w (al _));have V:=ad ((Fr.refl w).alloc (.cells (madeCells eH.z.cells (d.length*eH.k)) eH.e));have z:=ad (Gf h d);have av:=ad (Gg h d);generalize hR:ce h d=R at *;clear hR;generalize hT:madeCells eH.z.cells (d.length*eH.k)=X at *;clear hT;go_in;go_wp2_with fail;rw[show(eH:aw Tryz.prog It).e=346 from rfl]at *;have Y:=V.out;have Z:(w.alloc (.cells X 346)).heap.size=w.heap.size+1:=σ
 have aa:=U.out;clear V U;generalize w.alloc (.cells X 346)=W0 at *;have bu:=ad Z;clear Z;go_loopw [13] (λF wr=>∃k:Nat,k<=d.length/\F=N k/\Ow wr w.heap.size eH (.slice (some ⟨w.heap.size,0,none⟩) d.length d.length) (R.take k++List.replicate (d.length-k) (⟨0,false,[]⟩:It))/\Fr w wr) (λF _=>d.length-(intOf F).toNat);case atStart=>exact⟨0,ar _,rfl,by simp only[lj,fJ,wk];exact aa,Y⟩
 case round=>
  clear aa Y;obtain⟨k,hk,rfl,A,o⟩:=hrel;by_cases m:k<d.length
  ·obtain⟨b,bv,cp,hv,c1⟩:=tF (M.fr o) k m;have D:=av.out k m;have G:=O _ (bJ m);generalize ab:d[k]=s at *;obtain⟨b2,b3,b4,a4,c2⟩:=wT (L.fr o) s G;have e2:h.getD s 0=h[s]:=(by rw[bq,bj G];rfl);have a6:=Q _ (bJ G);rw[e2]at D;generalize h[s]=x at *;cases hv;cases a4;have ac:(R.take k++List.replicate (d.length-k) (⟨0,false,[]⟩:It)).length=d.length:=vF R _ _ _ z.out hk;have aj:((UInt64.ofNat x).toNat:Int)=x:=(by rw[UInt64.toNat_ofNat'];omega);have a7:=ad (A.set2 (λy=>⟨_,_,rfl⟩) k (by rw[ac];exact m) (⟨UInt64.ofNat x,true,[s]⟩:It) (.int .u64 (x:Int)) (.bool true) (by show [Value.int .u64 ((UInt64.ofNat x).toNat:Int),Value.bool true]=_;rw[aj]));have aC:=ad (vE R (⟨0,false,[]⟩:It) d.length k z.out m ⟨UInt64.ofNat x,true,[s]⟩ (by rw[bj (by rw[z.out];exact m)]at D;exact jU D));obtain⟨u0,v0,d1,d2,I⟩:∃u v,wr.cell? ⟨w.heap.size,k*2,none⟩=some u/\wr.cell? ⟨w.heap.size,k*2+1,none⟩=some v/\(∀j,wr.frozen? ⟨w.heap.size,j,none⟩=false):=⟨_,_,A.cell2 k (by rw[ac];exact m) _ _ rfl⟩;have d4:=I (k*2);have d5:=I (k*2+1);clear I;have i1:(0:Int)<=k:=ω;have i2:(k:Int)<d.length:=ω;have i3:(0:Int)<=s:=ω;have i4:(s:Int)<h.length:=ω;have ca:=ad ab;have cb:IntKind.u64.wrap (x:Int)=(x:Int):=dF _ ω;clear ab D O Q a6 aj;go_wp2;go_roundw;case rel=>exact⟨k+1,ω,γ,by rw[<- aC.out];exact a7.out,ep (ep o (al _) o.size) (al _) (by simpa [World.setCell] using o.size)⟩
   case measure=>exact μ
  ·obtain rfl:k=d.length:=ω;have cc:¬((d.length:Int)<d.length):=ω;have e:R.take d.length++List.replicate (d.length-d.length) (⟨0,false,[]⟩:It)=R:=(by rw[fY,ww,dg,<- z.out,dY]);rw[e]at A;go_wp2;go_ret;exact⟨_,rfl,A,o⟩
def tG{w:World}{v:Value}{l:List It}(h:ah w eH v l)(k:Nat)(m:k<l.length):∃b d o,v=.slice (some ⟨b,d,none⟩) l.length o/\w.cell? ⟨b,d+k*2,none⟩=some (.int .u64 (l[k].w.toNat:Int))/\w.cell? ⟨b,d+k*2+1,none⟩=some (.bool l[k].leaf):=by
 obtain⟨b,d,o,rfl,F,G,z⟩:=h.cells (by intro e;simp[e]at m);have A:=z k m 0 δ _ rfl;have D:=z k m 1 δ _ rfl;exact⟨b,d,o,rfl,by simpa [eH] using A,by simpa [eH,jq] using D⟩
def Hj(d:List It)(k:Nat)(h:k+1<d.length):cH (d.drop k)=⟨d[k].w+d[k+1].w,false,d[k].syms++d[k+1].syms⟩::cH (d.drop (k+2)):=by
 rw[gE ω,gE h,cH]
def Hi(d:List It)(k:Nat)(h:d.length<=k+1):cH (d.drop k)=[]:=by
 have e:(d.drop k).length<=1:=by rw[aN];omega
 generalize d.drop k=r at *
 match r,e with
 | [],_=>rfl
 | [_],_=>rfl
def Lb(a b:UInt64):(a<=b)↔((a.toNat:Int)<=b.toNat):=by rw[Cr];omega
def Dd(a b:UInt64):IntKind.u64.wrap ((a.toNat:Int)+b.toNat)=((a+b).toNat:Int):=by
 rw[zm,UInt64.toNat_add];omega
def PZ(va vb:Value)(h d:List It)(w:World)(ha:ah w eH va h)(O:ah w eH vb d)(hn:h.length<=1000000)(hm:d.length<=2000000):Calls Tryz.prog 232 #[va,vb] w λe w'=>∃v,e=.returned v/\Ow w' w.heap.size eH v (aW h (cH d))/\Fr w w':=by
 obtain⟨a,cl,rfl,cm,bl,cn⟩:=ha.shape;obtain⟨a',cs,rfl,ct,bm,cu⟩:=O.shape;unfold maxLen at bl bm;have X:=AW h (cH d);rw[rI]at X;have cv:(d.length:Int).tdiv 2=((d.length / 2:Nat):Int):=by rw[Int.tdiv_eq_ediv_of_nonneg ω];omega
 have c3:(d.length:Int) / 2=((d.length / 2:Nat):Int):=ω
 have c4:IntKind.i64.wrap ((h.length:Int)+((d.length / 2:Nat):Int))=((h.length+d.length / 2:Nat):Int):=by rw[ax _ ω];omega
 have bn:h.length+d.length / 2<=1000000000:=ω
 have bs:Hid (aW h (cH d)=[]++aW (h.drop 0) (cH (d.drop 0))):=by show _=_;simp
 have c5:=ad X;clear X;generalize aW h (cH d)=R at *;generalize a7:h.length+d.length / 2=C at *;have HC:=ad a7;clear a7;generalize d.length / 2=rh at *;go_in;go_wp2_with (refine sS eH rfl (.const (.int .i64 0)) (.tmp 14) 341 rfl Tryz.underlying341 .i64 .i64 (C:Int) C rfl ?c1 rfl bn w.heap.size (al _) ?_);case c1=>first | rfl | trivial
 intro w1 aC ba;have bb:Fr w w1:=Fr.own (Fr.refl w) ba (λk Y=>by cases Y);go_wp2_with fail;clear ba;go_loopw [5,6,7] (λov iv kv wr=>∃(i k:Nat) (m:List It),i<=h.length/\k<=d.length/\iv=N i/\kv=N k/\m.length<=i+k/\Ow wr w.heap.size eH ov m/\Hid (R=m++aW (h.drop i) (cH (d.drop k)))/\Fr w wr) (λ_ iv kv _=>h.length-(intOf iv).toNat+(d.length-(intOf kv).toNat));case atStart=>exact⟨0,0,[],ar _,ar _,rfl,rfl,σ,aC,bs,bb⟩
 case round=>
  clear aC bb;obtain⟨i,k,m,hi,Y,rfl,rfl,X,D,F,o⟩:=hrel;have c8:IntKind.i64.wrap ((k:Int)+1)=((k+1:Nat):Int):=(by rw[ax _ ω];omega);by_cases bc:i<h.length
  ·have b0:(i:Int)<h.length:=ω;obtain⟨b,cA,cp,hv,Z,c1⟩:=tG (ha.fr o) i bc;have K:=ad (gE bc);have cE:Hid (eH.cells [h[i]]=[.int .u64 (h[i].w.toNat:Int),.bool h[i].leaf]):=rfl;generalize h[i]=x at *;have cF:=pr x.w;cases hv;have j1:(0:Int)<=i:=ω;by_cases Q:k+1<d.length
   ·have a0:((k+1:Nat):Int)<d.length:=ω;obtain⟨b2,b5,b6,U,d0,d1⟩:=tG (O.fr o) k ω;obtain⟨b3,b8,b9,V,e0,e1⟩:=tG (O.fr o) (k+1) Q;rw[U]at V;cases V;have J:=ad (Hj d k Q);generalize d[k]=p at *;generalize d[k+1]=q at *;cases U;have bA:=Dd p.w q.w;have HU:=ad (Lb x.w (p.w+q.w));generalize L:(⟨p.w+q.w,false,p.syms++q.syms⟩:It)=y at *;have a1:Hid (eH.cells [y]=[.int .u64 ((p.w+q.w).toNat:Int),.bool false]):=(by subst L;rfl);have bd:Hid (y.w=p.w+q.w):=(by subst L;rfl);have bB:=pr (p.w+q.w);have bL:=pr p.w;have bR:=pr q.w;clear L;generalize q.w.toNat=qw,p.w.toNat=pw,(p.w+q.w).toNat=s at *;have j2:(0:Int)<=k:=ω;have j3:(k:Int)<d.length:=ω;have j4:(0:Int)<=((k+1:Nat):Int):=ω;have cc:¬(d.length:Int)<=((k+1:Nat):Int):=ω;have a2:k+2<=d.length:=ω;have cf:IntKind.i64.wrap ((k:Int)+2)=((k+2:Nat):Int):=(by rw[ax _ ω];omega);have bf:=D;by_cases M:x.w<=p.w+q.w
    ·have ch:(x.w.toNat:Int)<=s:=HU.out.1 M;have G:Hid (R=(m++[x])++aW (h.drop (i+1)) (cH (d.drop k))):=(by show _=_;rw[F.out,J.out,K.out,aW,af (by rw[bd.out];exact M)];simp);clear F K J HU M bf;go_upto_region 7 with fail;go_quiet (fail);have I:=D.fr ((Fr.refl wr).drewN nq);have z:=o.trans ((Fr.refl wr).drewN nq);replace Z:=((Fr.refl wr).drewN nq).cell Z;replace c1:=((Fr.refl wr).drewN nq).cell c1;clear D o d0 d1 e0 e1;generalize wr.drewN nq=w5 at *;go_wp2_with (at_builtin;refine cW eH rfl (.tmp 66) (.tmp 71) 341 rfl Tryz.underlying341 w.heap.size rfl I [x] _ _ _ rfl rfl rfl (by simp;omega) z.size ?_);intro v' w4 A;go_wp2;go_roundw;case rel=>exact⟨i+1,k,m++[x],ω,Y,γ,rfl,by simp;omega,A.own,G,A.below I z (al _) z.size⟩
     case measure=>exact μ
    ·have ch:¬(x.w.toNat:Int)<=s:=λe=>M (HU.out.2 e);have G:Hid (R=(m++[y])++aW (h.drop i) (cH (d.drop (k+2)))):=(by show _=_;rw[F.out,J.out,K.out,aW,ae (by rw[bd.out];exact M)];simp);clear F K J HU M bf;go_upto_region 7 with fail;go_quiet (fail);have I:=D.fr ((Fr.refl wr).drewN nq);have z:=o.trans ((Fr.refl wr).drewN nq);replace Z:=((Fr.refl wr).drewN nq).cell Z;replace c1:=((Fr.refl wr).drewN nq).cell c1;clear D o d0 d1 e0 e1;generalize wr.drewN nq=w5 at *;go_wp2_with (at_builtin;refine cW eH rfl (.tmp 75) (.tmp 78) 341 rfl Tryz.underlying341 w.heap.size rfl I [y] _ _ _ (by rw[a1.out]) rfl rfl (by simp;omega) z.size ?_);intro v' w4 A;go_wp2;go_roundw;case rel=>exact⟨i,k+2,m++[y],hi,a2,rfl,γ,by simp;omega,A.own,G,A.below I z (al _) z.size⟩
     case measure=>exact μ
   ·have a0:¬((k+1:Nat):Int)<d.length:=ω;have cL:(d.length:Int)<=((k+1:Nat):Int):=ω;have G:Hid (R=(m++[x])++aW (h.drop (i+1)) (cH (d.drop k))):=(by have h1:=Hi d k ω;show _=_;rw[F.out,h1,rN,rN,K.out];simp);clear F K;go_wp2_with (at_builtin;refine cW eH rfl (.tmp 32) (.tmp 37) 341 rfl Tryz.underlying341 w.heap.size rfl D [x] _ _ _ rfl rfl rfl (by simp;omega) o.size ?_);intro v' w4 A;go_wp2;go_roundw;case rel=>exact⟨i+1,k,m++[x],ω,Y,γ,rfl,by simp;omega,A.own,G,A.below D o (al _) o.size⟩
    case measure=>exact μ
  ·obtain rfl:i=h.length:=ω;have b0:¬(h.length:Int)<h.length:=ω;by_cases Q:k+1<d.length
   ·have a0:((k+1:Nat):Int)<d.length:=ω;obtain⟨b2,b5,b6,U,d0,d1⟩:=tG (O.fr o) k ω;obtain⟨b3,b8,b9,V,e0,e1⟩:=tG (O.fr o) (k+1) Q;rw[U]at V;cases V;have J:=ad (Hj d k Q);generalize d[k]=p at *;generalize d[k+1]=q at *;cases U;have bA:=Dd p.w q.w;generalize L:(⟨p.w+q.w,false,p.syms++q.syms⟩:It)=y at *;have a1:Hid (eH.cells [y]=[.int .u64 ((p.w+q.w).toNat:Int),.bool false]):=(by subst L;rfl);have bB:=pr (p.w+q.w);have bL:=pr p.w;have bR:=pr q.w;clear L;generalize q.w.toNat=qw,p.w.toNat=pw,(p.w+q.w).toNat=s at *;have j2:(0:Int)<=k:=ω;have j3:(k:Int)<d.length:=ω;have j4:(0:Int)<=((k+1:Nat):Int):=ω;have cc:¬(d.length:Int)<=((k+1:Nat):Int):=ω;have a2:k+2<=d.length:=ω;have cf:IntKind.i64.wrap ((k:Int)+2)=((k+2:Nat):Int):=(by rw[ax _ ω];omega);have G:Hid (R=(m++[y])++aW (h.drop h.length) (cH (d.drop (k+2)))):=(by show _=_;rw[F.out,J.out,nL,vf,vf];simp);clear F J;go_upto_region 7 with fail;go_quiet (fail);have I:=D.fr ((Fr.refl wr).drewN nq);have z:=o.trans ((Fr.refl wr).drewN nq);clear D o d0 d1 e0 e1;generalize wr.drewN nq=w5 at *;go_wp2_with (at_builtin;refine cW eH rfl (.tmp 75) (.tmp 78) 341 rfl Tryz.underlying341 w.heap.size rfl I [y] _ _ _ (by rw[a1.out]) rfl rfl (by simp;omega) z.size ?_);intro v' w4 A;go_wp2;go_roundw;case rel=>exact⟨h.length,k+2,m++[y],al _,a2,rfl,γ,by simp;omega,A.own,G,A.below I z (al _) z.size⟩
    case measure=>exact μ
   ·have a0:¬((k+1:Nat):Int)<d.length:=ω;have G:Hid (R=m):=(by have h1:=Hi d k ω;show _=_;rw[F.out,h1,nL,rN,dg]);clear F;go_wp2;go_ret;exact⟨_,rfl,by rw[G.out];exact D,o⟩
def eT(r:aq):Nat:=16+r.source.length+r.text.length
def i9(r:aq):Bool:=decide (4000<r.source.length) || decide (4000<r.text.length)
def mE(l:List aq):Bool:=decide (l.length<=20000) && (l.all λr=>!i9 r) && decide (bS eT l<=1048576)
abbrev qL(r:aq):Value:=.agg #[.int .u64 r.time.toNat,Fk.u8 r.level,S r.source,S r.text]
def QA(r:aq)(w:World):Calls Tryz.prog 61 #[qL r] w λe w'=>e=.returned (.bool (i9 r))/\Fr w w':=by
 have h:Hid (i9 r=(decide (4000<r.source.length) || decide (4000<r.text.length))):=rfl;by_cases m:4000<r.source.length;·have z:(4000:Int)<r.source.length:=ω;have d:Hid (i9 r=true):=ad (by rw[h.out,bp m];rfl);go_in;go_wp2;go_ret;exact⟨by rw[d.out];rfl,(Fr.refl w).alloc _⟩
 ·have z:¬(4000:Int)<r.source.length:=ω;by_cases o:4000<r.text.length;·have A:(4000:Int)<r.text.length:=ω;have d:Hid (i9 r=true):=(by show _=_;rw[h.out,bp o];simp);go_in;go_wp2;go_ret;exact⟨by rw[d.out];rfl,(Fr.refl w).alloc _⟩
  ·have A:¬(4000:Int)<r.text.length:=ω;have d:Hid (i9 r=false):=ad (by rw[h.out,br m,br o];rfl);go_in;go_wp2;go_ret;exact⟨by rw[d.out];rfl,(Fr.refl w).alloc _⟩
def WV(v:Value)(l:List aq)(w:World)(o:ah w eR v l)(O:l.length<=20000)(z:∀r∈l,eT r<=8016):Calls Tryz.prog 62 #[v] w λe w'=>e=.returned (N (bS eT l))/\Fr w w':=by
 obtain⟨a,Q,A,R,U,V⟩:=o.shape;have F:=ad (λk=>oB eT 8016 (l.take k) (λx G=>z x (fZ G)));have I:=ad z;go_in;go_wp2;go_loopw [3,8] (λJ d wr=>∃k:Nat,k<=l.length/\d=N k/\J=N (bS eT (l.take k))/\Fr w wr) (λ_ d _=>l.length-(intOf d).toNat);case atStart=>exact⟨0,ar _,rfl,rfl,Fr.refl w⟩
 case round=>
  obtain⟨k,K,rfl,rfl,h⟩:=hrel;have D:=F.out k;rw[aA,fI K]at D;have X:=ay D (bH ω (al _));by_cases m:k<l.length;·obtain⟨b,Y,Z,A,c0,c1,c2,c3⟩:=no (o.fr h) k m;have L:=ad (CF eT l k m);have M:=I.out _ (bJ m);cases A;unfold eT at M;go_wp2_with fail;exact⟨⟨k+1,ω,γ,by rw[L.out];unfold eT;go_num,h.alloc _⟩,by simp[intOf];omega⟩
  ·obtain rfl:k=l.length:=ω;rw[dY]at *;go_wp2;go_ret;exact⟨rfl,h⟩
def RQ(v:Value)(l:List aq)(w:World)(I:ah w eR v l):Calls Tryz.prog 105 #[v,.func (.func 61) #[] #[]] w λe w'=>∃x:Int,e=.returned (.int .i64 x)/\Hid (decide (0<=x)=l.any i9)/\Fr w w':=by
 obtain⟨a,R,J,U,L,V⟩:=I.shape;unfold maxLen at L;have M:=ad QA;go_in;go_wp2;go_loopw [8] (λo wr=>∃k:Nat,k<=l.length/\o=N k/\Hid ((l.take k).any i9=false)/\Fr w wr) (λo _=>l.length-(intOf o).toNat);case atStart=>exact⟨0,ar _,rfl,rfl,Fr.refl w⟩
 case round=>
  obtain⟨k,X,rfl,z,d⟩:=hrel;by_cases A:k<l.length
  ·obtain⟨b,Y,Z,J,c0,c1,c2,c3⟩:=no (I.fr d) k A;have D:Hid ((l.take (k+1)).any i9=i9 l[k]):=(by show _=_;rw[f8 A,List.any_append,z.out];simp);have K:Hid (i9 l[k]=true->l.any i9=true):=λh=>List.any_eq_true.2 ⟨_,bJ A,h⟩;generalize l[k]=r at *;cases J;have m:=ad (M.out r);cases F:i9 r;·rw[F]at m D K;go_wp2_with fail;refine(m.out _).mono ?_;rintro e O ⟨rfl,G⟩;go_wp2_with fail;exact⟨⟨k+1,ω,γ,D.out,d.trans G⟩,by simp[intOf];omega⟩
   ·have Q:=ad (K.out F);rw[F]at m D;go_wp2_with fail;refine(m.out _).mono ?_;rintro e O ⟨rfl,G⟩;go_wp2;go_ret;exact⟨_,rfl,by show _=_;rw[Q.out];simp,d.trans G⟩
  ·obtain rfl:k=l.length:=ω;rw[dY]at z;go_wp2;go_ret;exact⟨_,rfl,by show _=_;rw[z.out];rfl,d⟩
def Sm(v:Value)(l:List aq)(w:World)(d:ah w eR v l):Calls Tryz.prog 60 #[v,.func (.func 61) #[] #[]] w λe w'=>e=.returned (.bool (l.any i9))/\Fr w w':=by
 obtain⟨a,A,h,D,F,G⟩:=d.shape;have m:=ad (RQ v l w d);subst h;go_in;go_wp2_with fail;refine m.out.mono ?_;rintro e I ⟨x,rfl,o,z⟩;go_wp2;go_ret;exact⟨by rw[<- o.out];rfl,z⟩
def Jz(v:Value)(l:List aq)(w:World)(z:ah w eR v l):Calls Tryz.prog 32 #[v] w λe w'=>e=.returned (.int .i64 (if mE l then 0 else 6))/\Fr w w':=by
 obtain⟨a,Z,M,aa,ab,ac⟩:=z.shape;have A:=ad (λW h=>Sm v l W h);have O:=ad (λW h=>WV v l W h);have d:Hid ((if mE l then(0:Int)else 6)=if(decide (l.length<=20000) && (l.all λr=>!i9 r) && decide (bS eT l<=1048576))=true then 0 else 6):=rfl;have Q:Hid ((l.all λr=>!i9 r) = !(l.any i9)):=by show _=_;rw[List.not_any_eq_all_not]
 generalize (if mE l then(0:Int)else 6)=R at *;rw[Q.out]at d;subst M;by_cases F:l.length<=20000
 ·have aj:¬(20000:Int)<l.length:=ω;rw[bp F]at d;cases D:l.any i9
  ·have U:∀r∈l,eT r<=8016:=by
     intro r V;have I:i9 r=false:=by
      cases X:i9 r;·rfl
      ·rw[List.any_eq_true.2 ⟨r,V,X⟩]at D;cases D
     unfold i9 at I;simp only[Bool.or_eq_false_iff,sw]at I;unfold eT;omega
   rw[D]at d A;have J:=ad (λW h=>O.out W h F U);by_cases K:bS eT l<=1048576;·rw[bp K]at d;have ak:¬(1048576:Int)<bS eT l:=ω;have m:Hid (R=0):=ad (by rw[d.out];rfl);generalize bS eT l=wt at *;go_in;go_wp2_with fail;refine(A.out _ z).mono ?_;rintro e L ⟨rfl,o⟩;go_wp2_with fail;refine(J.out _ (z.fr o)).mono ?_;rintro e Y ⟨rfl,G⟩;go_wp2;go_ret;exact⟨by rw[m.out];rfl,o.trans G⟩
   ·rw[br K]at d;have m:Hid (R=6):=ad (by rw[d.out];rfl);go_in;go_wp2_with fail;refine(A.out _ z).mono ?_;rintro e L ⟨rfl,o⟩;go_wp2_with fail;refine(J.out _ (z.fr o)).mono ?_;rintro e Y ⟨rfl,G⟩;go_wp2;go_ret;exact⟨by rw[m.out];rfl,o.trans G⟩
  ·rw[D]at d A;have m:Hid (R=6):=ad (by rw[d.out];rfl);go_in;go_wp2_with fail;refine(A.out _ z).mono ?_;rintro e L ⟨rfl,o⟩;go_wp2;go_ret;exact⟨by rw[m.out];rfl,o⟩
 ·rw[br F]at d;have m:Hid (R=6):=ad (by rw[d.out];rfl);go_in;go_wp2;go_ret;exact⟨by rw[m.out];rfl,Fr.refl w⟩
def CL{g:Nat}{d:Value}{w w':World}(h:bw g (.slice none 0 0) d w w')(m:w.heap.size<=g):Fr w w':=
 h.1.fr λk o e=>by
  rcases e with e | e
  ·omega
  ·simp[Value.ownBlock]at e
def eU:aw Tryz.prog Nat:=⟨64,1,2,0,.int .u16 0,λn=>[.int .u16 (n:Int)],by kernel_rfl,δ,δ,by simp[Value.cells],λ_=>rfl,by intro x u d;simp at d;subst d;rfl⟩
structure kD (w:World) (T:TypeId) (base g n:Nat) (hv lv:Value) (hs ls:List Nat):Prop where
 at0:w.heap[g]?=some (.cells #[N n,hv,lv] T (0,0))
 hi:Ow w base eJ hv hs
 lo:Ow w base eU lv ls
 lt:g<base
abbrev J1(w:World)(base g n:Nat)(d e:Value)(h m:List Nat):Prop:=kD w 183 base g n d e h m
def Fc(x n:Nat)(hx:x<=20000)(hn:n<=14){T:TypeId}(base g:Nat)(J I:Value)(o A:List Nat)(w:World)(h:kD w T base g n J I o A)(hl:o.length<=20000)(b8:A.length<=20000)(aj:base<=w.heap.size):Calls Tryz.prog 115 #[.pointer (some ⟨g,0,none⟩),N x] w λe w'=>e=.returned (.tuple #[])/\∃m a5,kD w' T base g n m a5 (o++[x / 2^n]) (A++[x%2^n])/\ai (λk=>k=g\/J.ownBlock=some k\/I.ownBlock=some k) w w':=by
 obtain⟨O,Q,R,U⟩:=h;have a6:=kL Q R δ;have e0:=ag O 0 rfl;have e1:=ag O 1 rfl;have e2:=ag O 2 rfl;have b9:(x:Int) / 2^n=((x / 2^n:Nat):Int):=σ
 have bA:x / 2^n<=x:=kF _ _;have aC:Hid (o.length+[x / 2^n].length<=2147483648):=by show _<=_;simp;omega
 have HM:Hid (x%2^n=x%2^n):=rfl;generalize X:x%2^n=z at *;have HZ:=ad X;clear X;generalize hy:x / 2^n=y at *;have HY:=ad hy;clear hy;have bR:(0:Int)<=n:=ω
 have bT:¬(n:Int)<0:=ω
 have ba:Hid (base<=w.drew.heap.size):=aj;have hD:=Q.drew;have D:Fr w (w.alloc (.cells #[.int .i64 (y:Int)] 3)):=(Fr.refl w).alloc _;have bb:=D.cell e0;have bc:=D.cell e1;clear D;have bd:∀k,J.ownBlock=some k->base<=k:=λk F=>(Q.lt k F).1;clear Q;go_in;go_upto_region 0 with fail;go_cut []from 4 to 18 (λY=>∃m,Y.heap[g]?=some (.cells #[N n,m,I] T (0,0))/\Ow Y base eJ m (o++[y])/\ai (λk=>k=g\/J.ownBlock=some k) w Y/\(∀b,m.ownBlock=some b->J.ownBlock=some b\/w.heap.size<=b))
 case first=>
  go_region_law (refine xf eJ rfl (.tmp 8) (.tmp 15) 56 rfl Tryz.underlying56 base rfl hD [y] _ _ _ rfl rfl rfl aC.out ba.out ?_
                 intro v' w4 d
                 have K := d.own
                 have Z := ad d.chg'
                 have ca := ad d.size
                 have bf := ad d.fresh
                 obtain ⟨L, M, m⟩ := K.shape'
                 have G := d.chg'.heap (show w.drew.heap[g]? = _ from O) (λe => by have := bd g e; omega)
                 have e3 := ag G 1 rfl
                 have e4 : w4.frozen? ⟨g, 1, none⟩ = false := a8 G 1
                 clear d
                 subst m)
  all_goals go_wp2_with fail
  all_goals go_meet
  all_goals refine⟨.slice L (o.length+1) M,?_,eu (by simpa using K) U,(Z.out.mono (λk _ h=>Or.inr h)).trans (a9 w4 ⟨g,1,none⟩ _) (λk _ h=>Or.inl h),λb hb=>bf.out b (by simpa using hb)⟩
  all_goals(have F:=aJ G 1 (.slice L (o.length+1) M);simpa using F)
 case rest=>
  obtain⟨bn,h1,a1,ab,cb⟩:=hcut;have V:Ow wc base eU I A:=R.chg ab λq hq e=>by
   rcases e with e | e;·have:=(R.lt q hq).1;omega
   ·rcases a6 with h | h;·rw[h]at e;cases e
    ·exact h (e.trans hq.symm)
  have c0:=ag h1 0 rfl;have c2:=ag h1 2 rfl;clear e0 e1 e2 bb bc R;have bu:Hid (A.length+[z].length<=2147483648):=(by show _<=_;simp;omega);have bv:Hid (base<=wc.drew.heap.size):=ay aj ab.size;have bx:=V.drew;have hp:(2:Nat)^n<=16384:=fp ω hn;have b1:=lh n;have ac:(2:Int)^n=((2^n:Nat):Int):=σ;have w1:IntKind.i64.wrap ((2:Int)^n)=((2^n:Nat):Int):=(by rw[ac];exact ax _ ω);have w2:IntKind.i64.wrap (((2^n:Nat):Int)-1)=((2^n-1:Nat):Int):=(by rw[ax _ ω];omega);have w3:bits .and .i64 (x:Int) ((2^n-1:Nat):Int)=(z:Int):=(by rw[VM _ _ ω ω,JU,HZ.out]);have w4:IntKind.u16.wrap (z:Int)=(z:Int):=(by have X:z<2^n:=(by rw[<- HZ.out];exact jB _ b1);simp only[IntKind.wrap,IntKind.bits,IntKind.signed];simp;omega);have D:Fr wc (wc.alloc (.cells #[.int .u16 (z:Int)] 64)):=(Fr.refl wc).alloc _;have cj:=D.cell c0;have ck:=D.cell c2;clear D;have cl:=ad ac;clear ac hp;generalize 2^n-1=pm at *;generalize a3:2^n=pn at *;have cp:=ad a3;clear a3;have b2:∀k,I.ownBlock=some k->base<=k:=λk F=>(V.lt k F).1;have b3:=ad V;have b4:=ad a1;clear V a1;go_upto_region 1 with fail
  go_region_law (refine xf eU rfl (.tmp 23) (.tmp 33) 181 rfl Tryz.underlying181 base rfl bx [z] _ _ _ rfl rfl rfl bu.out bv.out ?_
                 intro v' w4 d
                 have K := d.own
                 have Z := ad d.chg'
                 have b5 := ad (dx b4.out b3.out d δ)
                 obtain ⟨L, M, m⟩ := K.shape'
                 have G := d.chg'.heap (show wc.drew.heap[g]? = _ from h1) (λe => by have := b2 g e; omega)
                 have e3 := ag G 2 rfl
                 have e4 : w4.frozen? ⟨g, 2, none⟩ = false := a8 G 2
                 clear d
                 subst m)
  all_goals go_wp2_with fail
  all_goals go_end0
  all_goals refine⟨rfl,⟨bn,.slice L (A.length+1) M,⟨?_,?_,?_,U⟩⟩,(ab.mono (λk _ h=>?_)).trans ((Z.out.mono (G':=λk=>k=g\/I.ownBlock=some k) (λk _ h=>.inr h)).trans (a9 w4 ⟨g,2,none⟩ _) (λk _ h=>.inl h)) (λk _ h=>?_)⟩
  all_goals first
   | (have F:=aJ G 2 (.slice L (A.length+1) M);simpa using F)
   | exact eu b5.out U
   | (exact eu (by simpa using K) U)
   | exact Or.elim h (λh=>.inl h) (λh=>.inr (.inl h))
   | exact Or.elim h (λh=>.inl h) (λh=>.inr (.inr h))
def gV(d:Bool)(r:aq):Z0:=(if d then ao r.time.toNat++[r.level]else [])++(ci r.source++ci r.text)
def qE(s:Z0)(h:s.length<18446744073709551616):(ci s).length<=s.length+10:=by
 unfold ci;have:=cJ s.length h;rw[am];omega
def PC(b:Bool)(r:aq)(d:r.source.length<=100000)(e:r.text.length<=100000):(gV b r).length<=r.source.length+r.text.length+31:=by
 have h:=qE r.source ω;have m:=qE r.text ω;have o:=cJ r.time.toNat (pr _);unfold gV;cases b;·simp only[am];simp;omega
 ·simp only[am,lF];simp;omega
def Nn(w:World)(d e h:Hd)(p0 p1 p2:Z0)(o:ah w eB d.v p0)(z:ah w eB e.v p1)(A:ah w eB h.v p2):cO (w.alloc (.cells #[d.v,e.v,h.v] 30)) aO eB (.slice (some ⟨w.heap.size,0,none⟩) 3 3) [d,e,h] [p0,p1,p2]:=by
 refine⟨nm aO w [d,e,h] _ _ 3 rfl rfl (by simp[maxLen]),rfl,λi a b=>?_⟩;have m:=(Fr.refl w).alloc (.cells #[d.v,e.v,h.v] 30);have:i=0\/i=1\/i=2:=by simp at a;omega
 rcases this with rfl | rfl | rfl;·exact o.fr m
 ·exact z.fr m
 ·exact A.fr m
def uO{w:World}{v:Value}{p:Z0}(h:ah w eB v p):∃x:Hd,v=x.v:=by
 obtain⟨a,c,d,_⟩:=h.shape;exact⟨⟨a,p.length,c⟩,d⟩
def Jb(W:World)(d h m:Value)(p0 p1 p2:Z0)(o:ah W eB d p0)(z:ah W eB h p1)(A:ah W eB m p2)(L:p0.length+p1.length+p2.length<=1000000):Calls Tryz.prog 42 #[.slice (some ⟨W.heap.size,0,none⟩) 3 3] (W.alloc (.cells #[d,h,m] 30)) λe w'=>∃v,e=.returned v/\Ow w' W.heap.size eB v (p0++(p1++p2))/\Fr W w':=by
 obtain⟨D,rfl⟩:=uO o;obtain⟨F,rfl⟩:=uO z;obtain⟨G,rfl⟩:=uO A;refine(rm _ _ _ _ (Nn W D F G p0 p1 p2 o z A) (by simp;omega)).mono ?_;rintro e w' ⟨v,I,J,K⟩;exact⟨v,I,by simpa using J.rebase σ,((Fr.refl W).alloc _).trans K⟩
def Fi(r:aq)(w:World)(hs:r.source.length<=100000)(ht:r.text.length<=100000):Calls Tryz.prog 63 #[.bool false,qL r] w λe w'=>∃v,e=.returned v/\Ow w' w.heap.size eB v (gV false r)/\Fr w w':=by
 have F:=ad (λs (h:s.length<=1000000000) W=>Ji s h W);have H1:=qE r.source ω;have H2:=qE r.text ω;have M:Hid (gV false r=ci r.source++ci r.text):=rfl;go_in;go_upto_region 4 with fail;generalize o:w.alloc (.cells #[.int .u64 r.time.toNat,Fk.u8 r.level,S r.source,S r.text] 62)=W;have G:Fr w W:=by rw[<- o];exact(Fr.refl w).alloc _
 have O:W.cell? ⟨w.heap.size,2,none⟩=some (S r.source)/\W.cell? ⟨w.heap.size,3,none⟩=some (S r.text):=by rw[<- o];refine⟨?_,?_⟩ <;> rw[World.cell?_alloc_at _ _ _ _ rfl] <;> rfl
 obtain⟨Q,R⟩:=O;have I:=ad G;clear o G;have J:=ad (λW z A (U:ah W eB z (ci r.source)) (V:ah W eB A (ci r.text))=>Jb W _ z A [] _ _ ah.nil U V (by simp;omega));rw[fJ,<- M.out]at J
 go_region_held3 (λw' => w'.cell? ⟨w.heap.size, 2, none⟩ = some (S r.source) ∧ w'.cell? ⟨w.heap.size, 3, none⟩ = some (S r.text))
  (first | go_keep)
  ((first
    | (go_at_call_of 106 (S r.source); refine (F.out r.source ω _).mono ?_; rintro e w1 ⟨z, rfl, K, m⟩; obtain ⟨q1, z1, X⟩ := K.shape'; subst X; have Y := m.cell Q; have Z := m.cell R)
    | (go_at_call_of 106 (S r.text); refine (F.out r.text ω _).mono ?_; rintro e w2 ⟨A, rfl, L, d⟩; obtain ⟨q2, z2, aa⟩ := L.shape'; subst aa; have d2 := d.cell Y; have d3 := d.cell Z)
    | (go_at_call 42; refine (J.out _ _ _ (K.see.fr d) L.see).mono ?_; rintro e w3 ⟨v3, rfl, aj, D⟩; have x2 := D.cell d2; have x3 := D.cell d3)))
 go_wp2;go_ret;exact⟨_,rfl,aj.rebase (by have:=((((I.out.trans (Fr.drew (Fr.refl W))).trans m).trans d)).size;omega),(((I.out.trans (Fr.drew (Fr.refl W))).trans m).trans d).trans D⟩
def VQ(W:World)(o z:Value)(p0 p1:Z0)(A:ah W eB o p0)(D:ah W eB z p1)(J:p0.length+p1.length<=1000000):Calls Tryz.prog 42 #[.slice (some ⟨W.heap.size,0,none⟩) 2 2] (W.alloc (.cells #[o,z] 30)) λe w'=>∃v,e=.returned v/\Ow w' W.heap.size eB v (p0++p1)/\Fr W w':=by
 obtain⟨d,rfl⟩:=uO A;obtain⟨h,rfl⟩:=uO D;have F:cO (W.alloc (.cells #[d.v,h.v] 30)) aO eB (.slice (some ⟨W.heap.size,0,none⟩) 2 2) [d,h] [p0,p1]:=by
  refine⟨nm aO W [d,h] _ _ 2 rfl rfl (by simp[maxLen]),rfl,λi a b=>?_⟩;have m:=(Fr.refl W).alloc (.cells #[d.v,h.v] 30);have:i=0\/i=1:=(by simp at a;omega);rcases this with rfl | rfl;·exact A.fr m
  ·exact D.fr m
 refine(rm _ _ _ _ F (by simp;omega)).mono ?_;rintro e w' ⟨v,G,I,m⟩;exact⟨v,G,by simpa using I.rebase σ,((Fr.refl W).alloc _).trans m⟩
def KY{w:World}{v:Value}{l:List Nat}(h:ah w eU v l)(k:Nat)(m:k<l.length):∃b d e,v=.slice (some ⟨b,d,none⟩) l.length e/\w.cell? ⟨b,d+k,none⟩=some (.int .u16 (l[k]:Int)):=by
 obtain⟨b,d,e,o,z⟩:=h.cell1 (λn:Nat=>Value.int .u16 (n:Int)) rfl k m;exact⟨b,d,e,o,z⟩
def XE(z:Nat)(hb:z<=20000)(v:Value)(l:List Nat)(w:World)(hs:ah w eJ v l)(Q:et z 0 l=true)
  (HWd:Hid (∀q W,1<=q->q=l.length->Calls Tryz.prog 114 #[N z,N q] W λe w'=>e=.returned (N (Nat.log2 (z / q)))/\Fr W w')) :
  Calls Tryz.prog 71 #[N z,v] w λe w'=>∃v,e=.returned (.tuple #[v,.int .i64 0])/\Ow w' w.heap.size eB v (gY z l)/\Fr w w':=by
 obtain⟨a,eL,rfl,fa,c4,fb⟩:=hs.shape;unfold maxLen at c4;have fc:=xC z l 0 (ar _) Q;have HM:=ad (NN z _ l w hs);rw[Q]at HM;have HN:=ad (λW=>rf l.length ω W);have fe:=cJ l.length ω;have HX:=ad (NM z l 0 Q);have X:Hid (gY z l=ao l.length++if l=[]then []else cx (eG (Nat.log2 (z / l.length)) l++ei (Nat.log2 (z / l.length)) 0 l)):=rfl;generalize ao l.length=nb at *;have c6:=ad Q;clear Q;have b0:¬(z:Int)<0:=ω
 have b1:¬(20000:Int)<z:=ω
 go_in;go_wp2_with fail;refine HM.out.mono ?_;rintro e w1 ⟨rfl,a2⟩;go_wp2_with fail;refine(HN.out _).mono ?_;rintro e w2 ⟨v2,rfl,a3,b4⟩;have a4:=a2.trans b4;by_cases h0:l=[];·subst h0;go_wp2;go_ret2;exact⟨_,rfl,by rw[X.out];simpa using a3.rebase a2.size,a4⟩
 ·have b5:0<l.length:=zj.2 h0;have fm:((l.length:Int) == 0)=false:=(by simp;omega);have HW:=ad (λW=>HWd.out l.length W b5 rfl);clear HWd;rw[ae h0]at X;have fn:1<=z / l.length:=Nat.div_pos ω b5;have fr:z / l.length<=20000:=ay (kF _ _) hb;generalize hQ:z / l.length=q at *;have a6:Nat.log2 q<=14:=(by refine wn ((Nat.log2_lt ω).2 ?_);omega);generalize Nat.log2 q=n at *;clear hQ;go_wp2_with fail;refine(HW.out _).mono ?_;rintro e A ⟨rfl,a7⟩;have aC:=a4.trans a7;clear HW;go_wp2_with fail;have c8:l.length<=20000:=ω;have hA:Fr A (A.alloc (.cells #[N n,Value.slice none 0 0,Value.slice none 0 0] 183)):=(Fr.refl A).alloc _;have hB:(A.alloc (.cells #[N n,Value.slice none 0 0,Value.slice none 0 0] 183)).heap[A.heap.size]?=some (.cells #[N n,Value.slice none 0 0,Value.slice none 0 0] 183 (0,0)):=aB _ _ _ rfl;have fs:(A.alloc (.cells #[N n,Value.slice none 0 0,Value.slice none 0 0] 183)).heap.size=A.heap.size+1:=σ;generalize A.alloc (.cells #[N n,Value.slice none 0 0,Value.slice none 0 0] 183)=W0 at *;have b9:J1 W0 (A.heap.size+1) A.heap.size n (.slice none 0 0) (.slice none 0 0) [] []:=⟨hB,Ow.nil,Ow.nil,ω⟩;have bA:Hid (∀k (h:k<l.length),(l.take (k+1)).map (λx=>x / 2^n)=(l.take k).map (λx=>x / 2^n)++[l[k] / 2^n]/\(l.take (k+1)).map (λx=>x%2^n)=(l.take k).map (λx=>x%2^n)++[l[k]%2^n]):=(by intro k h;rw[f8 h,eD,eD];exact⟨rfl,rfl⟩);have bB:∀k,((l.take k).map (λx=>x / 2^n)).length<=20000/\((l.take k).map (λx=>x%2^n)).length<=20000:=λk=>(by simp only[cy,aA];omega);have bL:=ad bB;clear hB bB;go_loopw [43] (λI wr=>∃(k:Nat) (Y Z:Value),k<=l.length/\I=N k/\J1 wr (A.heap.size+1) A.heap.size n Y Z ((l.take k).map (λx=>x / 2^n)) ((l.take k).map (λx=>x%2^n))/\Fr A wr) (λI _=>l.length-(intOf I).toNat);case atStart=>exact⟨0,_,_,ar _,rfl,b9,hA⟩
  case round=>
   clear b9;obtain⟨k,Y,Z,hk,rfl,hP,F⟩:=hrel;have cB:A.heap.size+1<=wr.heap.size:=(aR.1 hP.at0).1;by_cases J:k<l.length
   ·obtain⟨b,bT,ca,L,c0⟩:=tF (hs.fr (aC.trans F)) k J;have M:=ad (bA.out k J);have cE:=HX.out _ (bJ J);have ba:=bL.out k;generalize (l.take k).map (λx=>x%2^n)=ls1,(l.take k).map (λx=>x / 2^n)=cF at *;generalize l[k]=x at *;have HAdd:=ad (Fc x n ω a6 (A.heap.size+1) A.heap.size Y Z cF ls1 wr hP ba.1 ba.2 cB);have cG:=ad (λj (e:Y.ownBlock=some j)=>(hP.hi.lt j e).1);have cL:=ad (λj (e:Z.ownBlock=some j)=>(hP.lo.lt j e).1);cases L;have i1:(0:Int)<=k:=ω;have i2:(k:Int)<l.length:=ω;clear hP ba;go_wp2_with fail;refine HAdd.out.mono ?_;rintro e w4 ⟨rfl,bb,cN,cR,cT⟩;go_wp2;go_roundw
    case rel => exact ⟨k + 1, bb, cN, by omega, by go_num, by rw [M.out.1, M.out.2]; exact cR, ai.below F cT (by omega) (fun j hj => by
      rcases hj with h | h | h;·omega
      · have := cG.out j h; omega
      · have := cL.out j h; omega)⟩
    case measure=>exact μ
   ·obtain rfl:k=l.length:=ω;have fv:¬((l.length:Int)<l.length):=ω;rw[dY]at hP;generalize wr=o at *;clear bL bA HN HM;obtain⟨ab,bc,bd,f0⟩:=hP;have p0:=ag ab 0 rfl;have p1:=ag ab 1 rfl;have p2:=ag ab 2 rfl;obtain⟨ha,hc,ch⟩:=bc.shape';obtain⟨la,lc,cj⟩:=bd.shape';rw[cy]at ch cj;have dc:=aC.trans F;have di:=ad (a7.trans F);clear F hA aC a4 a2 b4 a7 ab;have R:Fr o (o.alloc (.cells #[Value.slice none 0 0,Value.int .i64 0] 188)):=(Fr.refl o).alloc _;have ck:(o.alloc (.cells #[Value.slice none 0 0,Value.int .i64 0] 188)).heap[o.heap.size]?=some (.cells #[Value.slice none 0 0,Value.int .i64 0] 188 (0,0)):=aB _ _ _ rfl;have f4:(o.alloc (.cells #[Value.slice none 0 0,Value.int .i64 0] 188)).heap.size=o.heap.size+1:=σ;have P0:=R.cell p0;have P1:=R.cell p1;have P2:=R.cell p2;subst ch cj;go_wp2_with fail;have cl:∀k,(eG n (l.take k)).length<=280000:=λk=>(by rw[By,aA];exact ay (bH (ay (Nat.min_le_right _ _) c8) a6) ω);have bf:=ad cl;clear cl;generalize o.alloc (.cells #[Value.slice none 0 0,Value.int .i64 0] 188)=W2 at *;have cm:cM W2 (o.heap.size+1) o.heap.size 188 [] (.slice none 0 0) []:=⟨ck,Ow.nil,ω,λc hc=>by cases hc⟩;have dj:=ad bd;have ds:=ad bc;clear bd bc ck;go_loopw [53] (λI U=>∃(k:Nat) (G:Value),k<=l.length/\I=N k/\cM U (o.heap.size+1) o.heap.size 188 [] G (eG n (l.take k))/\bw o.heap.size (.slice none 0 0) G W2 U) (λI _=>l.length-(intOf I).toNat);case atStart=>exact⟨0,_,ar _,rfl,cm,bw.refl _ _ _⟩
    case round=>
     clear cm;obtain⟨k,G,hk,rfl,V,K⟩:=hrel;have F:Fr o wr:=CL (bw.fr R K) (al _);have ac:o.heap.size+1<=wr.heap.size:=(by have:=K.1.size;omega);by_cases J:k<l.length
     ·obtain⟨b,bT,ca,L,c0⟩:=KY ((dj.out.fr F).see) k (by rw[cy];exact J);rw[cy]at L;have M:=ad (Tm n l k J);rw[fK]at c0;have aj:l[k]%2^n<2^n:=jB _ (lh n);have cn:l[k]%2^n<18446744073709551616:=nJ aj (ay (fp ω a6) ω);have f9:=bf.out k;generalize l[k]%2^n=y at *;generalize eG n (l.take k)=m at *;have dv:=ad (yD y n ω aj (o.heap.size+1) o.heap.size _ [] G m wr V ω ac);have q0:=F.cell p0;have fC:=ad aj;clear aj V;have w1:IntKind.u64.wrap (y:Int)=(y:Int):=dF _ ω;have fD:=ad cn;clear cn;cases L;have i1:(0:Int)<=k:=ω;have i2:(k:Int)<l.length:=ω;go_wp2_with fail;refine dv.out.mono ?_;rintro e w4 ⟨rfl,bl,bm,bn⟩;go_wp2;go_roundw;case rel=>exact⟨k+1,bl,ω,γ,by rw[M.out];exact bm,K.trans bn⟩
      case measure=>exact μ
     ·obtain rfl:k=l.length:=ω;have d0:¬((l.length:Int)<l.length):=ω;rw[dY]at V;have q1:=F.cell p1;have d1:Hid ((eG n l).length<=280000):=(by have:=bf.out l.length;rw[dY]at this;exact this);clear bf;go_wp2;go_loopw [13,66] (λtv I U=>∃(k D:Nat) (G:Value) (m:Z0),k<=l.length/\I=N k/\tv=N D/\D<=20000/\m.length<=280000+D+k/\cM U (o.heap.size+1) o.heap.size 188 [] G m/\bw o.heap.size (.slice none 0 0) G W2 U/\Hid (eG n l++ei n 0 l=m++ei n D (l.drop k))/\Hid (∃O,et z O (l.drop k)=true/\D<=O / 2^n)) (λ_ I _=>l.length-(intOf I).toNat);case atStart=>exact⟨0,0,G,eG n l,ar _,rfl,rfl,ω,by have:=d1.out;omega,V,K,rfl,0,c6.out,ar _⟩
      case round=>
       clear V K;clear F ac;obtain⟨k,D,G,m,hk,rfl,rfl,fP,fQ,hW,K,HI,HR⟩:=hrel;have F:Fr o wr:=CL (bw.fr R K) (al _);have ac:o.heap.size+1<=wr.heap.size:=(by have:=K.1.size;omega);by_cases J:k<l.length
       ·obtain⟨b,bT,ca,L,c0⟩:=tF ((ds.out.fr F).see) k (by rw[cy];exact J);rw[cy]at L;rw[fK]at c0;have M:=ad (Tq n D l k J);have cE:=HX.out _ (bJ J);have d3:D<=l[k] / 2^n/\∃O,et z O (l.drop (k+1))=true/\l[k] / 2^n<=O / 2^n:=(by obtain⟨O,h1,h2⟩:=HR.out;rw[EC z O l k J]at h1;simp only[fL,en]at h1;exact⟨ay h2 (Cu h1.1.1),l[k]+1,h1.2,Cu ω⟩);obtain⟨fS,cp⟩:=d3;have d5:=ad cp;clear cp HR;have d6:Hid (eG n l++ei n 0 l=(m++lp (l[k] / 2^n-D))++ei n (l[k] / 2^n) (l.drop (k+1))):=(by show _=_;rw[HI.out,M.out];simp);clear HI M;generalize l[k]=x at *;have ga:x / 2^n<=x:=kF _ _;generalize x / 2^n=y at *;have cq:=sV (y-D);have dE:=ad (Vb (y-D) ω (o.heap.size+1) o.heap.size _ [] G m wr hW ω ac);cases L;have i1:(0:Int)<=k:=ω;have i2:(k:Int)<l.length:=ω;have gb:(y:Int)-D=((y-D:Nat):Int):=ω;have cs:(m++lp (y-D)).length<=280000+y+(k+1):=(by rw[am,cq];omega);have dT:=ad cs;clear cs cq hW;generalize y-D=d at *;go_wp2_with fail;refine dE.out.mono ?_;rintro e w4 ⟨rfl,bl,bm,bn⟩;go_wp2;go_roundw;case rel=>exact⟨k+1,y,bl,m++lp d,ω,γ,rfl,ω,dT.out,bm,K.trans bn,d6.out,d5.out⟩
        case measure=>exact μ
       ·obtain rfl:k=l.length:=ω;have d0:¬((l.length:Int)<l.length):=ω;have HE:Hid (gY z l=nb++cx m):=(by have:=HI.out;rw[nL,ei,dg]at this;show _=_;rw[X.out,this]);clear HI HR X;have el:=ad (λW (h:cM W (o.heap.size+1) o.heap.size 188 [] G m)=>IR (o.heap.size+1) o.heap.size 188 [] G m W h ω);have eq:=nt m;have gc:(cx m).length<=100000:=ω;clear eq;generalize cx m=pk at *;have es:=ad (λW v0 v1 p0 p1 s0 s1 hn=>VQ W v0 v1 p0 p1 s0 s1 hn);go_wp2_with fail;refine(el.out _ hW).mono ?_;rintro e w5 ⟨v5,rfl,cu,cv⟩;have c1:=dc.trans (F.trans cv);have e5:ah w5 eB v2 nb:=(a3.fr (di.out.trans (F.trans cv))).see;have HA:=ad (es.out w5 v2 v5 nb pk e5 cu.see ω);obtain⟨x2,c2,bb⟩:=a3.shape';obtain⟨x5,c5,e7⟩:=cu.shape';subst bb e7;go_wp2_with fail;refine HA.out.mono ?_;rintro e w6 ⟨v6,rfl,e8,e9⟩;go_wp2;go_ret2;exact⟨_,rfl,by rw[HE.out];exact e8.rebase c1.size,c1.trans e9⟩
def dL(b:Bool)(l:List aq):Z0:=(l.map (gV b)).flatten
def UR(b:Bool)(l:List aq)(k:Nat)(h:k<l.length):dL b (l.take (k+1))=dL b (l.take k)++gV b l[k]:=Bl _ l k h
def UQ(b:Bool)(l:List aq)(k:Nat):(dL b (l.take k)).length<=(dL b l).length:=by
 unfold dL;rw[kR,kR];exact zD _ l k
def XQ(d:Bool)(M:Hid (∀(r:aq) (W:World),r.source.length<=100000->r.text.length<=100000->Calls Tryz.prog 63 #[.bool d,qL r] W λe w'=>∃v,e=.returned v/\Ow w' W.heap.size eB v (gV d r)/\Fr W w'))(v:Value)(l:List aq)(w:World)(F:ah w eR v l)(Z:(dL d l).length<=1000000)(G:∀r∈l,r.source.length<=100000/\r.text.length<=100000):Calls Tryz.prog 35 #[.bool d,v] w λe w'=>∃v,e=.returned v/\Ow w' w.heap.size eB v (dL d l)/\Fr w w':=by
 obtain⟨a,aa,rfl,ab,O,ac⟩:=F.shape;unfold maxLen at O;have Q:=ad G;clear G;go_in;go_wp2;go_loopw [5,10] (λR m wr=>∃k:Nat,k<=l.length/\m=N k/\Ow wr w.heap.size eB R (dL d (l.take k))/\Fr w wr) (λ_ m _=>l.length-(intOf m).toNat);case atStart=>exact⟨0,ar _,rfl,Ow.nil,Fr.refl w⟩
 case round=>
  obtain⟨k,hk,rfl,o,z⟩:=hrel;by_cases A:k<l.length;·obtain⟨b,ak,ap,U,c0,c1,c2,c3⟩:=no (F.fr z) k A;have I:=ad (UR d l k A);have V:=UQ d l (k+1);rw[I.out,am]at V;have J:=Q.out _ (bJ A);have X:=ad (λW=>M.out l[k] W J.1 J.2);generalize l[k]=r at *;cases U;have i1:(0:Int)<=k:=ω;have i2:(k:Int)<l.length:=ω;go_wp2_with fail;refine(X.out _).mono ?_;rintro e w1 ⟨v1,rfl,Y,h⟩;have D:=z.alloc (.cells #[.int .u64 r.time.toNat,Fk.u8 r.level,S r.source,S r.text] 62);have K:=(o.fr ((Fr.refl wr).alloc (.cells #[.int .u64 r.time.toNat,Fk.u8 r.level,S r.source,S r.text] 62))).fr h;go_wp2_with (at_builtin;refine iJ eB rfl (.tmp 14) (.tmp 17) 30 rfl Tryz.underlying30 w.heap.size rfl K _ _ rfl Y.see ω (D.trans h).size ?_);intro v' w4 L;go_wp2_with fail;exact⟨⟨k+1,ω,γ,by rw[I.out];exact L.own,L.below K (D.trans h) (al _) (D.trans h).size⟩,by simp[intOf];omega⟩
  ·obtain rfl:k=l.length:=ω;have a6:¬((l.length:Int)<l.length):=ω;rw[dY]at o;go_wp2;go_ret;exact⟨_,rfl,o,z⟩
def XP(v:Value)(l:List aq)(w:World)(d:ah w eR v l)(h:(dL false l).length<=1000000)(m:∀r∈l,r.source.length<=100000/\r.text.length<=100000):Calls Tryz.prog 35 #[.bool false,v] w λe w'=>∃v,e=.returned v/\Ow w' w.heap.size eB v (dL false l)/\Fr w w':=
 XQ false (λr W o z=>Fi r W o z) v l w d h m
def bU(b:Bool)(r:aq):Nat:=(gV b r).length
def Nj(m:List Nat)(x y:Nat):(m++[x]).set m.length y=m++[y]:=by
 rw[Cv _ _ (al _),fY];rfl
def XD(o:Bool)(H1:Hid (∀(r:aq) (W:World),r.source.length<=100000->r.text.length<=100000->Calls Tryz.prog 63 #[.bool o,qL r] W λe w'=>∃v,e=.returned v/\Ow w' W.heap.size eB v (gV o r)/\Fr W w'))(z:Nat)(b7:2<=z)(b8:z<=1000000)(v:Value)(l:List aq)(w:World)(hs:ah w eR v l)(hl:l.length<=1000000)(hb:∀r∈l,r.source.length<=100000/\r.text.length<=100000):Calls Tryz.prog 33 #[N z,.bool o,v] w λe w'=>∃v,e=.returned v/\Ow w' w.heap.size eJ v (cZ z (bU o) l)/\Fr w w':=by
 obtain⟨a,bA,rfl,bB,bu,bL⟩:=hs.shape;unfold maxLen at bu;have HB:=ad hb;clear hb;have bR:(1:Int)<z:=ω
 go_in;go_wp2;go_loopw [7,8,14] (λov hv iv wr=>∃(k h:Nat) (m:List Nat),k<=l.length/\iv=N k/\hv=N h/\h<=1000000+300000/\m.length<=k/\Ow wr w.heap.size eJ ov m/\Hid ((k=0/\m=[]/\h=0)\/∃c d,m=d++[c]/\c<=k/\cZ z (bU o) l=d++lS z (bU o) c h (l.drop k))/\Fr w wr) (λ_ _ iv _=>l.length-(intOf iv).toNat);case atStart=>exact⟨0,0,[],ar _,rfl,rfl,ω,al _,Ow.nil,.inl ⟨rfl,rfl,rfl⟩,Fr.refl w⟩
 case round=>
  obtain⟨k,h,m,hk,rfl,rfl,hh,ak,ap,O,hf⟩:=hrel;by_cases Z:k<l.length
  ·obtain⟨b,cb,cc,hv,c0,c1,c2,c3⟩:=no (hs.fr hf) k Z;have aa:=HB.out _ (bJ Z);have HO:=ad (λW=>H1.out l[k] W aa.1 aa.2);have ck:bU o l[k]<=200031:=(by have:=PC o l[k] aa.1 aa.2;unfold bU;omega);have a0:=ad (gE Z);have a1:Hid (k=0->cZ z (bU o) l=lS z (bU o) 1 (bU o l[k]) (l.drop (k+1))):=by
    intro Q;subst Q
    cases l with
    | nil=>simp at Z
    | cons r l=>rfl
   have aC:Hid (bU o l[k]=(gV o l[k]).length):=rfl;generalize ba:bU o l[k]=n at *;generalize l[k]=r at *;have b1:=ad ba;clear ba;cases hv;have i1:(0:Int)<=k:=ω;have i2:(k:Int)<l.length:=ω;have b2:=hf.alloc (.cells #[.int .u64 r.time.toNat,Fk.u8 r.level,S r.source,S r.text] 62);have bb:=ap.fr ((Fr.refl wr).alloc (.cells #[.int .u64 r.time.toNat,Fk.u8 r.level,S r.source,S r.text] 62));have cn:=ax ((h:Int)+n) ω;go_wp2_with fail;refine(HO.out _).mono ?_;rintro e w1 ⟨v1,rfl,bc,bd⟩;obtain⟨cs,ct,bf⟩:=bc.shape';rw[<- aC.out]at bf;subst bf;have J:=bb.fr bd;have K:=b2.trans bd;clear ap bb bc aC;by_cases a2:k=0
   ·have b3:m=[]/\h=0:=by
      rcases O.out with⟨_,L,h2⟩ | ⟨c,d,L,_⟩;·exact⟨L,h2⟩
      ·rw[L]at ak;simp at ak;omega
    obtain⟨rfl,rfl⟩:=b3;have HE:=ad (a1.out a2);clear O a1 a0;obtain⟨oa,oc,R⟩:=J.shape';rw[gS]at R;subst R;go_wp2_with (at_builtin;refine cW eJ rfl (.tmp 33) (.tmp 34) 56 rfl Tryz.underlying56 w.heap.size rfl J [0] _ _ _ rfl rfl rfl σ K.size ?_);intro v' w4 M;have A:=M.own;have D:=M.below J K (al _) K.size;try rw[fJ]at A
    obtain⟨g,gc,G,U,bl,_,_⟩:=A.atHead σ;rw[show([(0:Nat)]).length=1 from by simp]at G;subst G;obtain⟨V,z2⟩:=A.cellAt (λn=>N n) rfl 0 σ;have F:=A.set (λn=>N n) rfl 0 σ 1 (.int .i64 1) rfl;rw[show([(0:Nat)])[0]'σ=0 from by simp]at V;rw[show([(0:Nat)]).set 0 1=[1]from rfl]at F;have I:=ep (i:=0) (u:=.int .i64 1) D U (Fr.size D);have X:=ad F;have Y:=ad I;clear A F I D;go_wp2_with fail;exact⟨⟨k+1,0+n,[1],ω,γ,γ,ω,σ,X.out,(by subst a2;exact .inr ⟨1,[],rfl,ω,by rw[HE.out];simp⟩),Y.out⟩,by simp[intOf];omega⟩
   ·obtain⟨c,d,rfl,cu,HG⟩:∃c d,m=d++[c]/\c<=k/\cZ z (bU o) l=d++lS z (bU o) c h (l.drop k):=by
      rcases O.out with⟨Q,_⟩ | L;·exact absurd Q a2
      ·exact L
    rw[a0.out,lS,b1.out]at HG;have ab:=ad HG;clear O a1 HG a0;obtain⟨oa,oc,R⟩:=J.shape';rw[show(d++[c]).length=d.length+1 from by simp]at R ak;subst R;have cv:((d.length:Int)+1 == 0)=false:=(by simp;omega);by_cases bn:h+n<=z;·have b6:decide ((z:Int)<(h:Int)+n)=false:=(by simp;omega);have A:=J;have D:=K;rw[af bn]at ab;have c4:(c:Int)<=1000000:=ω;have c5:(0:Int)<=c:=ω;obtain⟨g,gc,G,U,bl,_,_⟩:=A.atHead σ;rw[show(d++[c]).length=d.length+1 from by simp]at G;cases G;obtain⟨V,z2⟩:=A.cellAt (λn=>N n) rfl d.length σ;have F:=A.set (λn=>N n) rfl d.length σ (c+1) (.int .i64 ((c:Int)+1)) rfl;rw[show(d++[c])[d.length]'σ=c from by simp]at V;rw[show(d++[c]).set d.length (c+1)=(d++[c+1])from Nj d c (c+1)]at F;have I:=ep (i:=d.length) (u:=.int .i64 ((c:Int)+1)) D U (Fr.size D);have X:=ad F;have Y:=ad I;clear A F I D;go_wp2_with fail;exact⟨⟨k+1,h+n,(d++[c+1]),ω,γ,γ,ω,by simp;omega,by simpa using X.out,.inr ⟨c+1,d,rfl,ω,ab.out⟩,Y.out⟩,by simp[intOf];omega⟩
    ·have b6:decide ((z:Int)<(h:Int)+n)=true:=(by simp;omega);have c6:(z:Int)<(h:Int)+n:=ω;have c7:¬(h:Int)+n<=z:=ω;rw[ae bn]at ab;go_wp2_with (at_builtin;refine cW eJ rfl (.tmp 33) (.tmp 34) 56 rfl Tryz.underlying56 w.heap.size rfl J [0] _ _ _ rfl rfl rfl (by simp;omega) K.size ?_);intro v' w4 M;have A:=M.own;have D:=M.below J K (al _) K.size;have c8:(d++[c]++[0]:List Nat).length=d.length+1+1:=σ;have A:Ow w4 w.heap.size eJ v' (d++[c]++[0]):=(by simpa using A);clear M;obtain⟨g,gc,G,U,bl,_,_⟩:=A.atHead σ;rw[show(d++[c]++[0]:List Nat).length=d.length+1+1 from by simp]at G;subst G;obtain⟨V,z2⟩:=A.cellAt (λn=>N n) rfl (d.length+1) σ;have F:=A.set (λn=>N n) rfl (d.length+1) σ 1 (.int .i64 1) rfl;rw[show(d++[c]++[0]:List Nat)[(d.length+1)]'σ=0 from by simp]at V;rw[show(d++[c]++[0]:List Nat).set (d.length+1) 1=(d++[c]++[1])from by simp]at F;have I:=ep (i:=(d.length+1)) (u:=.int .i64 1) D U (Fr.size D);have X:=ad F;have Y:=ad I;clear A F I D;go_wp2_with fail;exact⟨⟨k+1,n,(d++[c]++[1]),ω,γ,γ,ω,by simp;omega,by simpa using X.out,.inr ⟨1,d++[c],rfl,ω,by rw[ab.out];simp⟩,Y.out⟩,by simp[intOf];omega⟩
  ·obtain rfl:k=l.length:=ω;have cA:¬((l.length:Int)<l.length):=ω;have HE:Hid (m=cZ z (bU o) l):=by
    show _=_;rcases O.out with⟨Q,rfl,_⟩ | ⟨c,d,L,_,h2⟩;·have:l=[]:=kd Q;subst this;rfl
    ·rw[L,h2,nL,lS]
   go_wp2;go_ret;exact⟨_,rfl,by rw[<- HE.out];exact ap,hf⟩
def XC(d:Nat)(h:2<=d)(m:d<=1000000)(v:Value)(l:List aq)(w:World)(o:ah w eR v l)(z:l.length<=1000000)(A:∀r∈l,r.source.length<=100000/\r.text.length<=100000):Calls Tryz.prog 33 #[N d,.bool false,v] w λe w'=>∃v,e=.returned v/\Ow w' w.heap.size eJ v (cZ d (bU false) l)/\Fr w w':=
 XD false (λr W D F=>Fi r W D F) d h m v l w o z A
structure J7 where
 it:It
 hd:Hd
def Y8(w:World)(d:List J7):Prop:=∀m∈d,ah w eJ m.hd.v m.it.syms
def ib(l:List aq):Z0:=gu 0 (l.map λr=>r.time.toNat)++gI (l.map (·.level))
def LF(d:Nat)(l:List aq)(k:Nat)(h:k<l.length):gu d ((l.drop k).map λr=>r.time.toNat)=ao (jF (oW l[k].time.toNat d))++gu l[k].time.toNat ((l.drop (k+1)).map λr=>r.time.toNat):=by
 rw[gE h,dD,gu]
def TM(t d:Nat)(e:t<18446744073709551616)(h:d<18446744073709551616):IntKind.u64.wrap ((t:Int)-d)=((oW t d:Nat):Int):=by
 rw[zm];unfold oW;omega
def Kd(d:Nat)(e:d<18446744073709551616):jF d<18446744073709551616:=by unfold jF;split <;> omega
abbrev Ng:Value->Nat
 | .slice _ n _=>n
 | _=>0
def XN(v:Value)(l:List aq)(w:World)(hs:ah w eR v l)(hl:l.length<=20000):Calls Tryz.prog 37 #[v] w λe w'=>∃v,e=.returned v/\Ow w' w.heap.size eB v (ib l)/\Fr w w':=by
 obtain⟨a,ch,rfl,ds,cj,dv⟩:=hs.shape;unfold maxLen at cj;have HZ:=ad VY;have HN:=ad rf;go_in;go_wp2;go_loopw [3,4,10] (λov tv iv wr=>∃(k D:Nat) (m:Z0),k<=l.length/\iv=N k/\tv=.int .u64 (D:Int)/\Hid (D<18446744073709551616)/\m.length<=k*10/\Ow wr w.heap.size eB ov m/\Hid (gu 0 (l.map λr=>r.time.toNat)=m++gu D ((l.drop k).map λr=>r.time.toNat))/\Fr w wr) (λ_ _ iv _=>l.length-(intOf iv).toNat);case atStart=>exact⟨0,0,[],ar _,rfl,rfl,ad δ,σ,Ow.nil,rfl,Fr.refl w⟩
 case round=>
  obtain⟨k,D,m,hk,rfl,rfl,HW,d1,ap,HM,hf⟩:=hrel;by_cases b8:k<l.length;·obtain⟨b,cn,cp,hv,c0,c1,c2,c3⟩:=no (hs.fr hf) k b8;have a1:Hid (gu 0 (l.map λr=>r.time.toNat)=(m++ao (jF (oW l[k].time.toNat D)))++gu l[k].time.toNat ((l.drop (k+1)).map λr=>r.time.toNat)):=(by show _=_;rw[HM.out,LF D l k b8];simp);clear HM;have HT:=ad (pr l[k].time);generalize l[k]=r at *;have d5:=TM r.time.toNat D HT.out HW.out;have HD:=ad (yj r.time.toNat D);generalize oW r.time.toNat D=d at *;have cq:=ad (HZ.out d HD.out);have bB:=ad (Kd d HD.out);have a3:=cJ (jF d) bB.out;have cs:=ad (HN.out (jF d) bB.out);generalize jF d=z at *;generalize ao z=J at *;cases hv;have i1:(0:Int)<=k:=ω;have i2:(k:Int)<l.length:=ω;go_wp2_with fail;refine cq.out _ |>.mono ?_;rintro e w0 ⟨rfl,rfl⟩;go_wp2_with fail;refine(cs.out _).mono ?_;rintro e w1 ⟨v1,rfl,cv,O⟩;have bk:=hf.alloc (.cells #[.int .u64 r.time.toNat,Fk.u8 r.level,S r.source,S r.text] 62);have bL:=(ap.fr ((Fr.refl wr).alloc (.cells #[.int .u64 r.time.toNat,Fk.u8 r.level,S r.source,S r.text] 62))).fr O;go_wp2_with (at_builtin;refine iJ eB rfl (.tmp 14) (.tmp 20) 30 rfl Tryz.underlying30 w.heap.size rfl bL _ _ rfl cv.see ω (bk.trans O).size ?_);intro v' w4 F;have ec:w4.cell? ⟨wr.heap.size,0,none⟩=some (.int .u64 r.time.toNat):=(by rw[World.cell?_of_block (F.chg.block wr.heap.size (by have:=O.size;simp at this;omega) (λe=>by have:=(ap.lt _ e.symm).2;omega))];exact O.cell (by rw[World.cell?_alloc_at _ _ _ _ rfl];rfl));go_wp2_with fail;exact⟨⟨k+1,r.time.toNat,m++J,ω,γ,rfl,HT.out,by rw[am];omega,F.own,a1.out,F.below bL (bk.trans O) (al _) (bk.trans O).size⟩,by simp[intOf];omega⟩
  ·obtain rfl:k=l.length:=ω;have a3:¬((l.length:Int)<l.length):=ω;have a1:Hid (ib l=m++gI (l.map (·.level))):=(by have h:=HM.out;rw[nL,ox,gu,dg]at h;show _=_;unfold ib;rw[h]);clear HM;go_wp2;go_loopw [0,3] (λsv ov Q=>∃(d:List aq) (a:Option Addr) (c:Nat) (m:Z0),d.length<=l.length/\sv=.slice a d.length c/\ah w eR (.slice a d.length c) d/\m.length+d.length*11<=l.length*21/\Ow Q w.heap.size eB ov m/\Hid (ib l=m++gI (d.map (·.level)))/\Fr w Q) (λsv _ _=>Ng sv);case atStart=>exact⟨l,a,ch,m,al _,rfl,hs,ω,ap,a1.out,hf⟩
   case round=>
    generalize wr=Q at *;obtain⟨d,a2,c2,A,el,rfl,a4,eq,bm,HC,U⟩:=hrel;clear ap hf a1;by_cases bR:0<d.length
    ·obtain⟨b,cn,cp,hv,x0,R,x2,x3⟩:=no (a4.fr U) 0 bR;have bT:=ad (QW (d.map (·.level)) 0 (by simpa using bR));have ca:Hid (ib l=A++gW d[0].level 1 ((d.map (·.level)).drop 1)):=(by show _=_;rw[HC.out];have:=bT.out;simp at this;rw[this];simp);clear HC bT;have HQ:Hid (∀(n:Nat) (hn:n<d.length),(d[n].level=d[0].level->gW d[0].level n ((d.map (·.level)).drop n)=gW d[0].level (n+1) ((d.map (·.level)).drop (n+1)))/\(d[n].level≠d[0].level->gW d[0].level n ((d.map (·.level)).drop n)=(d[0].level::ao n)++gI ((d.drop n).map (·.level)))):=(by intro n hn;refine⟨λh=>Q0 _ _ _ n (by simpa using hn) (by simpa using h),λh=>?_⟩;rw[Q1 _ _ _ n (by simpa using hn) (by simpa using h),List.map_drop]);have a6:Hid (gW d[0].level d.length ((d.map (·.level)).drop d.length)=(d[0].level::ao d.length)++gI ((d.drop d.length).map (·.level))):=(by show _=_;rw[Q3 _ _ _ _ σ,List.map_drop]);obtain⟨o,b0⟩:∃o,d[0]=o:=⟨_,rfl⟩;rw[b0]at x0 R x2 x3 ca HQ a6;have er:=ad b0;clear b0;cases hv;have c4:(0:Int)<d.length:=ω;go_wp2;go_loopw [7] (λnv c5=>∃n:Nat,1<=n/\n<=d.length/\nv=N n/\Fr Q c5/\Hid (ib l=A++gW o.level n ((d.map (·.level)).drop n))) (λnv _=>d.length-(intOf nv).toNat);case atStart=>exact⟨1,al _,ω,rfl,Fr.refl _,ca.out⟩
     case round=>
      obtain⟨n,es,cb,rfl,V,X⟩:=hrel;have z1:=V.cell R;by_cases a3:n<d.length
      ·obtain⟨b',e1,a7,c6,y0,y1,y2,y3⟩:=no (a4.fr (U.trans V)) n a3;cases c6;have Y:=HQ.out n a3;obtain⟨Z,cc⟩:∃Z,d[n]=Z:=⟨_,rfl⟩;rw[cc]at y0 y1 y2 y3 Y;clear cc;have i1:(0:Int)<=n:=ω;have i2:(n:Int)<d.length:=ω;by_cases aC:Z.level=o.level;·have G:=ad (Y.1 aC);have cE:((Z.level.toNat:Int) == o.level.toNat)=true:=(by rw[aC];simp);clear Y;go_upto_region 11 with fail;go_quiet (fail);go_wp2_with fail;exact⟨⟨n+1,ω,ω,γ,V.drewN _,by show _=_;rw[X.out,G.out]⟩,by simp[intOf];omega⟩
       ·have G:=ad (Y.2 aC);have cE:((Z.level.toNat:Int) == o.level.toNat)=false:=(by rw[wi];intro h;exact aC (eP.1 ω));clear Y;go_upto_region 11 with fail;go_quiet (fail);go_upto_region 13 with fail;have G:Hid (ib l=A++((o.level::ao n)++gI ((d.drop n).map (·.level)))):=(by show _=_;rw[X.out,G.out]);clear X HQ a6;generalize aa:wr.drewN nq=WW at *;obtain⟨b3,a7,cF,b4⟩:=Ag eR 24 Tryz.underlying24 a4 n cb;have K:Fr Q WW:=(by rw[<- aa];exact V.drewN _);have cG:=K.cell R;clear aa x0 R x2 x3;have ab:=bm.fr K;have L:=U.trans K;have cL:=cJ n ω;have b5:=ad (HN.out n ω);have b6:Hid (ib l=(A++o.level::ao n)++gI ((d.drop n).map (·.level))):=(by show _=_;rw[G.out];simp);generalize ao n=J at *;go_wp2_with (at_builtin;refine cW eB rfl (.tmp 46) (.tmp 51) 30 rfl Tryz.underlying30 w.heap.size rfl ab [o.level] _ _ _ rfl rfl rfl (by simp;omega) L.size ?_);intro v4 w4 F;have I:=F.own;have ac:=F.below ab L (al _) L.size;go_wp2_with fail;refine(b5.out _).mono ?_;rintro e w5 ⟨v5,rfl,b7,aj⟩;have I:=I.fr aj;have M:=Fr.below ac (Fr.size ac) aj;go_wp2_with (at_builtin;refine iJ eB rfl (.tmp 52) (.tmp 55) 30 rfl Tryz.underlying30 w.heap.size rfl I _ _ rfl b7.see (by simp;omega) (Fr.size M) ?_);intro v6 w6 ak;go_wp2_with fail;have di:A.length+J.length+1+(d.length-n)*11<=l.length*21:=ω;refine⟨⟨d.drop n,some ⟨b,b3,none⟩,a7,A++o.level::J,by rw[aN];omega,by rw[aN],by rw[aN];exact b4,by rw[aN];simp;omega,ak.own,b6.out,ak.below I M (al _) (Fr.size M)⟩,by show d.length-n<d.length;omega⟩
      ·obtain rfl:n=d.length:=ω;have cf:=a6.out;have G:Hid (ib l=A++((o.level::ao d.length)++gI ((d.drop d.length).map (·.level)))):=(by show _=_;rw[X.out,cf]);clear X HQ a6 cf;have e2:¬((d.length:Int)<d.length):=ω;go_upto_region 11 with fail;go_quiet (fail);go_upto_region 13 with fail;generalize aa:wr.drewN nq=WW at *;obtain⟨b3,a7,cF,b4⟩:=Ag eR 24 Tryz.underlying24 a4 d.length cb;have K:Fr Q WW:=(by rw[<- aa];exact V.drewN _);have cG:=K.cell R;clear aa x0 R x2 x3;have ab:=bm.fr K;have L:=U.trans K;have cL:=cJ d.length ω;have b5:=ad (HN.out d.length ω);have b6:Hid (ib l=(A++o.level::ao d.length)++gI ((d.drop d.length).map (·.level))):=(by show _=_;rw[G.out];simp);generalize ao d.length=J at *;go_wp2_with (at_builtin;refine cW eB rfl (.tmp 46) (.tmp 51) 30 rfl Tryz.underlying30 w.heap.size rfl ab [o.level] _ _ _ rfl rfl rfl (by simp;omega) L.size ?_);intro v4 w4 F;have I:=F.own;have ac:=F.below ab L (al _) L.size;go_wp2_with fail;refine(b5.out _).mono ?_;rintro e w5 ⟨v5,rfl,b7,aj⟩;have I:=I.fr aj;have M:=Fr.below ac (Fr.size ac) aj;go_wp2_with (at_builtin;refine iJ eB rfl (.tmp 52) (.tmp 55) 30 rfl Tryz.underlying30 w.heap.size rfl I _ _ rfl b7.see (by simp;omega) (Fr.size M) ?_);intro v6 w6 ak;go_wp2_with fail;have di:A.length+J.length+1+(d.length-d.length)*11<=l.length*21:=ω;refine⟨⟨d.drop d.length,some ⟨b,b3,none⟩,a7,A++o.level::J,by rw[aN];omega,by rw[aN,fY],by rw[aN,fY]at *;exact b4,by rw[aN];simp;omega,ak.own,b6.out,ak.below I M (al _) (Fr.size M)⟩,by show 0<d.length;omega⟩
    ·have c4:¬((0:Int)<d.length):=ω;have G:Hid (ib l=A):=(by have:d=[]:=kd ω;show _=_;rw[HC.out,this];simp[gI]);go_wp2;go_ret;exact⟨_,rfl,by rw[G.out];exact bm,U⟩
def Y9(d:Z0)(i e:Nat):Prop:=e<=d.length/\(∀j,i<=j->j<e->0<j/\d[j]?=d[j-1]?)/\(e<d.length->e=0\/d[e]? ≠ d[e-1]?)
def uS(d:Bool)(b:Z0)(s:Cs):Nat × Cs:=if d=true then s.num b else(0,s)
def tj(d:Bool)(b:Z0)(s:Cs):Nat × Cs:=if d=true then(uS d b s).2.byte b else(0,(uS d b s).2)
def kK(d:Bool)(b:Z0)(s:Cs):Z0 × Cs:=(tj d b s).2.text b 4000
def fF(d:Bool)(b:Z0)(s:Cs):Z0 × Cs:=(kK d b s).2.text b 4000
def iO(d:Bool)(b:Z0)(s:Cs):aq:=⟨UInt64.ofNat (uS d b s).1,UInt8.ofNat (tj d b s).1,(kK d b s).1,(fF d b s).1⟩
def kJ(d:Bool)(b:Z0):Nat->Cs->List aq->List aq × Nat
 | 0,s,e=>(e,s.er)
 | f+1,s,e=>
  if b.length<=s.at_ then(e,0)
  else if(fF d b s).2.er=0 then kJ d b f (fF d b s).2 (e++[iO d b s])
  else([],(fF d b s).2.er)
def iN(d:Bool)(b:Z0):List aq × Nat:=kJ d b b.length ⟨0,0⟩ []
def EG(e:Bool)(b:Z0)(f:Nat)(s:Cs)(d:List aq)(h:b.length<=s.at_)(m:s.er=0):kJ e b f s d=(d,0):=by
 cases f with
 | zero=>rw[kJ,m]
 | succ f=>rw[kJ,af h]
def EF(d:Bool)(b:Z0)(f:Nat)(s:Cs)(e:List aq)(h:s.at_<b.length)(m:(fF d b s).2.er=0):kJ d b (f+1) s e=kJ d b f (fF d b s).2 (e++[iO d b s]):=by
 rw[kJ,ae ω,af m]
def Od(d:Bool)(b:Z0)(f:Nat)(s:Cs)(e:List aq)(h:s.at_<b.length)(m:¬(fF d b s).2.er=0):kJ d b (f+1) s e=([],(fF d b s).2.er):=by
 rw[kJ,ae ω,ae m]
def Cs.step_er(s:Cs)(r:Nat × Nat × Nat)(h:(s.step r).er=0):s.er=0/\r.2.2=0/\(s.step r).at_=s.at_+r.2.1:=by
 unfold Cs.step at *;by_cases d:s.er=0
 ·rw[af d]at h ⊢;by_cases e:r.2.2=0;·rw[af e];exact⟨d,e,rfl⟩
  ·rw[ae e]at h;exact absurd h e
 ·rw[ae d]at h;exact absurd h d
def Cs.text_up(s:Cs)(l:Z0)(most:Nat)(h:(s.text l most).2.er=0):s.er=0/\s.at_<(s.text l most).2.at_/\(s.text l most).1.length<=most:=by
 obtain⟨d,e,m⟩:=Cs.step_er s _ h;have o:=wU most (l.drop s.at_) e;refine⟨d,?_,?_⟩;·show s.at_<(s.step _).at_;rw[m];show s.at_<s.at_+(fO most (l.drop s.at_)).2.1;omega
 ·show(if s.er=0 then _ else _:Z0).length<=most;rw[af d];exact o.2.2
def Cs.num_up(s:Cs)(l:Z0)(h:(s.num l).2.er=0):s.er=0/\s.at_<=(s.num l).2.at_:=by
 obtain⟨d,m,e⟩:=Cs.step_er s _ h;exact⟨d,by show s.at_<=(s.step _).at_;rw[e];exact uj _ _⟩
def Cs.byte_up(s:Cs)(l:Z0)(h:(s.byte l).2.er=0):s.er=0/\s.at_<=(s.byte l).2.at_:=by
 have e:(s.take l 1).2.er=0:=h;show s.er=0/\s.at_<=(s.take l 1).2.at_;unfold Cs.take at *;by_cases d:s.er=0
 ·rw[af d]at e ⊢;refine⟨d,?_⟩;split;·exact al _
  ·exact uj _ _
 ·rw[ae d]at e;exact absurd e d
def EK(d:Bool)(b:Z0)(s:Cs)(h:(fF d b s).2.er=0):s.er=0/\s.at_<(fF d b s).2.at_/\(kK d b s).1.length<=4000/\(fF d b s).1.length<=4000:=by
 obtain⟨m,o,z⟩:=Cs.text_up _ _ _ h;obtain⟨e,A,D⟩:=Cs.text_up _ _ _ m;have K:(kK d b s).2.at_<(fF d b s).2.at_:=o;have L:(tj d b s).2.at_<(kK d b s).2.at_:=A;have key:s.er=0/\s.at_<=(tj d b s).2.at_:=by
  cases d;·exact⟨e,al _⟩
  ·obtain⟨F,G⟩:=Cs.byte_up _ _ e;obtain⟨I,J⟩:=Cs.num_up _ _ F;exact⟨I,ay J G⟩
 exact⟨key.1,ω,D,z⟩
def Ot(d:Bool)(b:Z0)(s:Cs)(h:s.at_<=b.length):(fF d b s).2.at_<=b.length:=by
 refine Cs.text_le _ _ _ (Cs.text_le _ _ _ ?_);cases d;·exact h
 ·exact Cs.take_le _ _ _ (Cs.num_le _ _ h)
def uF(b:Z0):Z0 × Nat:=
 if (eE b).2 = 0 then
  (if(eE b).1=1 then(if cK b=0 then(if(bE b).length<5 then([],1)else((bE b).drop 5,0))else([],cK b))else([],4))
 else([],(eE b).2)
def AM(x:Z0):Nat × Cs:=(⟨0,0⟩:Cs).int x 32768
def AK(x:Z0):Nat × Cs:=(AM x).2.byte x
def PL(x:Z0):Cs:=if 1<(AK x).1 then(AK x).2.fail 2 else(AK x).2
def AJ(x:Z0):Nat × Cs:=(PL x).int x 20000
def uY(x:Z0):Nat × Cs:=(AJ x).2.int x (AJ x).1
def Fp(x:Z0):Nat:=if(uY x).2.er=0 then(if 16<=(AM x).1/\(AM x).1<=32768 then 0 else 9)else(uY x).2.er
def pR(x:Z0):Nat->Cs
 | 0=>(uY x).2
 | i+1=>((pR x i).take x (df (x.drop (pR x i).at_)).2.1).2
def xM(x:Z0)(i:Nat):List aq × Nat:=
 if (df (x.drop (pR x i).at_)).2.2 = 0 then
  (if (iN true (df (x.drop (pR x i).at_)).1).2 = 0 then (if (iN true (df (x.drop (pR x i).at_)).1).1 = [] then ([], 2) else iN true (df (x.drop (pR x i).at_)).1)
   else ([], (iN true (df (x.drop (pR x i).at_)).1).2))
 else([],(df (x.drop (pR x i).at_)).2.2)
def Fo(x:Z0):Nat->Nat->List aq->List aq × Nat
 | 0,_,d=>(d,0)
 | k+1,i,d=>if(xM x i).2=0 then Fo x k (i+1) (d++(xM x i).1)else([],(xM x i).2)
def uZ(x:Z0):List aq × Nat:=Fo x (uY x).1 0 []
def PH(x:Z0):List aq × Nat:=
 if (uZ x).2 = 0 then
  (if 0<x.length-(pR x (uY x).1).at_\/(uZ x).1.length≠(AJ x).1 then([],2)else if mE (uZ x).1=true then((uZ x).1,0)else([],6))
 else([],(uZ x).2)
def Yx(b:Z0):Nat:=if(uF b).2=0 then(if Fp (uF b).1=0 then(PH (uF b).1).2 else Fp (uF b).1)else(uF b).2
end Go.Proofs.YtndbpldeabnkbaaGreatDoor
namespace Go.Fk
open Go.RowKit
section
variable {P:Program} {α:Type} {E:aw P α} {w:World} {base:Nat}
theorem Ny(h:E.k=1)(F I J:TypeId)(hu:P.underlying F=some (.slice E.e))(g d m n D K c:Nat)(y:Value)(z l:List α)
  (hown:Ow w base E (.slice (some ⟨g,0,none⟩) n D) z) (hsee:ah w E y l) (hc:c=min m l.length) (hp:0<c) (hfit:d+m=z.length) :
  ∃w',(Builtin.copy_ #[F,I] J #[.slice (some ⟨g,d,none⟩) m K,y]).run P w=.ok (goInt c) w'/\Ow w' base E (.slice (some ⟨g,0,none⟩) n D) (z.take d++(l.take c++z.drop (d+c)))/\ai (λk=>k=g) w w':=by
 obtain⟨i,hi,hz,ac,bf⟩:=pf E.info;have aj:(P.info? E.e).map (·.size)=some 1:=by simp[hi,ac,h]
 have hl:l≠[]:=by intro e;subst e;simp at hc;omega
 obtain⟨ap,hb,A,L,c1,c2,M,O⟩:=hown.parts;obtain⟨b,a1,a2,a3,_,_,a4⟩:=hsee.cells hl;rw[h,eo]at M O;have Q:(l.take c).length=c:=by rw[aA];omega
 have o:=E.length_cells (l.take c);rw[h,eo,Q]at o;have a5:A.toList.length=D:=by simpa using M
 have R := run_copy_row (P := P) w F I J E.e g d m K ⟨b, a1, none⟩ l.length a2 A E.e (E.cells (l.take c)) hu aj L (by rw [o, hc]; exact Nat.min_comm _ _) (by
   intro j u U;rw[mY];have a6 := (pD.1 U).1;rw[o] at a6;have := E.cells_at (l.take c) j ω 0 ω;rw[h, eo, dq, U, qz] at this;have V := a4 j ω 0 ω u this.symm;rw[h, eo, dq] at V
   exact V) (by rw[o]; omega) (E.cells_mem _)
 rw[o]at R;rw[a3];have G:(z.take d++(l.take c++z.drop (d+c))).length=z.length:=by rw[am,am,aA,aN,Q];omega
 refine⟨_,R,⟨E.length_cells _,.inr ⟨g,D,_,by rw[G,ap],hb,iq w g _ _ _ _ L,by rw[G];exact c1,c2,?_,?_⟩⟩,⟨rfl,rfl,rfl,by simp[World.setRow],λk _ hn=>setRow_other w g k _ hn⟩⟩;·rw[h,eo];simp only[ou,am,aA,aN,o,a5];omega
 ·rw[h,eo,G,E.cells_append,E.cells_append];have X:(E.cells (z.take d)).length=d:=(by rw[E.length_cells,h,eo,aA];omega);have e1:E.cells (z.take d)=(E.cells z).take d:=(by have:=E.cells_append (z.take d) (z.drop d);rw[jC]at this;rw[this,wu (iT X.symm),cw (iT X)]);have Y:(E.cells (z.take (d+c))).length=d+c:=(by rw[E.length_cells,h,eo,aA];omega);have e2:E.cells (z.drop (d+c))=(E.cells z).drop (d+c):=(by have:=E.cells_append (z.take (d+c)) (z.drop (d+c));rw[jC]at this;rw[this,List.drop_append_of_le_length (iT Y.symm),uu (iT Y),fJ]);rw[e1,e2,<- O];have Z:(A.toList.take d).length=d:=(by rw[aA];omega);have f2:(A.toList.take z.length).take d=A.toList.take d:=(by rw[um,fI ω]);have f3:(A.toList.take z.length).drop (d+c)=(A.toList.drop (d+c)).take (z.length-(d+c)):=(by rw[ru]);rw[f2,f3,bG,Dq _ _ _ _ (by rw[Z,o];omega),Z,o,show z.length-d-c=z.length-(d+c) by omega]
theorem Nx(m:E.k=1)(t:TypeId)(e:P.underlying t=some (.slice E.e)){n d g:Nat}{l:List α}(h:Ow w base E (.slice (some ⟨g,0,none⟩) n d) l)(i:Nat)(A:i<l.length):(∀W,(Instr.slice t (.slice (some ⟨g,0,none⟩) n d) (some (.int .i64 (i:Int))) none none).run P W=.ok (.slice (some ⟨g,i,none⟩) (n-i) (d-i)) W):=by
 obtain⟨D,_,_,_,F,G,_⟩:=h.parts;have o:P.underlying t=some (.slice (P.elem t)):=by simp[Program.elem,e]
 have z:P.elem t=E.e:=by simp[Program.elem,e]
 intro W;rw[run_slice_l W t _ _ _ o .i64 _ ω ω,z,pK];simp[Result.andThen,sliced,m,mY,show d≠i by omega]
end
def NT{α:Type}(x z:α)(k n c:Nat)(h:n<=k)(d:c<=n)(m:n+c<=k):(List.replicate n x++List.replicate (k-n) z).take n++(((List.replicate n x++List.replicate (k-n) z).take n).take c++(List.replicate n x++List.replicate (k-n) z).drop (n+c))=List.replicate (n+c) x++List.replicate (k-(n+c)) z:=by
 have e:(List.replicate n x++List.replicate (k-n) z).take n=List.replicate n x:=by rw[wu σ,cw σ]
 rw[e,List.take_replicate,fI d,List.drop_append,jX,uu σ,fJ,C3,<- bG,List.replicate_append_replicate];congr 2;omega
end Go.Fk
namespace Go.Proofs.YtndbpldeabnkbaaGreatDoor
open Go.RowKit Go.Fk
def VK(a b:Nat)(d:a<18446744073709551616)(e:b<18446744073709551616):bits .and .u64 (a:Int) (b:Int)=((a &&& b:Nat):Int):=by
 have h:a &&& b<2^64:=zh _ ω;show IntKind.u64.wrap ((BitVec.ofInt 64 (a:Int) &&& BitVec.ofInt 64 (b:Int)).toNat:Int)=_;rw[wJ,fV 64 a ω,fV 64 b ω];exact dF _ ω
def Qg(k:Nat)(d:k<=1000000)(w:World):Calls Tryz.prog 263 #[.int .u64 1,.int .u64 (k:Int)] w λe w'=>e=.returned (.tuple #[.int .u64 0,.int .u64 (k:Int)])/\w=w':=by
 have h:bits .and .u64 1 4294967295=1:=by decide +kernel
 have m:bits .and .u64 0 4294967295=0:=by decide +kernel
 have o:bits .and .u64 (k:Int) 4294967295=(k:Int):=by rw[show(4294967295:Int)=((4294967295:Nat):Int)from rfl,VK _ _ ω ω,show(4294967295:Nat)=2^32-1 from rfl,JU,nI ω]
 have z:(k:Int) / 4294967296=0:=ω
 have A:IntKind.u64.wrap (k:Int)=(k:Int):=dF _ ω;have D:IntKind.u64.wrap 0=0:=δ
 have F:IntKind.u64.wrap 1=1:=δ
 go_in;go_wp2;go_ret2;exact⟨rfl,rfl⟩
def Qb(k:Nat)(d:k<=1000000)(w:World):Calls Tryz.prog 242 #[.int .u64 1,.int .u64 (k:Int)] w λe w'=>e=.returned (.tuple #[.int .u64 0,.int .u64 (k:Int)])/\w=w':=by
 have h:=ad (Qg k d w);have m:IntKind.u64.wrap (k:Int)=(k:Int):=dF _ ω;have o:IntKind.u64.wrap 0=0:=δ
 have z:IntKind.u64.wrap 1=1:=δ
 go_in;go_wp2_with fail;apply h.z;rintro e A ⟨rfl,rfl⟩;go_wp2;go_ret2;exact⟨rfl,rfl⟩
def Wu(x:UInt8)(k:Nat)(hk:k<=1000000)(v:Value)(w:World)(D:ah w eB v [x]):Calls Tryz.prog 213 #[v,N k] w λe w'=>∃u,e=.returned u/\Ow w' w.heap.size eB u (List.replicate k x)/\Fr w w':=by
 have HM:=ad (Qb k hk w);have z:=oQ eB rfl rfl 30 Tryz.underlying30 .i64 .i64 k ω w;have F:=pT (base:=w.heap.size) eB rfl rfl k ω w (al _);have A:Fr w (w.alloc (.cells (madeCells #[eB.z] k) eB.e)):=(Fr.refl w).alloc _;have M:=D.fr A;obtain⟨a0,bb,rfl,_⟩:=D.shape;have k1:¬(k:Int)<0:=ω
 have d2:IntKind.u64.wrap (k:Int)=(k:Int):=dF _ ω;have d3:IntKind.i64.wrap (k:Int)=(k:Int):=ax _ ω;have d4:IntKind.u64.wrap 1=1:=δ
 clear D;rw[show(eB:aw Tryz.prog UInt8).e=5 from rfl]at *;generalize madeCells #[eB.z] k=G at *;go_in;go_wp2_with fail;apply HM.z;rintro e w1 ⟨rfl,rfl⟩;have k3:¬(9223372036854775807:Int)<k:=ω
 rcases kE k with rfl | hp
 ·have bm:(Instr.makeSlice 30 (.int .i64 0) (.int .i64 0)).run Tryz.prog w=.ok (.slice (some ⟨w.heap.size,0,none⟩) 0 0) (w.alloc (.cells G 5)):=z;clear z;go_wp2_with (refine wpList_copy_nothing rfl (.tmp 31) (.tmp 32) 30 30 rfl 5 Tryz.underlying30 (by kernel_rfl) _ _ _ _ _ _ rfl rfl rfl ?_);go_wp2;go_loopw [8] (λo wr=>o=N 0/\wr=w.alloc (.cells G 5)) (λ_ _=>0);case atStart=>exact⟨rfl,rfl⟩
  case round=>obtain⟨rfl,rfl⟩:=hrel;go_wp2;go_ret;exact⟨_,rfl,F,A⟩
 ·have av:(1:Nat)<=k:=hp;have O:(([x]:Z0)++(List.replicate k eB.zero).drop 1)=List.replicate 1 x++List.replicate (k-1) eB.zero:=(by rw[C3];rfl);have a1:=ad O;have bn:w.heap.size<(w.alloc (.cells G 5)).heap.size:=σ;have Q:=ad F;have R:=ad A;clear O F A;go_wp2_with (refine CQ rfl rfl (.tmp 31) (.tmp 32) 30 30 rfl Tryz.underlying30 _ _ _ _ rfl rfl Q.out M (by simp;omega) ?_);intro I d U;have V:Ow I w.heap.size eB (.slice (some ⟨w.heap.size,0,none⟩) k k) (List.replicate 1 x++List.replicate (k-1) eB.zero):=(by have h1:=d;rw[show List.replicate 1 x++List.replicate (k-1) eB.zero=x::List.replicate (k-1) eB.zero from rfl];simpa using h1);have J:Fr w I:=((R.out.chg (λb=>b=w.heap.size)).trans U λi X h=>by simp[Value.ownBlock]at h;omega).fr (λi X h=>by omega);clear d Q a1 z M R U;go_wp2_with fail;generalize hg:w.heap.size=g at *;have bs:g<=I.heap.size:=(by rw[<- hg];exact J.size);go_loopw [8] (λo wr=>∃n:Nat,1<=n/\n<=k/\o=N n/\Ow wr g eB (.slice (some ⟨g,0,none⟩) k k) (List.replicate n x++List.replicate (k-n) eB.zero)/\Fr w wr) (λo _=>k-(intOf o).toNat);case atStart=>exact⟨1,al _,av,rfl,V,J⟩
  case round=>
   clear V J;obtain⟨n,bu,Y,rfl,d,Z⟩:=hrel;by_cases a4:n<k
   ·have m:(List.replicate n x++List.replicate (k-n) eB.zero).length=k:=(by simp;omega);have bv:=Nx (P:=Tryz.prog) (E:=eB) rfl 30 Tryz.underlying30 d n (by rw[m];exact a4);obtain⟨bx,aa⟩:=jj eB 30 Tryz.underlying30 d.see n (by rw[m];exact Y);have K:=NT x eB.zero k n (min (k-n) n) Y ω ω;have a5:=ad K;have L:((List.replicate n x++List.replicate (k-n) eB.zero).take n).length=n:=(by rw[aA,m];omega);have a6:=ad L;have a7:=ad m;obtain⟨w4,b0,ab,ac⟩:=Ny (P:=Tryz.prog) (E:=eB) (w:=wr.drew) rfl 30 30 3 Tryz.underlying30 g n (k-n) k k (k-n) (min (k-n) n) _ _ _ d.drew aa.drew (by rw[L]) ω (by rw[m];omega);rw[K]at ab;have i1:(n:Int)<k:=ω;have z:n+min (k-n) n<=k:=ω;have b2:0<min (k-n) n:=ω;have aC:Fr w w4:=((Z.drew.chg (λb=>b=g)).trans ac λ_ _ h=>h).fr (λi X h=>by omega);clear K d aa L m a5 a6 a7 ac;generalize min (k-n) n=c at *;have b3:=ax ((n:Int)+c) ω;go_upto_region 9 with fail;go_region;all_goals go_wp2_with fail
    all_goals go_roundw
    all_goals first
     | (simp[intOf];omega)
     | exact⟨n+c,ω,ω,γ,ab,aC⟩
   ·obtain rfl:n=k:=ω;have b4:¬((n:Int)<n):=ω;rw[fY,ww,dg]at d;go_wp2;go_ret;exact⟨_,rfl,d,Z⟩
