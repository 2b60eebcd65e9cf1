/- Lemmas for ThreeTurned. -/
import Derived.Test.YtndbpldeabnkbaaGreatDoorM12
set_option linter.all false
set_option maxHeartbeats 8000000
set_option maxRecDepth 100000
namespace Go.Fk
abbrev o9Qb:=@Go.Calls.quiet_of
abbrev rqQb:=@Nat.min_eq_right
abbrev ruQb:=@List.drop_take
end Go.Fk
namespace Go.Proofs.YtndbpldeabnkbaaGreatDoor
open Go.RowKit Go.Fk
def AF(a b:Nat)(d:a<18446744073709551616)(e:b<18446744073709551616):bits .or .u64 (a:Int) (b:Int)=((a ||| b:Nat):Int):=by
 have h:a ||| b<2^64:=zf ω ω;show IntKind.u64.wrap ((BitVec.ofInt 64 (a:Int) ||| BitVec.ofInt 64 (b:Int)).toNat:Int)=_;rw[BitVec.toNat_or,fV 64 a ω,fV 64 b ω];exact dFQb _ ω
def yY(B base n k:Nat)(l:Z0)(w:World)(D:aD w 224 B base l n 0)(a5:1<=k)(a6:k<=8)(V:n+k<=l.length)(X:l.length<=1000000)(Y:base<=w.heap.size):Calls Tryz.prog 101 #[.pointer (some ⟨B,0,none⟩),N k] w λe w'=>e=.returned (.int .u64 (cU ((l.drop n).take k):Int))/\aD w' 224 B base l (n+k) 0/\ai (λb=>b=B) w w':=by
 have F:=ad (Cg B base n k l w D V X Y);have m:((l.drop n).take k).length=k:=by rw[aA,aN];omega
 have G:=ad m;have h1:¬(k:Int)<1:=ω
 have h8:¬(8:Int)<k:=ω
 have Z:=ad (λi h=>Ri ((l.drop n).take k) i h);have I:Hid (cU (((l.drop n).take k).take k)=cU ((l.drop n).take k)):=by show _=_;rw[cw ω]
 have HZ:Hid (cU (((l.drop n).take k).take 0)=0):=rfl;have J:Hid (∀i,i<=k->cU (((l.drop n).take k).take i)<2^(8*i)):=λi K=>by have:=rQ (((l.drop n).take k).take i);rw[aA,m,fI K,show(256:Nat)=2^8 from rfl,<- Nat.pow_mul]at this;exact this
 clear D m;generalize (l.drop n).take k=q at *;go_in;go_wp2_with fail;apply F.z;rintro e w1 ⟨u,rfl,o,hC,ac⟩;obtain⟨p,z,L⟩:=o.shape';rw[G.out]at L;subst L;have HO:=ad o.see;clear o F;go_wp2_with fail;go_loop [5,20] (λxv A=>∃i:Nat,i<=k/\A=N i/\xv=.int .u64 (cU (q.take i):Int)) (λ_ A=>k-(intOf A).toNat);case atStart=>exact⟨0,ar _,rfl,by rw[HZ.out];rfl⟩
 case round=>
  obtain⟨i,K,rfl,rfl⟩:=hrel;by_cases ap:i<k
  ·have M:i<q.length:=(by rw[G.out];exact ap);obtain⟨b,av,cp,O,Q⟩:=HO.out.cell1 Fk.u8 rfl i M;simp only[ir]at O;obtain⟨rfl,_,rfl⟩:=O;have d0:w1.cell? ⟨b,av+i,none⟩=some (.int .u8 (q[i].toNat:Int)):=Q;clear Q;have i1:(i:Int)<k:=ω;have i2:(0:Int)<=i:=ω;have R:=ad (Z.out i M);have a0:=J.out i ω;have a1:=J.out (i+1) ω;have bk:=q[i].toNat_lt;generalize q[i].toNat=d at *;have U:(2:Nat)^(8*i)<=2^56:=fp ω ω;have a2:(2:Nat)^56=72057594037927936:=δ;have a3:d*2^(8*i)<=255*2^56:=bH ω U;have HB:Hid (bits .or .u64 ((cU (q.take i):Nat):Int) (IntKind.u64.wrap ((d:Int)*2^(8*i)))=((cU (q.take (i+1)):Nat):Int)):=(by show _=_;rw[show(d:Int)*2^(8*i)=((d*2^(8*i):Nat):Int) by simp,dFQb _ ω,AF _ _ ω ω,R.out]);clear U a2 a3 a0 a1 R;go_wp2_with fail;go_round;case rel=>exact⟨i+1,ω,γ,by rw[HB.out]⟩
   case measure=>exact μ
  ·obtain rfl:k=i:=ω;have bl:¬((k:Int)<k):=ω;have HA:=ad I.out;rw[I.out];go_wp2;go_ret;exact⟨rfl,hC,ac⟩
def Er(v:Value)(l:Z0)(w:World)(J:ah w eB v l)(hl:l.length<=1000000):Calls Tryz.prog 211 #[v] w λe w'=>e=.returned (.tuple #[.int .u64 ((cI l).1:Int),N (cI l).2.1,.int .i64 ((cI l).2.2:Int)])/\w=w':=by
 obtain⟨a0,bn,rfl,_⟩:=J.shape;have HS:=ad J;have V:Hid (cI l=gz 0 0 (l.drop 0)):=rfl;clear J;generalize cI l=R at *;go_in;go_wp2_with fail;go_loop [2,9] (λxv K=>∃i x:Nat,i<=l.length/\i<=9/\K=N i/\xv=.int .u64 (x:Int)/\Hid (x<128^i)/\Hid (R=gz i x (l.drop i))) (λ_ K=>l.length-(intOf K).toNat);case atStart=>exact⟨0,0,ar _,ω,rfl,rfl,by show 0<_;decide,V.out⟩
 case round=>
  obtain⟨i,x,hi,X,rfl,rfl,A,o⟩:=hrel;clear V;by_cases Y:i<l.length
  ·obtain⟨b,a2,cp,hv,Z⟩:=HS.out.cell1 Fk.u8 rfl i Y;cases hv;have d0:w.cell? ⟨b,a2+i,none⟩=some (.int .u8 (l[i].toNat:Int)):=Z;have D:=ad (PT l i x Y);have aa:=l[i].toNat_lt;clear Z;generalize l[i].toNat=c at *;have i1:(i:Int)<l.length:=ω;have i2:(0:Int)<=i:=ω;by_cases m:(i=9/\¬c=1)\/(0<i/\c=0)
   ·have d:Hid (R=(0,0,2)):=ad (by rw[o.out,D.out,af m]);clear o D A;by_cases F:i=9
    ·subst F;by_cases h1:c=1;·omega
     ·have L:¬(c:Int)=1:=ω;clear m h1;go_wp2;go_ret3;rw[d.out];exact⟨rfl,rfl⟩
    ·have k0:¬(i:Int)=9:=ω;have L:(0:Int)<i:=ω;have k2:c=0:=ω;subst k2;clear m F;go_wp2;go_ret3;rw[d.out];exact⟨rfl,rfl⟩
   ·have M:¬(i=9/\¬c=1):=λh=>m (.inl h);have O:=PP i c x X aa A.out M;have a6:=VJ c aa;have I:=ad (OH i);have a7:c%128<128:=jB _ ω;have w1:IntKind.u64.wrap ((c%128:Nat):Int)=((c%128:Nat):Int):=dFQb _ ω;have w2:=ax (7*(i:Int)) ω;have w3:IntKind.u64.wrap (((c%128:Nat):Int)*2^(7*i))=((c%128*128^i:Nat):Int):=(by rw[dFQb _ (by rw[show((c%128:Nat):Int)*2^(7*i)=((c%128*2^(7*i):Nat):Int) by simp,<- I.out];omega),I.out];simp);have w4:bits .or .u64 (x:Int) ((c%128*128^i:Nat):Int)=((x+c%128*128^i:Nat):Int):=(by rw[AF _ _ ω ω,I.out,xS _ _ _ (by rw[<- I.out];exact A.out)]);have s1:¬(7*(i:Int))<0:=ω;have s2:(7*(i:Int)).toNat=7*i:=ω;by_cases F:i=9;·have bf:c=1:=ω;have ac:=A.out;subst F bf;have Q:(128:Nat)^9=9223372036854775808:=δ;rw[Q]at ac;have w5:bits .or .u64 (x:Int) (IntKind.u64.wrap (IntKind.u64.wrap (bits .andNot .u8 1 128)*9223372036854775808))=((x+9223372036854775808:Nat):Int):=(by rw[show IntKind.u64.wrap (IntKind.u64.wrap (bits .andNot .u8 1 128)*9223372036854775808)=((1*2^63:Nat):Int)from by decide +kernel,AF _ _ ω δ,xS _ _ _ ω]);have d:Hid (R=(x+9223372036854775808,10,0)):=ad (by rw[o.out,D.out,ae m,af ω,Q]);have HW:=ad w5;clear w1 w2 w3 w4 w5 s1 s2 a6 a7 O m M o D A ac Q;go_wp2;go_ret3;rw[d.out,HW.out];exact⟨rfl,rfl⟩
    have k0:¬(i:Int)=9:=ω;have ak:=ad O.1;have b1:i<=8:=ω;have z:Hid (R=if c<128 then(x+c%128*128^i,i+1,0)else gz (i+1) (x+c%128*128^i) (l.drop (i+1))):=ad (by rw[o.out,D.out,ae m]);have U:=ad m;clear o D m O M F X;generalize c%128*128^i=y at *;generalize ap:c%128=cm at *;have b3:=ad ap;clear ap;by_cases b4:0<i
    ·have L:(0:Int)<i:=ω;have k2:¬(c:Int)=0:=(by have:=U.out;omega);clear U;by_cases G:c<128;·have k3:(c:Int)<128:=ω;have d:Hid (R=(x+y,i+1,0)):=ad (by rw[z.out,af G]);clear z;go_wp2;go_ret3;rw[d.out];exact⟨by simp[N],rfl⟩
     ·have k3:¬(c:Int)<128:=ω;have d:Hid (R=gz (i+1) (x+y) (l.drop (i+1))):=ad (by rw[z.out,ae G]);clear z;go_wp2_with fail;go_round;case rel=>exact⟨i+1,x+y,ω,ω,γ,rfl,ak.out,d.out⟩
      case measure=>exact μ
    ·have L:¬(0:Int)<i:=ω;clear U;by_cases G:c<128;·have k3:(c:Int)<128:=ω;have d:Hid (R=(x+y,i+1,0)):=ad (by rw[z.out,af G]);clear z;go_wp2;go_ret3;rw[d.out];exact⟨by simp[N],rfl⟩
     ·have k3:¬(c:Int)<128:=ω;have d:Hid (R=gz (i+1) (x+y) (l.drop (i+1))):=ad (by rw[z.out,ae G]);clear z;go_wp2_with fail;go_round;case rel=>exact⟨i+1,x+y,ω,ω,γ,rfl,ak.out,d.out⟩
      case measure=>exact μ
  ·obtain rfl:i=l.length:=ω;have b5:¬((l.length:Int)<l.length):=ω;have d:Hid (R=(0,0,1)):=ad (by rw[o.out,PU l _ x (al _)]);clear o A;go_wp2;go_ret3;rw[d.out];exact⟨rfl,rfl⟩
def EI(m:Value)(B base n d:Nat)(l:Z0)(w:World)(h:aD w 224 B base l n d)(z:¬d=0):Calls Tryz.prog 167 #[.pointer (some ⟨B,0,none⟩),m] w λe w'=>e=.returned (.bool false)/\w=w':=by
 have o:=ad (ld B base n d l w h);have A:¬(d:Int)=0:=ω
 clear h;go_in;go_wp2_with fail;apply o.z;rintro e D ⟨rfl,rfl⟩;go_wp2;go_ret;exact⟨rfl,rfl⟩
def Oe(z:Nat)(A:List Value)(a0:(z=219/\∃a,A=[a])\/(z=168/\∃a b,A=[a,b])\/(z=184/\∃a b,A=[a,b])\/(z=220/\∃a b,A=[a,b]))(G:Nat->Prop)(Q:World->Prop)(B base n k d:Nat)(l:Z0)(w:World)(M:aD w 224 B base l n 0)
  (HT:Hid (∀W v,Fr w W->ah W eB v (l.drop n)->Calls Tryz.prog z (v::A).toArray W λe w'=>e=.returned (.tuple #[N k,.int .i64 (d:Int)])/\Q w'/\ai G W w'))
  (hk:d=0->n+k<=l.length) (hG:∀g,G g->g≠B/\∃Y T f,w.heap[g]?=some (.cells Y T f)/\T≠5) (hl:l.length<=1000000) :
  Calls Tryz.prog 167 #[.pointer (some ⟨B,0,none⟩),.func (.func z) #[] A.toArray] w λe w'=>e=.returned (.bool (decide (d=0)))/\∃o,Q o/\ai G w o/\ai (λb=>b=B) o w'/\aD w' 224 B base l (if d=0 then n+k else n) d:=by
 have Z:=ad (ld B base n 0 l w M);have HR:=ad (Ap B base n 0 l w M);obtain⟨⟨v,h1,O⟩,a1⟩:=M;have a2:¬G B:=λh=>(hG B h).1 rfl;have a3:∀i,v.ownBlock=some i->¬G i:=λi F h=>by obtain⟨_,Y,T,f,h2,h3⟩:=hG i h;exact O.ne_cells h2 h3 F
 have ac:=O.ne_cells h1 δ;clear hG;generalize l.length-n=m at *;go_in;go_wp2_with fail;apply Z.z;rintro e w1 ⟨rfl,rfl⟩;go_wp2_with fail;apply HR.z;rintro e R ⟨a,cp,rfl,aj,K⟩;have HX:Hid (Calls Tryz.prog z (.slice a m cp::A).toArray R (λe w'=>e=.returned (.tuple #[N k,.int .i64 (d:Int)])/\Q w'/\ai G R w')):=HT.out R _ K aj;rcases a0 with⟨rfl,I,rfl⟩ | ⟨rfl,I,c2,rfl⟩ | ⟨rfl,I,c2,rfl⟩ | ⟨rfl,I,c2,rfl⟩;all_goals go_wp2_with fail
 all_goals apply HX.z
 all_goals rintro e o ⟨rfl,hq,U⟩
 all_goals
  have D:=U.heap (K.heap h1) a2;have L:=(O.fr K).chg U a3;have av:ai G w o:=(K.chg _).trans U λ_ _ h=>h;clear Z HR HT HX aj;by_cases he:d=0;·subst he;have aC:=hk rfl;have bc:=ax ((n:Int)+k) ω;have I:=ag D 1 rfl;have z1:=a8 D 1;have J:=a9 o ⟨B,1,none⟩ (.int .i64 ((n:Int)+k));have V:=aJ D 1 (.int .i64 ((n:Int)+k));have X:=L.chg J (λi F e=>ac (by rw[F,show i=B from e]));clear L;go_wp2;go_ret;exact⟨rfl,o,hq,av,J,⟨v,V,X⟩,aC⟩
  ·have bd:¬(d:Int)=0:=ω;have I:=ag D 2 rfl;have z1:=a8 D 2;have J:=a9 o ⟨B,2,none⟩ (.int .i64 (d:Int));have V:=aJ D 2 (.int .i64 (d:Int));have X:=L.chg J (λi F e=>ac (by rw[F,show i=B from e]));clear L;go_wp2;go_ret;exact⟨rfl,o,hq,av,J,⟨v,V,X⟩,a1⟩
def xD(m:Nat)(o:List Value)(I:(m=219/\∃a,o=[a])\/(m=168/\∃a b,o=[a,b])\/(m=184/\∃a b,o=[a,b])\/(m=220/\∃a b,o=[a,b]))(G:Nat->Prop)(Q:World->Prop)(B base:Nat)(s:Cs)(r:Nat × Nat × Nat)(l:Z0)(w:World)(D:aD w 224 B base l s.at_ s.er)
  (HT:Hid (∀W v,Fr w W->ah W eB v (l.drop s.at_)->Calls Tryz.prog m (v::o).toArray W λe w'=>e=.returned (.tuple #[N r.2.1,.int .i64 (r.2.2:Int)])/\Q w'/\ai G W w'))
  (hk:r.2.2=0->s.at_+r.2.1<=l.length) (hG:∀g,G g->g≠B/\∃J T f,w.heap[g]?=some (.cells J T f)/\T≠5) (hl:l.length<=1000000) :
  Calls Tryz.prog 167 #[.pointer (some ⟨B,0,none⟩),.func (.func m) #[] o.toArray] w λe w'=>e=.returned (.bool (decide (s.er=0/\r.2.2=0)))/\(¬s.er=0->w=w')/\∃z,(s.er=0->Q z)/\ai G w z/\ai (λb=>b=B) z w'/\aD w' 224 B base l (s.step r).at_ (s.step r).er:=by
 by_cases d:s.er=0
 ·rw[d]at D;refine(Oe m o I G Q B base s.at_ r.2.1 r.2.2 l w D HT hk hG hl).mono ?_;rintro e K ⟨rfl,z,L,M,O,A⟩;refine⟨by simp[d],λh=>absurd d h,z,λ_=>L,M,O,?_⟩;unfold Cs.step;rw[af d];by_cases F:r.2.2=0;·rw[af F]at A ⊢;rw[F]at A;exact A
  ·rw[ae F]at A ⊢;exact A
 ·refine(EI _ B base s.at_ s.er l w D d).mono ?_;rintro e K ⟨rfl,rfl⟩;refine⟨by simp[d],λ_=>rfl,w,λh=>absurd h d,ai.refl _ _,ai.refl _ _,?_⟩;unfold Cs.step;rw[ae d];exact D
def FU(most:Nat)(I:most<9223372036854775808)(v:Value)(l:Z0)(w:World)(m:ah w eB v l)(J:l.length<=1000000):Calls Tryz.prog 169 #[v,N most] w λe w'=>e=.returned (.tuple #[N (az most l).1,N (az most l).2.1,.int .i64 ((az most l).2.2:Int)])/\w=w':=by
 have o:=ad (Er v l w m J);have L:=Ft l;have d:Hid (az most l=if(cI l).2.2=0 then(if most<(cI l).1 then(0,0,6)else cI l)else(0,0,(cI l).2.2)):=rfl;obtain⟨M,O,rfl,_⟩:=m.shape;clear m;generalize cI l=q,az most l=R at *;obtain⟨x,n,z⟩:=q;by_cases A:z=0
 ·subst A;have Q:¬(most:Int)<0:=ω;by_cases D:most<x;·have h:Hid (R=(0,0,6)):=ad (by rw[d.out,af rfl,af D]);have F:(most:Int)<x:=ω;have U:=ad I;have K:IntKind.u64.wrap (most:Int)=(most:Int):=dFQb _ ω;clear d;go_in;go_wp2_with fail;apply o.z;rintro e G ⟨rfl,rfl⟩;go_wp2;go_ret3;rw[h.out];exact⟨rfl,rfl⟩
  ·have h:Hid (R=(x,n,0)):=ad (by rw[d.out,af rfl,ae D]);have F:¬(most:Int)<x:=ω;have K:IntKind.u64.wrap (most:Int)=(most:Int):=dFQb _ ω;have V:IntKind.i64.wrap (x:Int)=(x:Int):=ax _ ω;clear d;go_in;go_wp2_with fail;apply o.z;rintro e G ⟨rfl,rfl⟩;go_wp2;go_ret3;rw[h.out];exact⟨rfl,rfl⟩
 ·have h:Hid (R=(0,0,z)):=(by show _=_;rw[d.out];simp only;rw[ae A]);have F:¬(z:Int)=0:=ω;clear d;go_in;go_wp2_with fail;apply o.z;rintro e G ⟨rfl,rfl⟩;go_wp2;go_ret3;rw[h.out];exact⟨rfl,rfl⟩
def PX(d:Nat)(o v:Value)(l:Z0)(w:World)(h:w.heap[d]?=some (.cells #[o] 60 (0,0)))(m:ah w eB v l)(z:l.length<=1000000):Calls Tryz.prog 219 #[v,.pointer (some ⟨d,0,none⟩)] w λe w'=>e=.returned (.tuple #[N (cI l).2.1,.int .i64 ((cI l).2.2:Int)])/\w'.heap[d]?=some (.cells #[.int .u64 ((cI l).1:Int)] 60 (0,0))/\ai (λb=>b=d) w w':=by
 have A:=ad (Er v l w m z);have G:=ag h 0 rfl;have I:=a8 h 0;have D:=a9 w ⟨d,0,none⟩ (.int .u64 ((cI l).1:Int));have F:=aJ h 0 (.int .u64 ((cI l).1:Int));obtain⟨J,K,rfl,_⟩:=m.shape;clear m;generalize cI l=q at *;go_in;go_wp2_with fail;apply A.z;rintro e L ⟨rfl,rfl⟩;go_wp2;go_ret2;exact⟨rfl,F,D⟩
def RF(most:Nat)(z:most<9223372036854775808)(o d:Nat)(A v:Value)(l:Z0)(w:World)(D:w.heap[o]?=some (.cells #[N most] 3 (0,0)))(h:w.heap[d]?=some (.cells #[A] 3 (0,0)))(m:ah w eB v l)(F:l.length<=1000000):Calls Tryz.prog 168 #[v,.pointer (some ⟨o,0,none⟩),.pointer (some ⟨d,0,none⟩)] w λe w'=>e=.returned (.tuple #[N (az most l).2.1,.int .i64 ((az most l).2.2:Int)])/\w'.heap[d]?=some (.cells #[N (az most l).1] 3 (0,0))/\ai (λb=>b=d) w w':=by
 have G:=ad (FU most z v l w m F);have K:=ag D 0 rfl;have L:=ag h 0 rfl;have M:=a8 h 0;have I:=a9 w ⟨d,0,none⟩ (N (az most l).1);have J:=aJ h 0 (N (az most l).1);obtain⟨O,Q,rfl,_⟩:=m.shape;clear m;generalize az most l=q at *;go_in;go_wp2_with fail;apply G.z;rintro e R ⟨rfl,rfl⟩;go_wp2;go_ret2;exact⟨rfl,J,I⟩
def Xj(B base:Nat)(s:Cs)(l:Z0)(w:World)(A:aD w 224 B base l s.at_ s.er)(R:l.length<=1000000):Calls Tryz.prog 182 #[.pointer (some ⟨B,0,none⟩)] w λe w'=>e=.returned (.int .u64 ((s.num l).1:Int))/\aD w' 224 B base l (s.num l).2.at_ (s.num l).2.er/\ai (λb=>b=B) w w':=by
 have aj:∀(K:Fn) (first L:Array Value) (w:World),(Instr.makeFunc K first L).run Tryz.prog w=.ok (.func K first L) w:=λ_ _ _ _=>rfl;have ak:B<w.heap.size:=by obtain⟨⟨v,U,_⟩,_⟩:=A;exact(aR.1 U).1
 have F:(w.alloc (.cells #[.int .u64 0] 60)).heap[w.heap.size]?=some (.cells #[.int .u64 0] 60 (0,0)):=aB _ _ _ rfl;have G:Fr w (w.alloc (.cells #[.int .u64 0] 60)):=(Fr.refl w).alloc _;have M:(l.drop s.at_).length<=1000000:=by rw[aN];omega
 have V:s.at_<=l.length:=A.le
 have m := ad (xD 219 [.pointer (some ⟨w.heap.size, 0, none⟩)] (.inl ⟨rfl, _, rfl⟩) (fun b => b = w.heap.size) (fun W => W.heap[w.heap.size]? = some (.cells #[.int .u64 ((cI (l.drop s.at_)).1 : Int)] 60 (0, 0))) B base s (cI (l.drop s.at_)) l _ (A.fr G)
   (ad λW v X Y => (PX w.heap.size _ v _ W (X.heap F) Y M)) (λh => by have := AN _ h; rw[aN] at this; omega)
   (by intro g Z; obtain rfl : g = w.heap.size := Z; exact ⟨ω, _, _, _, F, by decide⟩) R)
 have O:Hid (s.num l=(s.val (cI (l.drop s.at_)),s.step (cI (l.drop s.at_)))):=rfl;have D:Hid (s.val (cI (l.drop s.at_))=if s.er=0/\(cI (l.drop s.at_)).2.2=0 then(cI (l.drop s.at_)).1 else 0):=rfl;rw[O.out];clear F A M V O;generalize cI (l.drop s.at_)=q,s.val (cI (l.drop s.at_))=x2,s.step (cI (l.drop s.at_))=s2 at *;by_cases d:s.er=0/\q.2.2=0;·rw[bp d]at m;rw[af d]at D;have h0:=ad d.1;clear d;go_in;go_wp2_with fail;apply m.z;rintro e I ⟨rfl,_,w2,hQ,z,o,hC⟩;have Q:=o.heap (hQ h0.out) ω;have c1:=ag Q 0 rfl;have J:ai (λb=>b=B) w I:=((G.chg _).trans (G':=λb=>b=w.heap.size) z λi hi h=>by omega).trans o λi _ h=>h;clear m z o hQ Q;go_wp2;go_ret;rw[D.out];exact⟨rfl,hC,J⟩
 ·rw[br d]at m;rw[ae d]at D;clear d;go_in;go_wp2_with fail;apply m.z;rintro e I ⟨rfl,_,w2,hQ,z,o,hC⟩;have J:ai (λb=>b=B) w I:=((G.chg _).trans (G':=λb=>b=w.heap.size) z λi hi h=>by omega).trans o λi _ h=>h;clear m z o hQ;go_wp2;go_ret;rw[D.out];exact⟨rfl,hC,J⟩
def sn(most:Nat)(V:most<9223372036854775808)(B base:Nat)(s:Cs)(l:Z0)(w:World)(A:aD w 224 B base l s.at_ s.er)(X:l.length<=1000000):Calls Tryz.prog 132 #[.pointer (some ⟨B,0,none⟩),N most] w λe w'=>e=.returned (N (s.int l most).1)/\aD w' 224 B base l (s.int l most).2.at_ (s.int l most).2.er/\ai (λb=>b=B) w w':=by
 have ap:∀(K:Fn) (first L:Array Value) (w:World),(Instr.makeFunc K first L).run Tryz.prog w=.ok (.func K first L) w:=λ_ _ _ _=>rfl;have av:B<w.heap.size:=by obtain⟨⟨v,Y,_⟩,_⟩:=A;exact(aR.1 Y).1
 have M:((w.alloc (.cells #[N most] 3)).alloc (.cells #[.int .i64 0] 3)).heap[w.heap.size]?=some (.cells #[N most] 3 (0,0)):=by rw[jk _ _ _ σ,aB _ _ _ rfl]
 have F:((w.alloc (.cells #[N most] 3)).alloc (.cells #[.int .i64 0] 3)).heap[w.heap.size+1]?=some (.cells #[.int .i64 0] 3 (0,0)):=aB _ _ _ σ;have G:Fr w ((w.alloc (.cells #[N most] 3)).alloc (.cells #[.int .i64 0] 3)):=((Fr.refl w).alloc _).alloc _;have O:(l.drop s.at_).length<=1000000:=by rw[aN];omega
 have Z:s.at_<=l.length:=A.le
 have m := ad (xD 168 [.pointer (some ⟨w.heap.size, 0, none⟩), .pointer (some ⟨w.heap.size + 1, 0, none⟩)] (.inr (.inl ⟨rfl, _, _, rfl⟩)) (fun b => b = w.heap.size + 1) (fun W => W.heap[w.heap.size + 1]? = some (.cells #[N (az most (l.drop s.at_)).1] 3 (0, 0))) B base s (az most (l.drop s.at_)) l _ (A.fr G)
   (ad λW v Q hs => (RF most V w.heap.size (w.heap.size + 1) _ v _ W (Q.heap M) (Q.heap F) hs O)) (λh => by have := nz _ _ h; rw[aN] at this; omega)
   (by intro g hg; obtain rfl : g = w.heap.size + 1 := hg; exact ⟨ω, _, _, _, F, by decide⟩) X)
 have R:Hid (s.int l most=(s.val (az most (l.drop s.at_)),s.step (az most (l.drop s.at_)))):=rfl;have D:Hid (s.val (az most (l.drop s.at_))=if s.er=0/\(az most (l.drop s.at_)).2.2=0 then(az most (l.drop s.at_)).1 else 0):=rfl;rw[R.out];clear M F A O Z R;generalize az most (l.drop s.at_)=q,s.val (az most (l.drop s.at_))=x2,s.step (az most (l.drop s.at_))=s2 at *;by_cases d:s.er=0/\q.2.2=0;·rw[bp d]at m;rw[af d]at D;have h0:=ad d.1;clear d;go_in;go_wp2_with fail;apply m.z;rintro e I ⟨rfl,_,w2,hQ,z,o,hC⟩;have U:=o.heap (hQ h0.out) ω;have c1:=ag U 0 rfl;have J:ai (λb=>b=B) w I:=((G.chg _).trans (G':=λb=>b=w.heap.size+1) z λi hi h=>by omega).trans o λi _ h=>h;clear m z o hQ U;go_wp2;go_ret;rw[D.out];exact⟨rfl,hC,J⟩
 ·rw[br d]at m;rw[ae d]at D;clear d;go_in;go_wp2_with fail;apply m.z;rintro e I ⟨rfl,_,w2,hQ,z,o,hC⟩;have J:ai (λb=>b=B) w I:=((G.chg _).trans (G':=λb=>b=w.heap.size+1) z λi hi h=>by omega).trans o λi _ h=>h;clear m z o hQ;go_wp2;go_ret;rw[D.out];exact⟨rfl,hC,J⟩
def LJ(most:Nat)(O:most<9223372036854775808)(G o:Nat)(v:Value)(l:Z0)(w:World)(Q:w.heap[G]?=some (.cells #[N most] 3 (0,0)))(z:w.heap[o]?=some (.cells #[S []] 9 (0,0)))(m:ah w eB v l)(R:l.length<=1000000):Calls Tryz.prog 220 #[v,.pointer (some ⟨G,0,none⟩),.pointer (some ⟨o,0,none⟩)] w λe w'=>e=.returned (.tuple #[N (fO most l).2.1,.int .i64 ((fO most l).2.2:Int)])/\w'.heap[o]?=some (.cells #[S (fO most l).1] 9 (0,0))/\ai (λb=>b=o) w w':=by
 have A:=ad (FU most O v l w m R);have m0:=ag Q 0 rfl;have c0:=ag z 0 rfl;have z0:=a8 z 0;have h:Hid (fO most l=if(az most l).2.2=0 then(if l.length<(az most l).2.1+(az most l).1 then([],0,1)else((l.drop (az most l).2.1).take (az most l).1,(az most l).2.1+(az most l).1,0))else([],0,(az most l).2.2)):=rfl;have F:=nz most l;obtain⟨U,V,rfl,_⟩:=m.shape;generalize fO most l=T at *;by_cases d:(az most l).2.2=0
 ·have I:=F d;rw[af d]at h;have ap:=ax ((l.length:Int)-((az most l).2.1:Int)) ω;by_cases D:l.length<(az most l).2.1+(az most l).1;·rw[af D]at h;have X:(l.length:Int)-((az most l).2.1:Int)<((az most l).1:Int):=ω;clear m F I D;rw[d]at A;clear d;generalize (az most l).2.1=n,(az most l).1=x at *;go_in;go_wp2_with fail;apply A.z;rintro e J ⟨rfl,rfl⟩;go_wp2;go_ret2;rw[h.out];exact⟨rfl,z,ai.refl _ _⟩
  ·rw[ae D]at h;have X:¬(l.length:Int)-((az most l).2.1:Int)<((az most l).1:Int):=ω;have K:(l.take ((az most l).2.1+(az most l).1)).drop (az most l).2.1=(l.drop (az most l).2.1).take (az most l).1:=(by rw[ruQb,rr]);obtain⟨Y,Z,L,M⟩:=qJ eB 30 Tryz.underlying30 m (az most l).2.1 ((az most l).2.1+(az most l).1) ω ω;rw[K,rr]at *;have av:∀W,(Instr.slice 30 (.slice U l.length V) (some (.int .i64 ((az most l).2.1:Int))) (some (.int .i64 (((az most l).2.1:Int)+((az most l).1:Int)))) none).run Tryz.prog W=.ok (.slice Y (az most l).1 Z) W:=L;have a1:=yo _ _ w M;have a2:=ax (((az most l).2.1:Int)+((az most l).1:Int)) ω;have aa:=a9 w ⟨o,0,none⟩ (S ((l.drop (az most l).2.1).take (az most l).1));have ab:=aJ z 0 (S ((l.drop (az most l).2.1).take (az most l).1));clear m F I D M L K;rw[d]at A;clear d;generalize (az most l).2.1=n,(az most l).1=x,(l.drop (az most l).2.1).take (az most l).1=q at *;go_in;go_wp2_with fail;apply A.z;rintro e J ⟨rfl,rfl⟩;go_wp2;go_ret2;rw[h.out];exact⟨σ,ab,aa⟩
 ·rw[ae d]at h;have D:¬((az most l).2.2:Int)=0:=ω;clear m F d;generalize (az most l).2.2=er at *;go_in;go_wp2_with fail;apply A.z;rintro e J ⟨rfl,rfl⟩;go_wp2;go_ret2;rw[h.out];exact⟨rfl,z,ai.refl _ _⟩
def Cf(most:Nat)(Z:most<9223372036854775808)(B base:Nat)(s:Cs)(l:Z0)(w:World)(o:aD w 224 B base l s.at_ s.er)(hl:l.length<=1000000):Calls Tryz.prog 183 #[.pointer (some ⟨B,0,none⟩),N most] w λe w'=>e=.returned (S (s.text l most).1)/\aD w' 224 B base l (s.text l most).2.at_ (s.text l most).2.er/\ai (λb=>b=B) w w':=by
 have a0:∀(G:Fn) (first I:Array Value) (w:World),(Instr.makeFunc G first I).run Tryz.prog w=.ok (.func G first I) w:=λ_ _ _ _=>rfl;have a1:B<w.heap.size:=by obtain⟨⟨v,h1,_⟩,_⟩:=o;exact(aR.1 h1).1
 obtain⟨d,m⟩:∃d,d=(w.alloc (.cells #[N most] 3)).alloc (.cells #[S []] 9):=⟨_,rfl⟩;have J:d.heap[w.heap.size]?=some (.cells #[N most] 3 (0,0)):=by rw[m,jk _ _ _ σ,aB _ _ _ rfl]
 have z:d.heap[w.heap.size+1]?=some (.cells #[S []] 9 (0,0)):=by rw[m];exact aB _ _ _ σ
 have K:Fr w d:=by rw[m];exact((Fr.refl w).alloc _).alloc _
 have L:(l.drop s.at_).length<=1000000:=by rw[aN];omega
 have ac:s.at_<=l.length:=o.le
 have M := ad (xD 220 [.pointer (some ⟨w.heap.size, 0, none⟩), .pointer (some ⟨w.heap.size + 1, 0, none⟩)] (.inr (.inr (.inr ⟨rfl, _, _, rfl⟩))) (fun b => b = w.heap.size + 1) (fun W => W.heap[w.heap.size + 1]? = some (.cells #[S (fO most (l.drop s.at_)).1] 9 (0, 0))) B base s (0, (fO most (l.drop s.at_)).2) l d (o.fr K)
   (ad λW v O hs => (LJ most Z w.heap.size (w.heap.size + 1) v _ W (O.heap J) (O.heap z) hs L)) (λh => by have := (wU _ _ h).2.1; rw[aN] at this; show s.at_ + (fO most (l.drop s.at_)).2.1 ≤ _; omega)
   (by intro g hg; obtain rfl : g = w.heap.size + 1 := hg; exact ⟨ω, _, _, _, z, by decide⟩) hl)
 have Q:Hid (s.text l most=(if s.er=0 then(fO most (l.drop s.at_)).1 else [],s.step (0,(fO most (l.drop s.at_)).2))):=rfl;rw[Q.out];clear J o L ac Q;generalize (fO most (l.drop s.at_)).1=q,decide (s.er=0/\(0,(fO most (l.drop s.at_)).2).2.2=0)=ok,s.step (0,(fO most (l.drop s.at_)).2)=s2 at *;have R:=ad z;obtain⟨A,D⟩:∃A,A=(if s.er=0 then q else []):=⟨_,rfl⟩;rw[<- D];have ap:=ad D;clear D;clear z;go_in;go_wp2_with fail;rw[<- m];apply M.z;rintro e U ⟨rfl,V,w2,hQ,X,F,hC⟩;have av:ai (λb=>b=B) w U:=((K.chg _).trans (G':=λb=>b=w.heap.size+1) X λi hi h=>by omega).trans F λi _ h=>h;have Y:U.heap[w.heap.size+1]?=some (.cells #[S A] 9 (0,0)):=by
  rw[ap.out];by_cases h:s.er=0;·rw[af h];exact F.heap (hQ h) ω
  ·rw[ae h,<- V h];exact R.out
 have c1:=ag Y 0 rfl;clear M X F hQ Y V R m;go_wp2;go_ret;exact⟨rfl,hC,av⟩
def Jj(B base k:Nat)(s:Cs)(l:Z0)(w:World)(m:aD w 224 B base l s.at_ s.er)(hk:¬s.er=0\/l.length<s.at_+k)(hl:l.length<=1000000):Calls Tryz.prog 145 #[.pointer (some ⟨B,0,none⟩),N k] w λe w'=>e=.returned (.slice none 0 0)/\aD w' 224 B base l (s.step (0,0,1)).at_ (s.step (0,0,1)).er/\ai (λb=>b=B) w w':=by
 have a2:∀(G:Fn) (first I:Array Value) (w:World),(Instr.makeFunc G first I).run Tryz.prog w=.ok (.func G first I) w:=λ_ _ _ _=>rfl;have a3:B<w.heap.size:=by obtain⟨⟨v,A,_⟩,_⟩:=m;exact(aR.1 A).1
 obtain⟨d,o⟩:∃d,d=(w.alloc (.cells #[N k] 3)).alloc (.cells #[.slice none 0 0] 30):=⟨_,rfl⟩;have J:d.heap[w.heap.size]?=some (.cells #[N k] 3 (0,0)):=by rw[o,jk _ _ _ σ,aB _ _ _ rfl]
 have K:d.heap[w.heap.size+1]?=some (.cells #[.slice none 0 0] 30 (0,0)):=by rw[o];exact aB _ _ _ σ
 have z:Fr w d:=by rw[o];exact((Fr.refl w).alloc _).alloc _
 have L:(l.drop s.at_).length=l.length-s.at_:=by rw[aN]
 have M:Hid (∃R:Ending->World->Prop,Calls Tryz.prog 167 #[.pointer (some ⟨B,0,none⟩),.func (.func 184) #[] #[.pointer (some ⟨w.heap.size,0,none⟩),.pointer (some ⟨w.heap.size+1,0,none⟩)]] d R/\∀e w',R e w'->(∃b,e=.returned (.bool b))/\ai (λb=>b=B) d w'/\aD w' 224 B base l (s.step (0,0,1)).at_ (s.step (0,0,1)).er):=by
  by_cases O:s.er=0;·have HT:Hid (∀W v,Fr d W->ah W eB v (l.drop s.at_)->Calls Tryz.prog 184 (v::[.pointer (some ⟨w.heap.size,0,none⟩),.pointer (some ⟨w.heap.size+1,0,none⟩)]).toArray W λe w'=>e=.returned (.tuple #[N (0:Nat),.int .i64 ((1:Nat):Int)])/\True/\ai (λ_=>False) W w'):=λW v hW hs=>(LX w.heap.size (w.heap.size+1) k v _ W (hW.heap J) hs (by rw[L];have:=m.le;omega)).mono (by rintro e w' ⟨rfl,rfl⟩;exact⟨rfl,trivial,ai.refl _ _⟩);refine⟨_,xD 184 [.pointer (some ⟨w.heap.size,0,none⟩),.pointer (some ⟨w.heap.size+1,0,none⟩)] (.inr (.inr (.inl ⟨rfl,_,_,rfl⟩))) (λ_=>False) (λ_=>True) B base s (0,0,1) l d (m.fr z) HT (λh=>by cases h) (λg h=>h.elim) hl,?_⟩;rintro e w' ⟨rfl,_,D,_,A,h2,h3⟩;exact⟨⟨_,rfl⟩,(A.mono λ_ _ h=>h.elim).trans h2 λ_ _ h=>h,h3⟩
  ·refine⟨_,EI _ B base s.at_ s.er l d (m.fr z) O,?_⟩;rintro e w' ⟨rfl,rfl⟩;refine⟨⟨_,rfl⟩,ai.refl _ _,?_⟩;unfold Cs.step;rw[ae O];exact m.fr z
 obtain⟨R,Q,U⟩:=M.out;have V:=ad Q;have X:=ad U;have Y:=ad K;clear M Q U J K L hk;generalize s.step (0,0,1)=s2 at *;go_in;go_wp2_with fail;rw[<- o];apply V.z;intro e D Z;obtain⟨⟨b,rfl⟩,F,hC⟩:=X.out e D Z;have hx:=F.heap Y.out ω;have c1:=ag hx 0 rfl;have a1:ai (λb=>b=B) w D:=(z.chg _).trans F λ_ _ h=>h;clear V X Y Z hx F o;go_wp2;go_ret;exact⟨rfl,hC,a1⟩
def Ch(B base k:Nat)(s:Cs)(l:Z0)(w:World)(o:aD w 224 B base l s.at_ s.er)(z:l.length<=1000000)(F:base<=w.heap.size):Calls Tryz.prog 145 #[.pointer (some ⟨B,0,none⟩),N k] w λe w'=>∃u,e=.returned u/\Ow w' w.heap.size eB u (s.take l k).1/\aD w' 224 B base l (s.take l k).2.at_ (s.take l k).2.er/\ai (λb=>b=B) w w':=by
 by_cases d:s.er=0
 ·by_cases A:l.length<s.at_+k;·refine(Jj B base k s l w o (.inr A) z).mono ?_;rintro e w' ⟨rfl,hC,h⟩;have m:s.take l k=([],⟨s.at_,1⟩):=(by unfold Cs.take;rw[af d,af A]);have D:s.step (0,0,1)=⟨s.at_,1⟩:=(by unfold Cs.step;rw[af d,ae δ]);rw[m];rw[D]at hC;exact⟨_,rfl,Ow.nil,hC,h⟩
  ·rw[d]at o;refine(Cg B base s.at_ k l w o ω z F).mono ?_;rintro e w' ⟨u,rfl,G,hC,h⟩;have m:s.take l k=((l.drop s.at_).take k,⟨s.at_+k,0⟩):=(by unfold Cs.take;rw[af d,ae A]);rw[m];exact⟨u,rfl,G,hC,h⟩
 ·refine(Jj B base k s l w o (.inl d) z).mono ?_;rintro e w' ⟨rfl,hC,h⟩;have m:s.take l k=([],s):=(by unfold Cs.take;rw[ae d]);have D:s.step (0,0,1)=s:=(by unfold Cs.step;rw[ae d]);rw[m];rw[D]at hC;exact⟨_,rfl,Ow.nil,hC,h⟩
def LZ(s:Cs)(l:Z0):(s.take l 1).1=[]\/∃x,(s.take l 1).1=[x]:=by
 unfold Cs.take;split
 ·split;·exact .inl rfl
  ·show(l.drop s.at_).take 1=[]\/∃x,(l.drop s.at_).take 1=[x]
   cases l.drop s.at_ with
   | nil=>exact .inl rfl
   | cons x t=>exact .inr ⟨x,rfl⟩
 ·exact .inl rfl
def JK(B base:Nat)(s:Cs)(l:Z0)(w:World)(o:aD w 224 B base l s.at_ s.er)(G:l.length<=1000000)(I:base<=w.heap.size):Calls Tryz.prog 100 #[.pointer (some ⟨B,0,none⟩)] w λe w'=>e=.returned (.int .u8 ((s.byte l).1:Int))/\aD w' 224 B base l (s.byte l).2.at_ (s.byte l).2.er/\ai (λb=>b=B) w w':=by
 have h:=ad (Ch B base 1 s l w o G I);have A:Hid (s.byte l=((((s.take l 1).1).getD 0 0).toNat,(s.take l 1).2)):=rfl;rw[A.out];have J:=LZ s l;clear o A;generalize (s.take l 1).2=s2,(s.take l 1).1=q at *;rcases J with rfl | ⟨x,rfl⟩;·go_in;go_wp2_with fail;apply h.z;rintro e D ⟨u,rfl,d,hC,m⟩;obtain⟨p,z,rfl⟩:=d.shape';clear h d;go_wp2;go_ret;exact⟨rfl,hC,m⟩
 ·go_in;go_wp2_with fail;apply h.z;rintro e D ⟨u,rfl,d,hC,m⟩;obtain⟨b,K,L,rfl,F⟩:=d.see.cell1 Fk.u8 rfl 0 σ;have M:D.cell? ⟨b,K,none⟩=some (.int .u8 (x.toNat:Int)):=F;clear d F h;go_wp2;go_ret;exact⟨rfl,hC,m⟩
def J4(B base n d:Nat)(l:Z0)(w:World)(h:aD w 224 B base l n d):Calls Tryz.prog 143 #[.pointer (some ⟨B,0,none⟩)] w λe w'=>e=.returned (N (l.length-n))/\Fr w w':=by
 have o:=ad (Ap B base n d l w h);clear h;generalize l.length-n=m at *;go_in;go_wp2_with fail;apply o.z;rintro e A ⟨a,D,rfl,_,z⟩;clear o;go_wp2;go_ret;exact⟨rfl,z⟩
def vX(B base n h:Nat)(l:Z0)(w:World)(m:aD w 224 B base l n h):Calls Tryz.prog 142 #[.pointer (some ⟨B,0,none⟩)] w λe w'=>e=.returned (N n)/\w=w':=by
 obtain⟨⟨v,d,o⟩,z⟩:=m;have A:=ag d 1 rfl;clear d o;go_in;go_wp2;go_ret;exact⟨rfl,rfl⟩
def vW(d:Nat)(B base:Nat)(s:Cs)(l:Z0)(w:World)(F:aD w 224 B base l s.at_ s.er):Calls Tryz.prog 146 #[.pointer (some ⟨B,0,none⟩),.int .i64 (d:Int)] w λe w'=>e=.returned (.tuple #[])/\aD w' 224 B base l (s.fail d).at_ (s.fail d).er/\ai (λb=>b=B) w w':=by
 obtain⟨⟨v,h,m⟩,A⟩:=F;have c2:=ag h 2 rfl;by_cases o:s.er=0;·have z:Hid (s.fail d=⟨s.at_,d⟩):=(by show _=_;unfold Cs.fail;rw[af o]);rw[o]at c2;have M:=a8 h 2;have G:=m.ne_cells h δ;have D:=a9 w ⟨B,2,none⟩ (.int .i64 (d:Int));have I:=aJ h 2 (.int .i64 (d:Int));have J:=m.chg D (λi K e=>G (by rw[K,show i=B from e]));clear m o;go_in;go_wp2;go_end0;rw[z.out];exact⟨rfl,⟨⟨v,I,J⟩,A⟩,D⟩
 ·have z:Hid (s.fail d=s):=(by show _=_;unfold Cs.fail;rw[ae o]);have O:¬(s.er:Int)=0:=ω;have L:=ad (aD.mk ⟨v,h,m⟩ A);clear h m o;go_in;go_wp2;go_end0;rw[z.out];exact⟨rfl,L.out,ai.refl _ _⟩
def JG(B base:Nat)(s:Cs)(l:Z0)(w:World)(d:aD w 224 B base l s.at_ s.er):Calls Tryz.prog 134 #[.pointer (some ⟨B,0,none⟩)] w λe w'=>e=.returned (.int .i64 ((s.fin l).er:Int))/\aD w' 224 B base l (s.fin l).at_ (s.fin l).er/\ai (λb=>b=B) w w':=by
 have F:=ad (J4 B base s.at_ s.er l w d);have L:=d.le;by_cases G:s.at_<l.length
 ·have A:Hid (s.fin l=s.fail 2):=by
    show _=_;unfold Cs.fin Cs.fail;by_cases h:s.er=0;·rw[af ⟨h,G⟩,af h]
    ·rw[ae (λe=>h e.1),ae h]
  rw[A.out];have M:=ad (λW (h:Fr w W)=>vW 2 B base s l W (d.fr h));have I:=ad (λ(o:Cs) W (h:aD W 224 B base l o.at_ o.er)=>ld B base o.at_ o.er l W h);obtain⟨m,D⟩:∃m,m=l.length-s.at_:=⟨_,rfl⟩;have X:(0:Int)<m:=ω;rw[<- D]at F;clear d D G L A;generalize s.fail 2=o at *;go_in;go_wp2_with fail;apply F.z;rintro e J ⟨rfl,z⟩;have O:=ad (M.out J z);go_wp2_with fail;apply O.z;rintro e Q ⟨rfl,hC,R⟩;have K:=ad (I.out o Q hC);go_wp2_with fail;apply K.z;rintro e U ⟨rfl,rfl⟩;go_wp2;go_ret;exact⟨rfl,hC,(z.chg _).trans R λ_ _ h=>h⟩
 ·have A:Hid (s.fin l=s):=(by show _=_;unfold Cs.fin;rw[ae (λe=>G e.2)]);rw[A.out];have I:=ad (λW (h:Fr w W)=>ld B base s.at_ s.er l W (d.fr h));have V:=ad d;obtain D:l.length-s.at_=0:=ω;rw[D]at F;clear d D G L A;go_in;go_wp2_with fail;apply F.z;rintro e J ⟨rfl,z⟩;have K:=ad (I.out J z);go_wp2_with fail;apply K.z;rintro e U ⟨rfl,rfl⟩;go_wp2;go_ret;exact⟨rfl,V.out.fr z,z.chg _⟩
structure eN (w:World) (B base:Nat) (l:Z0) (n a:Nat):Prop where
 h:∃v,w.heap[B]?=some (.cells #[v,N n,N a] 387 (0,0))/\Ow w base eB v l
 eq:n=8*l.length
 le:a<=n
def eN.fr{w w':World}{B base n a:Nat}{l:Z0}(h:eN w B base l n a)(d:Fr w w'):eN w' B base l n a:=by
 obtain⟨⟨v,e,m⟩,o,z⟩:=h;exact⟨⟨v,d.heap e,m.fr d⟩,o,z⟩
def XV(v:Value)(l:Z0)(w:World)(d:ah w eB v l)(A:l.length<=1000000):Calls Tryz.prog 243 #[v] w λe w'=>∃B,e=.returned (.pointer (some ⟨B,0,none⟩))/\eN w' B w.heap.size l (8*l.length) 0/\Fr w w'/\w.heap.size<=B:=by
 have D:=ad (lE v l w d A);obtain⟨F,G,rfl,_⟩:=d.shape;clear d;go_in;go_wp2_with fail;apply D.z;rintro e h ⟨u,rfl,m,o⟩;obtain⟨p,z,rfl⟩:=m.shape';go_wp2;go_ret;exact⟨h.heap.size,rfl,⟨⟨_,by rw[aB _ _ _ rfl];simp,m.fr ((Fr.refl h).alloc _)⟩,rfl,ar _⟩,o.alloc _,o.size⟩
def sp(B base n a:Nat)(l:Z0)(w:World)(h:eN w B base l n a)(z:l.length<=1000000):Calls Tryz.prog 246 #[.pointer (some ⟨B,0,none⟩)] w λe w'=>e=.returned (.int .i64 ((n:Int)-a))/\Qt w w':=by
 obtain⟨⟨v,d,m⟩,o,A⟩:=h;have D:=ag d 1 rfl;have c2:=ag d 2 rfl;have F:=ax ((n:Int)-a) ω;clear d m o;go_in;go_wp2;go_quiet (fail);go_wp2;go_ret;exact⟨rfl,Qt.drewN _ _⟩
def IS(B base n a i:Nat)(l:Z0)(w:World)(z:eN w B base l n a)(G:l.length<=1000000)(I:i<n):Calls Tryz.prog 264 #[.pointer (some ⟨B,0,none⟩),N i] w λe w'=>e=.returned (.int .u64 (dU l i:Int))/\w=w':=by
 obtain⟨⟨v,d,m⟩,A,J⟩:=z;have h:i / 8<l.length:=ω
 obtain⟨b,D,K,rfl,o⟩:=m.see.cell1 Fk.u8 rfl (i / 8) h;have L:=ag d 0 rfl;have M:w.cell? ⟨b,D+i / 8,none⟩=some (.int .u8 (l[i / 8].toNat:Int)):=o;have O:=l[i / 8].toNat_lt;have F:Hid (bits .and .u64 (IntKind.u64.wrap ((l[i / 8].toNat:Int) / 2^(7-i%8))) 1=(dU l i:Int)):=by show _=_;have d:l[i / 8].toNat / 2^(7-i%8)<=l[i / 8].toNat:=kF _ _;rw[show(l[i / 8].toNat:Int) / 2^(7-i%8)=((l[i / 8].toNat / 2^(7-i%8):Nat):Int)from by simp,Vu l i h];generalize l[i / 8].toNat / 2^(7-i%8)=q at *;rw[dFQb _ ω,yL _ ω]
 generalize l[i / 8].toNat=x at *;generalize dU l i=r at *;have Q:=ax ((i:Int) / 8) ω;have R:(i:Int).tmod 8=(i:Int)%8:=zp ω;have U:=ax ((i:Int)%8) ω;have V:=ax (7-(i:Int)%8) ω;have X:(i:Int) / 8<l.length:=ω
 have Y:(0:Int)<=(i:Int) / 8:=ω
 have Z:((i:Int) / 8).toNat=i / 8:=ω
 have i4:(0:Int)<=7-(i:Int)%8:=ω
 have i5:(7-(i:Int)%8).toNat=7-i%8:=ω
 clear o m d A h;go_in;go_wp2;go_ret;exact⟨by rw[F.out];rfl,rfl⟩
def eN.drewN{w:World}{B base n a:Nat}{l:Z0}(h:eN w B base l n a)(m:Nat):eN (w.drewN m) B base l n a:=h.fr ((Fr.refl w).drewN m)
def Ps(a b:Nat)(d:a<18446744073709551616)(e:b<18446744073709551616):bits .or .u64 (a:Int) (b:Int)=((a ||| b:Nat):Int):=by
 have h:a ||| b<2^64:=zf ω ω;show IntKind.u64.wrap ((BitVec.ofInt 64 (a:Int) ||| BitVec.ofInt 64 (b:Int)).toNat:Int)=_;rw[BitVec.toNat_or,fV 64 a ω,fV 64 b ω];exact dFQb _ ω
def yH(B base n a i k:Nat)(l:Z0)(w:World)(d:eN w B base l n a)(J:l.length<=1000000)(Z:k<=64)(hi:i<=n):Calls Tryz.prog 265 #[.pointer (some ⟨B,0,none⟩),N i,N k] w λe w'=>e=.returned (.int .u64 (Fk.aI l i k:Int))/\Qt w w':=by
 have K:=ad (λW j (h:Qt w W) (z:j<n)=>IS B base n a j l W (d.fr h.fr) J z);have L:w.cell? ⟨B,1,none⟩=some (N n):=by obtain⟨⟨v,A,_⟩,_⟩:=d;rw[aK A];rfl
 have ab:n<=8000000:=by have:=d.eq;omega
 have M:Hid (∀j,n<=j->dU l j=0):=λj z=>Vt l j (by have:=d.eq;omega);have O:=ad (λj=>yJ l (i+j));have Q:=ad (λj=>pS l i j);clear d;go_in;go_wp2;go_loopw [7,8] (λR D wr=>∃j x:Nat,j<=k/\D=.int .i64 ((i:Int)+j)/\R=.int .u64 (x:Int)/\Hid (x=Fk.aI l i j)/\Qt w wr) (λ_ D _=>i+k-(intOf D).toNat);case atStart=>exact⟨0,0,ar _,σ,rfl,rfl,Qt.refl _⟩
 case round=>
  obtain⟨j,x,z,rfl,rfl,o,m⟩:=hrel;have d1:=m.fr.cell L;have aj:=ax ((i:Int)+k) ω;by_cases ak:j<k
  ·have I:x<9223372036854775808:=(by have A:=Q.out j;have h2:(2:Nat)^j<=2^63:=fp ω ω;rw[<- o.out]at A;omega);have U:=ad I;have av:IntKind.u64.wrap ((x:Int)*2)=((2*x:Nat):Int):=(by rw[dFQb _ ω];omega);have a0:=ax ((i:Int)+j+1) ω;have V:(i:Int)+j<(i:Int)+k:=ω;clear I;by_cases X:i+j<n
   ·have a1:=O.out j;have F:=ad (K.out wr (i+j) m X);rw[show N (i+j)=.int .i64 ((i:Int)+j)from by simp[N]]at F;have G:Hid (Fk.aI l i (j+1)=2*x+dU l (i+j)):=ad (by rw[o.out];rfl);have Y:(i:Int)+j<n:=ω;have HOr:Hid (bits .or .u64 (2*(x:Int)) ((dU l (i+j):Nat):Int)=((2*x+dU l (i+j):Nat):Int)):=(by show _=_;have:=U.out;rw[show 2*(x:Int)=((2*x:Nat):Int)from by simp,Ps _ _ ω ω,Py _ _ ω]);generalize dU l (i+j)=b at *;go_wp2_with fail;apply F.z;rintro e w1 ⟨rfl,rfl⟩;clear F;go_wp2;go_roundw;case rel=>exact⟨j+1,2*x+b,ω,γ,by rw[<- HOr.out],by show _=_;rw[G.out],m⟩
    case measure=>exact μ
   ·have G:Hid (2*x=Fk.aI l i (j+1)):=(by show _=_;rw[o.out];show _=2*Fk.aI l i j+dU l (i+j);rw[M.out _ ω];rfl);have Y:¬(i:Int)+j<n:=ω;go_wp2;go_roundw;case rel=>exact⟨j+1,2*x,ω,γ,rfl,G.out,m⟩
    case measure=>exact μ
  ·obtain rfl:j=k:=ω;have V:¬(i:Int)+j<(i:Int)+j:=ω;go_wp2;go_ret;exact⟨by rw[o.out];rfl,m⟩
def JD(B base n a k:Nat)(l:Z0)(w:World)(d:eN w B base l n a)(G:l.length<=1000000)(R:k<=64):Calls Tryz.prog 247 #[.pointer (some ⟨B,0,none⟩),N k] w λe w'=>e=.returned (.tuple #[.int .u64 ((if n<a+k then 0 else Fk.aI l a k:Nat):Int),.int .i64 ((if n<a+k then 1 else 0:Nat):Int)])/\eN w' B base l n (if n<a+k then a else a+k)/\ai (λb=>b=B) w w':=by
 have I:=ad (sp B base n a l w d G);have ap:n<=8000000:=by have:=d.eq;omega
 have k1:¬(k:Int)<0:=ω
 have k2:¬(64:Int)<k:=ω
 by_cases h:n<a+k;·rw[af h,af h,af h];have U:=ad d;have k3:(n:Int)-a<k:=ω;clear d h;go_in;go_wp2_with fail;apply I.z;rintro e z ⟨rfl,o⟩;go_wp2;go_ret2;exact⟨rfl,U.out.fr o.fr,o.fr.chg _⟩
 ·rw[ae h,ae h,ae h];have k3:¬(n:Int)-a<k:=ω;have J:=ad (λW (V:Fr w W)=>yH B base n a a k l W (d.fr V) G R d.le);have hw:=ax ((a:Int)+k) ω;obtain⟨⟨v,A,K⟩,L,a2⟩:=d;have X:=ad L;have Y:Hid (a+k<=n):=(by show _<=_;omega);have Z:=K.ne_cells A δ;clear L h;generalize Fk.aI l a k=x at *;go_in;go_wp2_with fail;apply I.z;rintro e z ⟨rfl,o⟩;have aa:=o.fr.heap A;have c2:=ag aa 2 rfl;have M:=ad (λm=>J.out (z.drewN m) (o.fr.drewN m));clear J;go_wp2;go_quiet ((go_at_call 265;exact o9Qb (M.out _)));have D:Fr w (z.drewN nq):=o.fr.drewN nq;generalize z.drewN nq=O at *;have F:=D.heap A;have d2:=ag F 2 rfl;have z2:=a8 F 2;have Q:=a9 O ⟨B,2,none⟩ (.int .i64 ((a:Int)+k));have ab:=aJ F 2 (.int .i64 ((a:Int)+k));have ac:=(K.fr D).chg Q (λi hi e=>Z (by rw[hi,show i=B from e]));have ak:ai (λb=>b=B) w (O.setCell ⟨B,2,none⟩ (.int .i64 ((a:Int)+k))):=(D.chg _).trans Q λ_ _ h=>h;clear M c2;go_wp2;go_ret2;exact⟨rfl,⟨⟨v,ab,ac⟩,X.out,Y.out⟩,ak⟩
structure eC (w:World) (B base:Nat) (v:Value) (l:Z0) (n a:Nat):Prop where
 h:w.heap[B]?=some (.cells #[v,N n,N a] 387 (0,0))
 o:Ow w base eB v l
 eq:n=8*l.length
 le:a<=n
def eC.f{w:World}{B base n a:Nat}{v:Value}{l:Z0}(h:eC w B base v l n a):eN w B base l n a:=⟨⟨v,h.h,h.o⟩,h.eq,h.le⟩
def eC.fr{w w':World}{B base n a:Nat}{v:Value}{l:Z0}(h:eC w B base v l n a)(d:Fr w w'):eC w' B base v l n a:=⟨d.heap h.h,h.o.fr d,h.eq,h.le⟩
def eC.chg{G:Nat->Prop}{w w':World}{B base n a:Nat}{v:Value}{l:Z0}(h:eC w B base v l n a)(d:ai G w w')(e:¬G B)(m:∀k,v.ownBlock=some k->¬G k):eC w' B base v l n a:=⟨d.heap h.h e,h.o.chg d m,h.eq,h.le⟩
def Xb(B base n a k:Nat)(l:Z0)(w:World)(d:eN w B base l n a)(A:l.length<=1000000)(I:k<=64):Calls Tryz.prog 271 #[.pointer (some ⟨B,0,none⟩),N k] w λe w'=>e=.returned (.tuple #[.int .u64 (Fk.aI l a k:Int),N (min k (n-a))])/\Qt w w':=by
 have D:=ad (λm=>sp B base n a l (w.drewN m) (d.drewN m) A);have F:=ad (λm=>yH B base n a a k l (w.drewN m) (d.drewN m) A I d.le);have M:n<=8000000:=by have:=d.eq;omega
 have O:=d.le;have Q:¬(k:Int)<0:=ω
 have R:¬(64:Int)<k:=ω
 obtain⟨⟨v,G,J⟩,K,_⟩:=d;have c2:=ag G 2 rfl;have o:Hid (N (min k (n-a))=if(k:Int)<=(n:Int)-a then N k else .int .i64 ((n:Int)-a)):=by
  show _=_;by_cases h:k<=n-a;·rw[af ω,fI h]
  ·rw[ae ω,rqQb ω];simp[N];omega
 clear G J K;generalize N (min k (n-a))=MV,Fk.aI l a k=x at *;by_cases h:(k:Int)<=(n:Int)-a;·have z:Hid (MV=N k):=ad (by rw[o.out,af h]);have L:¬((n:Int)-a<k):=ω;clear o;go_in;go_wp2;go_quiet ((first | (go_at_call 265;exact o9Qb (F.out _)) | (go_at_call 246;exact o9Qb (D.out _))));go_wp2;go_ret2;rw[z.out];exact⟨rfl,Qt.drewN _ _⟩
 ·have z:Hid (MV=.int .i64 ((n:Int)-a)):=ad (by rw[o.out,ae h]);have L:(n:Int)-a<k:=ω;have U:(n:Int)-a<=k:=ω;clear o;go_in;go_wp2;go_quiet ((first | (go_at_call 265;exact o9Qb (F.out _)) | (go_at_call 246;exact o9Qb (D.out _))));go_wp2;go_ret2;rw[z.out];exact⟨rfl,Qt.drewN _ _⟩
def Wp(B base n a k:Nat)(v:Value)(l:Z0)(w:World)(d:eC w B base v l n a)(I:l.length<=1000000)(V:a+k<=n):Calls Tryz.prog 273 #[.pointer (some ⟨B,0,none⟩),N k] w λe w'=>e=.returned (.int .i64 0)/\eC w' B base v l n (a+k)/\ai (λb=>b=B) w w':=by
 have J:=ad (sp B base n a l w d.f I);have X:n<=8000000:=by have:=d.eq;omega
 have Y:¬(k:Int)<0:=ω
 have k3:¬(n:Int)-a<k:=ω
 have Z:=ax ((a:Int)+k) ω;obtain⟨z,A,D,aa⟩:=d;have K:=ad D;have L:Hid (a+k<=n):=by show _<=_;omega
 have M:=A.ne_cells z δ;clear D;go_in;go_wp2_with fail;apply J.z;rintro e F ⟨rfl,m⟩;have o:=m.fr.heap z;have c2:=ag o 2 rfl;have z2:=a8 o 2;have G:=a9 F ⟨B,2,none⟩ (.int .i64 ((a:Int)+k));have O:=aJ o 2 (.int .i64 ((a:Int)+k));have Q:=(A.fr m.fr).chg G (λi R e=>M (by rw[R,show i=B from e]));have U:ai (λb=>b=B) w (F.setCell ⟨B,2,none⟩ (.int .i64 ((a:Int)+k))):=(m.fr.chg _).trans G λ_ _ h=>h;go_wp2;go_ret;exact⟨rfl,⟨O,Q,K.out,L.out⟩,U⟩
def Xc(B base n a:Nat)(l:Z0)(w:World)(o:eN w B base l n a)(M:l.length<=1000000):Calls Tryz.prog 250 #[.pointer (some ⟨B,0,none⟩)] w λe w'=>e=.returned (.int .i64 (if nR l a=true then 0 else 2))/\Qt w w':=by
 have A:=ad (sp B base n a l w o M);have O:=o.eq;have F:=o.le;obtain⟨m,Q⟩:∃m,m=n-a:=⟨_,rfl⟩;have G:(n:Int)-a=(m:Int):=ω
 rw[G]at A;by_cases U:8<=m;·have z:Hid ((if nR l a=true then(0:Int)else 2)=2):=(by show _=_;unfold nR;rw[br ω];rfl);have Y:decide ((8:Int)<=m)=true:=bp ω;have c2:w.cell? ⟨B,2,none⟩=some (N a):=(by obtain⟨⟨v,I,_⟩,_⟩:=o;rw[aK I];rfl);generalize (if nR l a=true then(0:Int)else 2)=R at *;clear o O F Q G U;go_in;go_wp2_with fail;apply A.z;rintro e D ⟨rfl,d⟩;have V:=d.fr.cell c2;go_wp2;go_quiet (fail);go_wp2;go_ret;rw[z.out];exact⟨rfl,d.trans (Qt.drewN _ _)⟩
 ·have X:=ad (λW (h:Fr w W)=>yH B base n a a m l W (o.fr h) M ω F);have z:Hid ((if nR l a=true then(0:Int)else 2)=if Fk.aI l a m=0 then 0 else 2):=(by show _=_;unfold nR;rw[bp (show 8*l.length<a+8 by omega),show 8*l.length-a=m by omega];simp);have Y:decide ((8:Int)<=m)=false:=br ω;have c2:w.cell? ⟨B,2,none⟩=some (N a):=(by obtain⟨⟨v,I,_⟩,_⟩:=o;rw[aK I];rfl);generalize Fk.aI l a m=x,(if nR l a=true then(0:Int)else 2)=R at *;clear o O F Q G U;by_cases J:x=0;·have K:Hid (R=0):=ad (by rw[z.out,af J]);subst J;have Z:(((0:Nat):Int) != 0)=false:=rfl;clear z;go_in;go_wp2_with fail;apply A.z;rintro e D ⟨rfl,d⟩;have V:=d.fr.cell c2;have L:=ad (λm=>X.out (D.drewN m) (d.fr.drewN m));go_wp2;go_quiet ((go_at_call 265;exact o9Qb (L.out _)));go_wp2;go_ret;rw[K.out];exact⟨rfl,d.trans (Qt.drewN _ _)⟩
  ·have K:Hid (R=2):=ad (by rw[z.out,ae J]);have Z:((x:Int) != 0)=true:=bne_iff_ne.2 ω;clear z;go_in;go_wp2_with fail;apply A.z;rintro e D ⟨rfl,d⟩;have V:=d.fr.cell c2;have L:=ad (λm=>X.out (D.drewN m) (d.fr.drewN m));go_wp2;go_quiet ((go_at_call 265;exact o9Qb (L.out _)));go_wp2;go_ret;rw[K.out];exact⟨rfl,d.trans (Qt.drewN _ _)⟩
def Jy(v:Value)(l:Z0)(w:World)(z:ah w eB v l)(hn:l.length<=1000000):Calls Tryz.prog 27 #[v] w λe w'=>∃u,e=.returned (.tuple #[u,.int .i64 (cK l:Int)])/\Ow w' w.heap.size eB u (bE l)/\Fr w w':=by
 obtain⟨a0,a4,rfl,a5,Y,_⟩:=z.shape;unfold maxLen at Y;by_cases F:l.length<4;·have G:bz l=false:=(by unfold bz;rw[br ω,Bool.false_and]);have d:Hid (cK l=1):=(by show _=_;unfold cK;rw[G];simp[F]);have m:Hid (bE l=[]):=(by show _=_;unfold bE;rw[G];simp);rw[m.out,d.out];have a6:(l.length:Int)<4:=ω;clear G d m;go_in;go_wp2;go_ret2;exact⟨_,rfl,Ow.nil,Fr.refl w⟩
 ·obtain⟨n,I⟩:∃n,n=l.length-4:=⟨_,rfl⟩;obtain⟨a7,J⟩:=jj eB 30 Tryz.underlying30 z n ω;have O:(l.take n).length=n:=(by rw[aA];omega);have Q:bz l=decide (au (l.take n)=l):=(by unfold bz;rw[bp ω,qA,I]);have Z:=ad (λW (h:Fr w W)=>Jv _ (l.take n) W (J.fr h) ω);have U:=ad (λW v' (h:Fr w W) (h2:ah W eB v' (au (l.take n)))=>sk v' _ (au (l.take n)) l W h2 (z.fr h));rw[<- Q]at U;have HT:=ad (λW (h:Fr w W)=>J.fr h);have d:Hid (cK l=if bz l then 0 else 5):=(by show _=_;unfold cK;simp[F]);have m:Hid (bE l=if bz l then l.take n else []):=ad (by rw[I];rfl);have hw:IntKind.i64.wrap ((l.length:Int)-4)=(n:Int):=(by rw[ax _ ω];omega);have ba:¬(l.length:Int)<4:=ω;have ac:=ad O;have bb:n<=1000000:=ω;rw[d.out,m.out];clear d m Q z J O I F;generalize l.take n=q,au (l.take n)=B,bz l=R at *;go_in;go_wp2_with fail;refine(Z.out _ (Fr.refl w)).mono ?_;rintro e o ⟨v1,rfl,K,A⟩;have ak:=ad (U.out o v1 A K.see);obtain⟨p1,z1,rfl⟩:=K.shape';clear K;go_wp2_with fail;refine ak.out.mono ?_;rintro e w2 ⟨rfl,rfl⟩;cases R;·go_wp2;go_ret2;exact⟨_,rfl,Ow.nil,A⟩
  ·have L:Ow (o.alloc (.cells #[] 5)) w.heap.size eB (.slice (some ⟨o.heap.size,0,none⟩) 0 0) []:=nu eB o #[] [] 0 rfl (ar _) A.size;have D:Fr w (o.alloc (.cells #[] 5)):=A.alloc _;have V:=HT.out _ D;go_wp2_with (at_builtin;refine iJ eB rfl (.tmp 16) (.tmp 21) 30 rfl Tryz.underlying30 w.heap.size rfl L _ _ rfl V ?c1 D.size ?_);case c1=>rw[ac.out];simp;omega
   intro v5 w5 M;have a1:=M.below L D (al _) D.size;have X:Ow w5 w.heap.size eB v5 q:=(by simpa using M.own);obtain⟨p5,z5,rfl⟩:=X.shape';clear M L V;go_wp2;go_ret2;exact⟨_,rfl,X,a1⟩
def WQ(v:Value)(l:Z0)(w:World)(J:ah w eB v l):Calls Tryz.prog 28 #[v] w λe w'=>e=.returned (.tuple #[N (eE l).1,.int .i64 ((eE l).2:Int)])/\w=w':=by
 obtain⟨a0,bc,rfl,bd,ap,_⟩:=J.shape;unfold maxLen at ap;by_cases K:l.length<=4;·have bf:(l.length:Int)<5:=ω;have d:=ad (FE l K);generalize eE l=mv at *;go_in;go_wp2;go_ret2;exact⟨by rw[d.out];rfl,rfl⟩
 ·obtain⟨b,A,cp,Y,c0⟩:=J.cell1 Fk.u8 rfl 0 ω;simp only[ir]at Y;obtain⟨rfl,_,rfl⟩:=Y;have o:∀i (h:i<l.length),w.cell? ⟨b,A+i,none⟩=some (.int .u8 (l[i].toNat:Int)):=λi h=>(by obtain⟨b',bm,bn,Z,c'⟩:=J.cell1 Fk.u8 rfl i h;simp only[ir,mU,Addr.mk.injEq,mr]at Z;obtain⟨⟨rfl,rfl⟩,_,_⟩:=Z;exact c');have O:=o 0 ω;have d1:=o 1 ω;have d2:=o 2 ω;have d3:=o 3 ω;have d4:=o 4 ω;rw[dq]at O;have ht:l.take 4=[l[0]'ω,l[1]'ω,l[2]'ω,l[3]'ω]:=by
   apply gT;·simp;omega
   ·intro i bu a3;rw[qz];have:i<4:=by simpa using a3
    match i,this with
    | 0,_=>rfl
    | 1,_=>rfl
    | 2,_=>rfl
    | 3,_=>rfl
  have Q:=ad (λm=>FG l K m);have L:=ad (λm=>FD l K m);have M:=ad (λm=>FF l K m);rw[ht]at Q L M;rw[cg l 4 0 ω]at L M;have i0:¬(l.length:Int)<5:=ω;have i1:(0:Int)<l.length:=ω;have i2:(1:Int)<l.length:=ω;have i3:(2:Int)<l.length:=ω;have i4:(3:Int)<l.length:=ω;have i5:(4:Int)<l.length:=ω;clear o c0 J ht;generalize l[0]'ω=D at *;generalize l[1]'ω=F at *;generalize l[2]'ω=G at *;generalize l[3]'ω=I at *;generalize l[4]'ω=z at *;generalize eE l=mv at *;by_cases R:D=70/\F=73/\G=82/\I=75
  ·obtain⟨rfl,rfl,rfl,rfl⟩:=R;have e0:w.cell? ⟨b,A,none⟩=some (.int .u8 70):=O;have e1:w.cell? ⟨b,A+1,none⟩=some (.int .u8 73):=d1;have e2:w.cell? ⟨b,A+2,none⟩=some (.int .u8 82):=d2;have e3:w.cell? ⟨b,A+3,none⟩=some (.int .u8 75):=d3;clear O d1 d2 d3;by_cases hx:1<=z.toNat/\z.toNat<=3;·have d:=ad (L.out rfl hx);have a4:¬(z.toNat:Int)<1:=ω;have a5:¬(3:Int)<z.toNat:=ω;generalize z.toNat=x at *;go_in;go_wp2;go_ret2;exact⟨by rw[d.out];rfl,rfl⟩
   ·have d:=ad (M.out rfl hx);generalize z.toNat=x at *;by_cases a4:(x:Int)<1;·go_in;go_wp2;go_ret2;exact⟨by rw[d.out];rfl,rfl⟩
    ·have a5:(3:Int)<x:=ω;go_in;go_wp2;go_ret2;exact⟨by rw[d.out];rfl,rfl⟩
  ·have d:=ad (Q.out (λe=>R (by simpa using e)));clear Q L M;by_cases U:D=70
   ·subst U;by_cases V:F=73
    ·subst V;by_cases m:G=82
     ·subst m;by_cases X:I=75;·subst X;exact absurd ⟨rfl,rfl,rfl,rfl⟩ R
      ·have a6:¬(I.toNat:Int)=75:=λe=>X (eP.1 (by show I.toNat=75;omega));have b8:((I.toNat:Int) != 75)=true:=(by simpa using a6);clear X;go_in;go_wp2;go_ret2;exact⟨by rw[d.out];rfl,rfl⟩
     ·have a7:¬(G.toNat:Int)=82:=λe=>m (eP.1 (by show G.toNat=82;omega));have b9:((G.toNat:Int) != 82)=true:=(by simpa using a7);clear m;go_in;go_wp2;go_ret2;exact⟨by rw[d.out];rfl,rfl⟩
    ·have aC:¬(F.toNat:Int)=73:=λe=>V (eP.1 (by show F.toNat=73;omega));have bA:((F.toNat:Int) != 73)=true:=(by simpa using aC);clear V;go_in;go_wp2;go_ret2;exact⟨by rw[d.out];rfl,rfl⟩
   ·have ba:¬(D.toNat:Int)=70:=λe=>U (eP.1 (by show D.toNat=70;omega));have bB:((D.toNat:Int) != 70)=true:=(by simpa using ba);clear U;go_in;go_wp2;go_ret2;exact⟨by rw[d.out];rfl,rfl⟩
def WT(v:Value)(l:Z0)(w:World)(m:ah w eB v l)(U:l.length<=1000000):Calls Tryz.prog 16 #[v] w λe w'=>e=.returned (.bool (go l))/\Fr w w':=by
 have V:=ad (Jy v l w m U);have J:=ad (λW (h:Fr w W)=>WQ v l W (m.fr h));have o:Hid (go l=(bz l && decide (eE l=(3,0)))):=rfl;have K:=ad (Ha l);obtain⟨a0,ab,rfl,_⟩:=m.shape;clear m;generalize go l=R at *;generalize X:eE l=Y at *;obtain⟨D,L⟩:=Y;clear X;generalize bE l=q,cK l=ec,bz l=M at *;simp only at J;go_in;go_wp2_with fail;apply V.z;rintro e w1 ⟨u,rfl,O,Q⟩;obtain⟨p1,z1,rfl⟩:=O.shape';clear O;go_wp2_with fail;refine(J.out _ Q).mono ?_;rintro e w2 ⟨rfl,rfl⟩;have z:=Q;by_cases A:ec=0
 ·have F:=K.out.1 A;subst F A;by_cases G:L=0
  ·subst G;by_cases I:D=3;·subst I;have d:Hid (R=true):=ad (by rw[o.out];rfl);go_wp2;go_ret;exact⟨by rw[d.out];rfl,z⟩
   ·have Z:¬(D:Int)=3:=ω;have d:Hid (R=false):=(by show _=_;rw[o.out,qA];exact br (λe=>I (Prod.mk.inj e).1));have hb:((D:Int) == 3)=false:=(by simpa using Z);clear I;go_wp2;go_ret;exact⟨by rw[d.out];rfl,z⟩
  ·have av:¬(L:Int)=0:=ω;have d:Hid (R=false):=(by show _=_;rw[o.out,qA];exact br (λe=>G (Prod.mk.inj e).2));clear G;go_wp2;go_ret;exact⟨by rw[d.out];rfl,z⟩
 ·have F:M=false:=(by cases M;rfl;exact absurd (K.out.2 rfl) A);have a1:¬(ec:Int)=0:=ω;have d:Hid (R=false):=ad (by rw[o.out,F];rfl);clear A;go_wp2;go_ret;exact⟨by rw[d.out];rfl,z⟩
def Jk(v:Value)(l:Z0)(w:World)(d:ah w eB v l)(I:cP w):Calls Tryz.prog 14 #[v] w λe w'=>e=.returned (.bool (decide (42<=l.length) && gm l))/\Fr w w':=by
 by_cases A:l.length<42;·have h:=ad (Iv v l w d A);have m:Hid ((decide (42<=l.length) && gm l)=false):=ad (by rw[br ω,Bool.false_and]);obtain⟨L,M,rfl,_⟩:=d.shape;rw[m.out];clear d A;go_in;go_wp2_with fail;apply h.z;rintro e O ⟨rfl,o⟩;go_wp2;go_ret;exact⟨rfl,o⟩
 ·have h:=ad (Iw v l w d ω I);have m:Hid ((decide (42<=l.length) && gm l)=gm l):=ad (by rw[bp ω,qA]);obtain⟨L,M,rfl,_⟩:=d.shape;rw[m.out];clear m d I A;generalize gm l=R,an l=H at *;obtain⟨J,D⟩:∃q:Nat,q=(if R then 0 else 5):=⟨_,rfl⟩;rw[<- D]at h;have K:=ad D;clear D;go_in;go_wp2_with fail;apply h.z;rintro e O ⟨u,rfl,Q,U,o⟩
  cases R with
  | true=>have F:J=0:=K.out;obtain⟨p,z,G,_⟩:=(Q rfl).shape;subst F G;go_wp2;go_ret;exact⟨rfl,o⟩
  | false=>have F:J=5:=K.out;have G:=U rfl;subst F G;go_wp2;go_ret;exact⟨rfl,o⟩
def Yb(b:Z0):Nat × Nat:=
 if(eE b).1=1\/(eE b).1=2 then((eE b).1,0)
 else if(decide (42<=b.length) && gm b)=true then(3,0)
 else if(eE b).1=3 then(0,5)
 else(0,(eE b).2)
def Va(B base n a:Nat)(l:Z0)(w:World)(d:eN w B base l n a)(hl:l.length<=1000000):Calls Tryz.prog 245 #[.pointer (some ⟨B,0,none⟩)] w λe w'=>e=.returned (.tuple #[N (dZ l a).1,.int .i64 ((dZ l a).2.2:Int)])/\eN w' B base l n (dZ l a).2.1/\ai (λb=>b=B) w w':=by
 have L:=ad (λW j (h:Qt w W) (hj:j<n)=>IS B base n a j l W (d.fr h.fr) hl hj);have M:=ad d;have ba:n<=8000000:=by have:=d.eq;omega
 have O:Hid (dZ l a=match iX l (n-a) a with | some i=>(i-a,i+1,0) | none=>(0,a,1)):=by show _=_;unfold dZ;rw[d.eq];cases iX l (8*l.length-a) a <;> rfl
 have HS:Hid (∀i,i<n->iX l (n-i) i=if dU l i=1 then some i else iX l (n-(i+1)) (i+1)):=λi h=>by have h2:=d.eq;subst h2;exact KV l i h
 have HE:Hid (iX l (n-n) n=none):=by show _=_;rw[fY];rfl
 obtain⟨⟨v,F,Q⟩,hn,av⟩:=d;have c1:=ag F 1 rfl;have c2:=ag F 2 rfl;have a1:=Q.ne_cells F δ;clear hn;generalize dZ l a=U at *;go_in;go_wp2;go_loopw [4] (λI wr=>∃i:Nat,a<=i/\i<=n/\I=N i/\Hid (iX l (n-a) a=iX l (n-i) i)/\Qt w wr) (λI _=>n-(intOf I).toNat);case atStart=>exact⟨a,al _,av,rfl,rfl,Qt.refl _⟩
 case round=>
  obtain⟨i,bb,bc,rfl,m,o⟩:=hrel;have R:=o.fr.cell c1;by_cases V:i<n
  ·have z:=ad (L.out wr i o V);have G:=ad (HS.out i V);have X:=yJ l i;have j1:(i:Int)<n:=ω;by_cases A:dU l i=1;·have J:Hid (U=(i-a,i+1,0)):=ad (by rw[O.out,m.out,G.out,af A]);rw[A]at z;clear G m A X;go_wp2_with fail;apply z.z;rintro e w1 ⟨rfl,rfl⟩;have D:=o;have K:=D.fr.heap F;have d2:=ag K 2 rfl;have z2:=a8 K 2;have Y:=a9 wr ⟨B,2,none⟩ (.int .i64 ((i:Int)+1));have a4:=aJ K 2 (.int .i64 ((i:Int)+1));have a5:=(Q.fr D.fr).chg Y (λi hi e=>a1 (by rw[hi,show i=B from e]));have a7:=(D.fr.chg _).trans Y λ_ _ h=>h;have bk:=ax ((i:Int)-a) ω;clear z L R;go_wp2;go_ret2;rw[J.out];exact⟨by simp[N];omega,⟨⟨v,a4,a5⟩,M.out.eq,by show i+1<=n;omega⟩,a7⟩
   ·have Z:dU l i=0:=ω;have aC:Hid (iX l (n-a) a=iX l (n-(i+1)) (i+1)):=ad (by rw[m.out,G.out,ae A]);rw[Z]at z;clear G m A X Z;go_wp2_with fail;apply z.z;rintro e w1 ⟨rfl,rfl⟩;have D:=o;clear z R;go_wp2;go_roundw;case rel=>exact⟨i+1,ω,ω,γ,aC.out,D⟩
    case measure=>exact μ
  ·obtain rfl:i=n:=ω;have J:Hid (U=(0,a,1)):=ad (by rw[O.out,m.out,HE.out]);have j1:¬((i:Int)<i):=ω;clear m;go_wp2;go_ret2;rw[J.out];exact⟨rfl,M.out.fr o.fr,o.fr.chg _⟩
