/- Lemmas. -/
import Derived.Test.YtmcaneofjlhhmaaGreatDoorM08
import Derived.Test.YtmcaneofjlhhmaaGreatDoorM29
set_option linter.all false
set_option maxHeartbeats 8000000
set_option maxRecDepth 100000
namespace Go.Fk
abbrev kg:=@List.mem_of_mem_take
abbrev ikQb:=@Nat.succ_mul
abbrev mz:=@beq_eq_false_iff_ne
abbrev kQQc:=@Int.natCast_mul
abbrev mw:=@of_decide_eq_true
abbrev qH:=@Nat.zero_mul
abbrev uU:=@Nat.le_add_right
abbrev zw:=@List.drop_replicate
end Go.Fk
namespace Go.Proofs
open RowKit Fk Tryz
def fm(r:aQ):Nat:=16+r.source.length+r.text.length
def eX(r:aQ):Bool:=decide (4000<r.source.length) || decide (4000<r.text.length)
def gZ(l:List aQ):Bool:=decide (l.length<=20000) && (l.all λr=>!eX r) && decide (cZ fm l<=1048576)
abbrev pR(r:aQ):Value:=.agg #[.int .u64 r.time.toNat,Fk.u8 r.level,S r.source,S r.text]
def KH(r:aQ)(w:World):Calls prog 71 #[pR r] w λe w'=>e=.returned (.bool (eX r))/\Fr w w':=by
 have h:Hid (eX r=(decide (4000<r.source.length) || decide (4000<r.text.length))):=rfl;by_cases m:4000<r.source.length;·have p:(4000:Int)<r.source.length:=ω;have d:Hid (eX r=true):=ad (by rw[h.out,bz m];rfl);go_in;go_wp2;go_ret;exact⟨by rw[d.out];rfl,(Fr.refl w).alloc _⟩
 ·have p:¬(4000:Int)<r.source.length:=ω;by_cases o:4000<r.text.length;·have q:(4000:Int)<r.text.length:=ω;have d:Hid (eX r=true):=(by show _=_;rw[h.out,bz o];simp);go_in;go_wp2;go_ret;exact⟨by rw[d.out];rfl,(Fr.refl w).alloc _⟩
  ·have q:¬(4000:Int)<r.text.length:=ω;have d:Hid (eX r=false):=ad (by rw[h.out,bw m,bw o];rfl);go_in;go_wp2;go_ret;exact⟨by rw[d.out];rfl,(Fr.refl w).alloc _⟩
def Qh(v:Value)(l:List aQ)(w:World)(o:ao w eR v l)(L:l.length<=20000)(p:∀r∈l,fm r<=8016):Calls prog 72 #[v] w λe w'=>e=.returned (N (cZ fm l))/\Fr w w':=by
 obtain⟨a,M,q,O,Q,R⟩:=o.shape;have A:=ad (λk=>zM fm 8016 (l.take k) (λx D=>p x (kg D)));have F:=ad p;go_in;go_wp2;go_loopw [3,8] (λG d wr=>∃k:Nat,k<=l.length/\d=N k/\G=N (cZ fm (l.take k))/\Fr w wr) (λ_ d _=>l.length-(intOf d).toNat);·exact⟨0,ax _,rfl,rfl,Fr.refl w⟩
 ·
  obtain⟨k,I,rfl,rfl,h⟩:=hrel;have z:=A.out k;rw[aP,kf I]at z;have U:=ar z (bo ω (au _));by_cases m:k<l.length;·obtain⟨b,V,W,q,X,Y,c2,Z⟩:=mM (o.fr h) k m;have J:=ad (vx fm l k m);have K:=F.out _ (co m);cases q;unfold fm at K;go_wp2_with fail;exact⟨⟨k+1,ω,γ,by rw[J.out];unfold fm;go_num,h.alloc _⟩,by simp[intOf];omega⟩
  ·obtain rfl:k=l.length:=ω;rw[dP]at *;go_wp2;go_ret;exact⟨rfl,h⟩
def Ll(v:Value)(l:List aQ)(w:World)(F:ao w eR v l):Calls prog 134 #[v,.func (.func 71) #[] #[]] w λe w'=>∃x:Int,e=.returned (.int .i64 x)/\Hid (decide (0<=x)=l.any eX)/\Fr w w':=by
 obtain⟨a,O,G,Q,J,R⟩:=F.shape;unfold maxLen at J;have K:=ad KH;go_in;go_wp2;go_loopw [8] (λo wr=>∃k:Nat,k<=l.length/\o=N k/\Hid ((l.take k).any eX=false)/\Fr w wr) (λo _=>l.length-(intOf o).toNat);·exact⟨0,ax _,rfl,rfl,Fr.refl w⟩
 ·
  obtain⟨k,U,rfl,p,d⟩:=hrel;by_cases q:k<l.length
  ·obtain⟨b,V,W,G,X,Y,c2,Z⟩:=mM (F.fr d) k q;have z:Hid ((l.take (k+1)).any eX=eX l[k]):=(by show _=_;rw[ea q,List.any_append,p.out];simp);have I:Hid (eX l[k]=true->l.any eX=true):=λh=>List.any_eq_true.2 ⟨_,co q,h⟩;generalize l[k]=r at *;cases G;have m:=ad (K.out r);cases A:eX r;·rw[A]at m z I;go_wp2_with fail;refine(m.out _).mono ?_;rintro e L ⟨rfl,D⟩;go_wp2_with fail;exact⟨⟨k+1,ω,γ,z.out,d.trans D⟩,by simp[intOf];omega⟩
   ·have M:=ad (I.out A);rw[A]at m z;go_wp2_with fail;refine(m.out _).mono ?_;rintro e L ⟨rfl,D⟩;go_wp2;go_ret;exact⟨_,rfl,by show _=_;rw[M.out];simp,d.trans D⟩
  ·obtain rfl:k=l.length:=ω;rw[dP]at p;go_wp2;go_ret;exact⟨_,rfl,by show _=_;rw[p.out];rfl,d⟩
def L8(v:Value)(l:List aQ)(w:World)(d:ao w eR v l):Calls prog 70 #[v,.func (.func 71) #[] #[]] w λe w'=>e=.returned (.bool (l.any eX))/\Fr w w':=by
 obtain⟨a,q,h,z,A,D⟩:=d.shape;have m:=ad (Ll v l w d);subst h;go_in;go_wp2_with fail;refine m.out.mono ?_;rintro e F ⟨x,rfl,o,p⟩;go_wp2;go_ret;exact⟨by rw[<- o.out];rfl,p⟩
def Fg(v:Value)(l:List aQ)(w:World)(p:ao w eR v l):Calls prog 25 #[v] w λe w'=>e=.returned (.int .i64 (if gZ l then 0 else 6))/\Fr w w':=by
 obtain⟨a,X,K,Y,Z,aa⟩:=p.shape;have q:=ad (λW h=>L8 v l W h);have L:=ad (λW h=>Qh v l W h);have d:Hid ((if gZ l then(0:Int)else 6)=if(decide (l.length<=20000) && (l.all λr=>!eX r) && decide (cZ fm l<=1048576))=true then 0 else 6):=rfl;have M:Hid ((l.all λr=>!eX r) = !(l.any eX)):=by show _=_;rw[List.not_any_eq_all_not]
 generalize (if gZ l then(0:Int)else 6)=R at *;rw[M.out]at d;subst K;by_cases A:l.length<=20000
 ·have ab:¬(20000:Int)<l.length:=ω;rw[bz A]at d;cases z:l.any eX
  ·have O:∀r∈l,fm r<=8016:=by
     intro r Q;have F:eX r=false:=by
      cases U:eX r;·rfl
      ·rw[List.any_eq_true.2 ⟨r,Q,U⟩]at z;cases z
     unfold eX at F;simp only[Bool.or_eq_false_iff,decide_eq_false_iff_not]at F;unfold fm;omega
   rw[z]at d q;have G:=ad (λW h=>L.out W h A O);by_cases I:cZ fm l<=1048576;·rw[bz I]at d;have ac:¬(1048576:Int)<cZ fm l:=ω;have m:Hid (R=0):=ad (by rw[d.out];rfl);generalize cZ fm l=wt at *;go_in;go_wp2_with fail;refine(q.out _ p).mono ?_;rintro e J ⟨rfl,o⟩;go_wp2_with fail;refine(G.out _ (p.fr o)).mono ?_;rintro e V ⟨rfl,D⟩;go_wp2;go_ret;exact⟨by rw[m.out];rfl,o.trans D⟩
   ·rw[bw I]at d;have m:Hid (R=6):=ad (by rw[d.out];rfl);go_in;go_wp2_with fail;refine(q.out _ p).mono ?_;rintro e J ⟨rfl,o⟩;go_wp2_with fail;refine(G.out _ (p.fr o)).mono ?_;rintro e V ⟨rfl,D⟩;go_wp2;go_ret;exact⟨by rw[m.out];rfl,o.trans D⟩
  ·rw[z]at d q;have m:Hid (R=6):=ad (by rw[d.out];rfl);go_in;go_wp2_with fail;refine(q.out _ p).mono ?_;rintro e J ⟨rfl,o⟩;go_wp2;go_ret;exact⟨by rw[m.out];rfl,o⟩
 ·rw[bw A]at d;have m:Hid (R=6):=ad (by rw[d.out];rfl);go_in;go_wp2;go_ret;exact⟨by rw[m.out];rfl,Fr.refl w⟩
def Pi(v:Value)(l:List aQ)(w:World)(K:ao w eR v l):Calls prog 32 #[v] w λe w'=>e=.returned (.int .i64 (if gZ l then 0 else 6))/\Fr w w':=by
 obtain⟨a,ah,F,ai,X,aj⟩:=K.shape;have m:Hid ((if gZ l then(0:Int)else 6)=if(decide (l.length<=20000) && (l.all λr=>!eX r) && decide (cZ fm l<=1048576))=true then 0 else 6):=rfl;generalize (if gZ l then(0:Int)else 6)=R at *;subst F;unfold maxLen at X;by_cases L:l.length<=20000
 ·have Y:¬(20000:Int)<l.length:=ω;rw[bz L]at m;go_in;go_wp2;go_loopw [3,4] (λZ G wr=>∃k:Nat,k<=l.length/\G=N k/\Z=N (cZ fm (l.take k))/\Hid (∀r∈l.take k,eX r=false)/\cZ fm (l.take k)<=k*8016/\Fr w wr) (λ_ G _=>l.length-(intOf G).toNat);·exact⟨0,ax _,rfl,rfl,λr d=>(by cases d),ax _,Fr.refl w⟩
  ·
   obtain⟨k,hk,rfl,rfl,M,al,p⟩:=hrel;by_cases D:k<l.length
   ·obtain⟨b,am,ap,F,c0,c1,c2,c3⟩:=mM (K.fr p) k D;have O:=ad (vx fm l k D);have Q:Hid (eX l[k]=false->∀r∈l.take (k+1),eX r=false):=by
     intro h r d;rw[ea D]at d;rcases iI.1 d with d | d;·exact M.out r d
     ·rw[lp]at d;rw[d];exact h
    have z:Hid (eX l[k]=true->R=6):=(by intro h;rw[m.out,ae];have:(l.all λr=>!eX r)=false:=(by rw[List.all_eq_false];exact⟨_,co D,by rw[h];simp⟩);rw[this];simp);have I:Hid (eX l[k]=(decide (4000<l[k].source.length) || decide (4000<l[k].text.length))):=rfl;have U:Hid (fm l[k]=16+l[k].source.length+l[k].text.length):=rfl;generalize cZ fm (l.take k)=q at *;generalize l[k]=r at *;cases F;have i1:(0:Int)<=k:=ω;have i2:(k:Int)<l.length:=ω;by_cases V:4000<r.source.length;·have aa:(4000:Int)<r.source.length:=ω;have o:Hid (R=6):=z.out (by rw[I.out,bz V];rfl);clear z;go_wp2;go_ret;exact⟨by rw[o.out];rfl,p⟩
    ·have aa:¬(4000:Int)<r.source.length:=ω;by_cases A:4000<r.text.length;·have J:(4000:Int)<r.text.length:=ω;have o:Hid (R=6):=z.out (by rw[I.out,bz A];simp);clear z;go_wp2;go_ret;exact⟨by rw[o.out];rfl,p⟩
     ·have J:¬(4000:Int)<r.text.length:=ω;have ab:=ad (Q.out (by rw[I.out,bw V,bw A];rfl));clear Q z;have a3:=aA ((q:Int)+16) ω;have a4:=aA ((q:Int)+16+r.source.length) ω;have a5:=aA ((q:Int)+16+r.source.length+r.text.length) ω;go_upto_region 9 with fail;go_quiet (fail);go_wp2;go_roundw;·exact⟨k+1,ω,γ,by rw[O.out,U.out];go_num,ab,by rw[O.out,U.out];omega,p.drewN _⟩
      ·exact μ
   ·obtain rfl:k=l.length:=ω;have a6:¬((l.length:Int)<l.length):=ω;rw[dP]at *;have W:(l.all λr=>!eX r)=true:=(by rw[n6];intro r d;rw[M.out r d];rfl);rw[W]at m;clear W;by_cases A:cZ fm l<=1048576;·rw[bz A]at m;have J:¬(1048576:Int)<cZ fm l:=ω;have o:Hid (R=0):=ad (by rw[m.out];rfl);generalize cZ fm l=wt at *;go_wp2;go_ret;exact⟨by rw[o.out];rfl,p⟩
    ·rw[bw A]at m;have J:(1048576:Int)<cZ fm l:=ω;have o:Hid (R=6):=ad (by rw[m.out];rfl);generalize cZ fm l=wt at *;go_wp2;go_ret;exact⟨by rw[o.out];rfl,p⟩
 ·have Y:(20000:Int)<l.length:=ω;rw[bw L]at m;have o:Hid (R=6):=ad (by rw[m.out];rfl);go_in;go_wp2;go_ret;exact⟨by rw[o.out];rfl,Fr.refl w⟩
def OQ(q:Nat)(m:1<=q)(I:q<=20000)(w:World):Calls prog 214 #[N q] w λe w'=>e=.returned (.tuple #[N (Nat.log2 q),N (2^Nat.log2 q)])/\w=w':=by
 go_in;go_wp2;go_loopw [4,5] (λo h wr=>∃k p:Nat,o=N k/\h=N p/\p<=q/\k<=20000/\Hid (p=2^k)/\k<p/\w=wr) (λ_ h _=>q-(intOf h).toNat);·exact⟨0,1,rfl,rfl,m,ω,by first | rfl | trivial,ω,by first | rfl | trivial⟩
 ·
  obtain⟨k,p,rfl,rfl,z,J,d,K,rfl⟩:=hrel;by_cases A:2*p<=q;·have D:(2:Int)*p<=q:=ω;have F:Hid (2*p=2^(k+1)):=(by show _=_;rw[d.out,gE];omega);go_wp2_with fail;exact⟨⟨k+1,2*p,γ,γ,A,ω,F.out,ω,by first | rfl | trivial⟩,by simp[intOf];omega⟩
  ·have D:decide ((2:Int)*p<=q)=false:=(by simp;omega);have L:decide (2*p<=q)=false:=(by simp;omega);have G:Hid (Nat.log2 q=k):=C3 q k (by rw[<- d.out];exact z) (by rw[gE,<- d.out];omega);go_wp2;go_ret2;rw[G.out,<- d.out];exact⟨rfl,rfl⟩
def eU:aJ prog Nat:=⟨234,1,2,0,.int .u16 0,λn=>[.int .u16 (n:Int)],by kernel_rfl,δ,δ,by simp[Value.cells],λ_=>rfl,by intro x u d;simp at d;subst d;rfl⟩
structure iT (w:World) (T:TypeId) (base g n:Nat) (hv lv:Value) (hs ls:List Nat):Prop where
 at0:w.heap[g]?=some (.cells #[N n,hv,lv] T (0,0))
 hi:Ow w base eJ hv hs
 lo:Ow w base eU lv ls
 lt:g<base
abbrev RV(w:World)(base g n:Nat)(d e:Value)(f h:List Nat):Prop:=iT w 228 base g n d e f h
def JA(x n:Nat)(hx:x<=20000)(hn:n<=14){T:TypeId}(base g:Nat)(I G:Value)(o p:List Nat)(w:World)(h:iT w T base g n I G o p)(hl:o.length<=20000)(bu:p.length<=20000)(ab:base<=w.heap.size):Calls prog 165 #[.pointer (some ⟨g,0,none⟩),N x] w λe w'=>e=.returned (.tuple #[])/\∃m av,iT w' T base g n m av (o++[x / 2^n]) (p++[x%2^n])/\ag (λk=>k=g\/I.ownBlock=some k\/G.ownBlock=some k) w w':=by
 obtain⟨M,O,Q,R⟩:=h;have az:=lE O Q δ;have e0:=af M 0 rfl;have e1:=af M 1 rfl;have e2:=af M 2 rfl;have bv:(x:Int) / 2^n=((x / 2^n:Nat):Int):=σ
 have bx:x / 2^n<=x:=il _ _;have a1:Hid (o.length+[x / 2^n].length<=2147483648):=by show _<=_;simp;omega
 have HM:Hid (x%2^n=x%2^n):=rfl;generalize V:x%2^n=z at *;have HZ:=ad V;clear V;generalize hy:x / 2^n=y at *;have HY:=ad hy;clear hy;have b2:(0:Int)<=n:=ω
 have b3:¬(n:Int)<0:=ω
 have a2:Hid (base<=w.drew.heap.size):=ab;have hD:=O.drew;have A:Fr w (w.alloc (.cells #[.int .i64 (y:Int)] 3)):=(Fr.refl w).alloc _;have a3:=A.cell e0;have a4:=A.cell e1;clear A;have a5:∀k,I.ownBlock=some k->base<=k:=λk D=>(O.lt k D).1;clear O;go_in;go_upto_region 0 with fail;go_cut []from 4 to 18 (λW=>∃m,W.heap[g]?=some (.cells #[N n,m,G] T (0,0))/\Ow W base eJ m (o++[y])/\ag (λk=>k=g\/I.ownBlock=some k) w W/\(∀b,m.ownBlock=some b->I.ownBlock=some b\/w.heap.size<=b))
 ·
  go_region_law (refine oB eJ rfl (.tmp 8) (.tmp 15) 40 rfl uAC base rfl hD [y] _ _ _ rfl rfl rfl a1.out a2.out ?_
                 intro v' w4 d
                 have J := d.own
                 have X := ad d.chg'
                 have b4 := ad d.size
                 have a6 := ad d.fresh
                 obtain ⟨K, L, m⟩ := J.shape'
                 have F := d.chg'.heap (show w.drew.heap[g]? = _ from M) (λe => by have := a5 g e; omega)
                 have e3 := af F 1 rfl
                 have e4 : w4.frozen? ⟨g, 1, none⟩ = false := aB F 1
                 clear d
                 subst m)
  all_goals go_wp2_with fail
  all_goals go_meet
  all_goals refine⟨.slice K (o.length+1) L,?_,de (by simpa using J) R,(X.out.mono (λk _ h=>Or.inr h)).trans (ay w4 ⟨g,1,none⟩ _) (λk _ h=>Or.inl h),λb hb=>a6.out b (by simpa using hb)⟩
  all_goals(have D:=aI F 1 (.slice K (o.length+1) L);simpa using D)
 ·
  obtain⟨aC,Y,ak,Z,b5⟩:=hcut;have U:Ow wc base eU G p:=Q.chg Z λq hq e=>by
   rcases e with e | e;·have:=(Q.lt q hq).1;omega
   ·rcases az with h | h;·rw[h]at e;cases e
    ·exact h (e.trans hq.symm)
  have c0:=af Y 0 rfl;have c2:=af Y 2 rfl;clear e0 e1 e2 a3 a4 Q;have bb:Hid (p.length+[z].length<=2147483648):=(by show _<=_;simp;omega);have bc:Hid (base<=wc.drew.heap.size):=ar ab Z.size;have bd:=U.drew;have hp:(2:Nat)^n<=16384:=dn ω hn;have bf:=lm n;have aa:(2:Int)^n=((2^n:Nat):Int):=σ;have w1:IntKind.i64.wrap ((2:Int)^n)=((2^n:Nat):Int):=(by rw[aa];exact aA _ ω);have w2:IntKind.i64.wrap (((2^n:Nat):Int)-1)=((2^n-1:Nat):Int):=(by rw[aA _ ω];omega);have w3:bits .and .i64 (x:Int) ((2^n-1:Nat):Int)=(z:Int):=(by rw[Oy _ _ ω ω,F9,HZ.out]);have w4:IntKind.u16.wrap (z:Int)=(z:Int):=(by have V:z<2^n:=(by rw[<- HZ.out];exact jB _ bf);simp only[IntKind.wrap,IntKind.bits,IntKind.signed];simp;omega);have A:Fr wc (wc.alloc (.cells #[.int .u16 (z:Int)] 234)):=(Fr.refl wc).alloc _;have bC:=A.cell c0;have bG:=A.cell c2;clear A;have bL:=ad aa;clear aa hp;generalize 2^n-1=pm at *;generalize am:2^n=pn at *;have bT:=ad am;clear am;have bk:∀k,G.ownBlock=some k->base<=k:=λk D=>(U.lt k D).1;have bl:=ad U;have bm:=ad ak;clear U ak;go_upto_region 1 with fail
  go_region_law (refine oB eU rfl (.tmp 23) (.tmp 33) 226 rfl uAK base rfl bd [z] _ _ _ rfl rfl rfl bb.out bc.out ?_
                 intro v' w4 d
                 have J := d.own
                 have X := ad d.chg'
                 have bq := ad (bX bm.out bl.out d δ)
                 obtain ⟨K, L, m⟩ := J.shape'
                 have F := d.chg'.heap (show wc.drew.heap[g]? = _ from Y) (λe => by have := bk g e; omega)
                 have e3 := af F 2 rfl
                 have e4 : w4.frozen? ⟨g, 2, none⟩ = false := aB F 2
                 clear d
                 subst m)
  all_goals go_wp2_with fail
  all_goals go_end0
  all_goals refine⟨rfl,⟨aC,.slice K (p.length+1) L,⟨?_,?_,?_,R⟩⟩,(Z.mono (λk _ h=>?_)).trans ((X.out.mono (G':=λk=>k=g\/G.ownBlock=some k) (λk _ h=>.inr h)).trans (ay w4 ⟨g,2,none⟩ _) (λk _ h=>.inl h)) (λk _ h=>?_)⟩
  all_goals first
   | (have D:=aI F 2 (.slice K (p.length+1) L);simpa using D)
   | exact de bq.out R
   | (exact de (by simpa using J) R)
   | exact Or.elim h (λh=>.inl h) (λh=>.inr (.inl h))
   | exact Or.elim h (λh=>.inl h) (λh=>.inr (.inr h))
def Cb(d:Bool)(r:aQ):U0:=(if d then bE r.time.toNat++[r.level]else [])++(sX r.source++sX r.text)
def Em(b:Bool)(l:List aQ):U0:=(l.map (Cb b)).flatten
def xI(b:Bool)(r:aQ):Nat:=(Cb b r).length
def RA:aJ prog It:=⟨401,2,16,⟨0,false,[]⟩,.agg #[.int .u64 0,.bool false],λx=>[.int .u64 (x.w.toNat:Int),.bool x.leaf],by kernel_rfl,δ,δ,by simp[Value.cells],λ_=>rfl,by intro x u d;simp at d;rcases d with rfl | rfl <;> rfl⟩
def KQ(d e:List Nat):List It:=e.map λs=>⟨UInt64.ofNat (d.getD s 0),true,[s]⟩
end Go.Proofs
namespace Go.Fk
open Go.RowKit
section
variable {P:Program} {α:Type} {E:aJ P α} {w:World} {base:Nat}
theorem Is(f:E.k=1)(q D F:TypeId)(V:P.underlying q=some (.slice E.e))(g d m n p G c:Nat)(y:Value)(z l:List α)
  (hown:Ow w base E (.slice (some ⟨g,0,none⟩) n p) z) (hsee:ao w E y l) (hc:c=min m l.length) (hp:0<c) (hfit:d+m=z.length) :
  ∃w',(Builtin.copy_ #[q,D] F #[.slice (some ⟨g,d,none⟩) m G,y]).run P w=.ok (goInt c) w'/\Ow w' base E (.slice (some ⟨g,0,none⟩) n p) (z.take d++(l.take c++z.drop (d+c)))/\ag (λk=>k=g) w w':=by
 obtain⟨i,W,hz,X,a3⟩:=of E.info;have Y:(P.info? E.e).map (·.size)=some 1:=by simp[W,X,f]
 have Z:l≠[]:=by intro e;subst e;simp at hc;omega
 obtain⟨aa,hb,o,I,c1,c2,J,K⟩:=hown.parts;obtain⟨b,ah,ai,aj,_,_,ak⟩:=hsee.cells Z;rw[f,eo]at J K;have L:(l.take c).length=c:=by rw[aP];omega
 have h:=E.length_cells (l.take c);rw[f,eo,L]at h;have al:o.toList.length=p:=by simpa using J
 have M := run_copy_row (P := P) w q D F E.e g d m G ⟨b, ah, none⟩ l.length ai o E.e (E.cells (l.take c)) V Y I (by rw [h, hc]; exact Nat.min_comm _ _) (by
   intro j u O;rw[lw];have am := (List.getElem?_eq_some_iff.1 O).1;rw[h] at am;have := E.cells_at (l.take c) j ω 0 ω;rw[f, eo, g8, O, n5] at this;have Q := ak j ω 0 ω u this.symm;rw[f, eo, g8] at Q
   exact Q) (by rw[h]; omega) (E.cells_mem _)
 rw[h]at M;rw[aj];have A:(z.take d++(l.take c++z.drop (d+c))).length=z.length:=by rw[aM,aM,aP,bn,L];omega
 refine⟨_,M,⟨E.length_cells _,.inr ⟨g,p,_,by rw[A,aa],hb,bY w g _ _ _ _ I,by rw[A];exact c1,c2,?_,?_⟩⟩,⟨rfl,rfl,rfl,by simp[World.setRow],λk _ hn=>setRow_other w g k _ hn⟩⟩;·rw[f,eo];simp only[lO,aM,aP,bn,h,al];omega
 ·rw[f,eo,A,E.cells_append,E.cells_append];have R:(E.cells (z.take d)).length=d:=(by rw[E.length_cells,f,eo,aP];omega);have e1:E.cells (z.take d)=(E.cells z).take d:=(by have:=E.cells_append (z.take d) (z.drop d);rw[jC]at this;rw[this,FA (gp R.symm),dN (gp R)]);have a4:(E.cells (z.take (d+c))).length=d+c:=(by rw[E.length_cells,f,eo,aP];omega);have e2:E.cells (z.drop (d+c))=(E.cells z).drop (d+c):=(by have:=E.cells_append (z.take (d+c)) (z.drop (d+c));simp_all);rw[e1,e2,<- K];have U:(o.toList.take d).length=d:=(by rw[aP];omega);have f2:(o.toList.take z.length).take d=o.toList.take d:=(by rw[List.take_take,kf ω]);have f3:(o.toList.take z.length).drop (d+c)=(o.toList.drop (d+c)).take (z.length-(d+c)):=(by rw[lQ]);rw[f2,f3,iK,Ai _ _ _ _ (by rw[U,h];omega),U,h,show z.length-d-c=z.length-(d+c) by omega]
theorem Ir(f:E.k=1)(t:TypeId)(e:P.underlying t=some (.slice E.e)){n d g:Nat}{l:List α}(h:Ow w base E (.slice (some ⟨g,0,none⟩) n d) l)(i:Nat)(p:i<l.length):(∀W,(Instr.slice t (.slice (some ⟨g,0,none⟩) n d) (some (.int .i64 (i:Int))) none none).run P W=.ok (.slice (some ⟨g,i,none⟩) (n-i) (d-i)) W):=by
 obtain⟨q,_,_,_,z,A,_⟩:=h.parts;have m:P.underlying t=some (.slice (P.elem t)):=by simp[Program.elem,e]
 have o:P.elem t=E.e:=by simp[Program.elem,e]
 intro W;rw[run_slice_l W t _ _ _ m .i64 _ ω ω,o,mI];simp[Result.andThen,sliced,f,lw,show d≠i by omega]
end
def IJ{α:Type}(x z:α)(k n c:Nat)(f:n<=k)(d:c<=n)(h:n+c<=k):(List.replicate n x++List.replicate (k-n) z).take n++(((List.replicate n x++List.replicate (k-n) z).take n).take c++(List.replicate n x++List.replicate (k-n) z).drop (n+c))=List.replicate (n+c) x++List.replicate (k-(n+c)) z:=by
 have e:(List.replicate n x++List.replicate (k-n) z).take n=List.replicate n x:=σ
 rw[e,List.take_replicate,kf d,List.drop_append,jF,qQ σ,jl,zw,<- iK,List.replicate_append_replicate];congr 2;omega
end Go.Fk
namespace Go.Proofs
open RowKit Fk Tryz
def Ov(a b:Nat)(d:a<18446744073709551616)(e:b<18446744073709551616):bits .and .u64 (a:Int) (b:Int)=((a &&& b:Nat):Int):=by
 have f:a &&& b<2^64:=uV _ ω;show IntKind.u64.wrap ((BitVec.ofInt 64 (a:Int) &&& BitVec.ofInt 64 (b:Int)).toNat:Int)=_;rw[vo,fX 64 a ω,fX 64 b ω];exact cW _ ω
def Kn(k:Nat)(d:k<=1000000)(w:World):Calls prog 320 #[.int .u64 1,.int .u64 (k:Int)] w λe w'=>e=.returned (.tuple #[.int .u64 0,.int .u64 (k:Int)])/\w=w':=by
 have h:bits .and .u64 1 4294967295=1:=by decide +kernel
 have m:bits .and .u64 0 4294967295=0:=by decide +kernel
 have o:bits .and .u64 (k:Int) 4294967295=(k:Int):=by rw[show(4294967295:Int)=((4294967295:Nat):Int)from rfl,Ov _ _ ω ω,show(4294967295:Nat)=2^32-1 from rfl,F9,m7 ω]
 have p:(k:Int) / 4294967296=0:=ω
 have q:IntKind.u64.wrap (k:Int)=(k:Int):=cW _ ω;have z:IntKind.u64.wrap 0=0:=δ
 have A:IntKind.u64.wrap 1=1:=δ
 go_in;go_wp2;go_ret2;exact⟨rfl,rfl⟩
def Kh(k:Nat)(d:k<=1000000)(w:World):Calls prog 290 #[.int .u64 1,.int .u64 (k:Int)] w λe w'=>e=.returned (.tuple #[.int .u64 0,.int .u64 (k:Int)])/\w=w':=by
 have h:=ad (Kn k d w);have m:IntKind.u64.wrap (k:Int)=(k:Int):=cW _ ω;have o:IntKind.u64.wrap 0=0:=δ
 have p:IntKind.u64.wrap 1=1:=δ
 go_in;go_wp2_with fail;apply h.z;rintro e q ⟨rfl,rfl⟩;go_wp2;go_ret2;exact⟨rfl,rfl⟩
def OS(x:UInt8)(k:Nat)(hk:k<=1000000)(v:Value)(w:World)(z:ao w eB v [x]):Calls prog 247 #[v,N k] w λe w'=>∃u,e=.returned u/\Ow w' w.heap.size eB u (List.replicate k x)/\Fr w w':=by
 have HM:=ad (Kh k hk w);have p:=mS eB rfl rfl 22 sJ .i64 .i64 k ω w;have A:=nN (base:=w.heap.size) eB rfl rfl k ω w (au _);have q:Fr w (w.alloc (.cells (madeCells #[eB.z] k) eB.e)):=(Fr.refl w).alloc _;have K:=z.fr q;obtain⟨a0,a2,rfl,_⟩:=z.shape;have k1:¬(k:Int)<0:=ω
 have d2:IntKind.u64.wrap (k:Int)=(k:Int):=cW _ ω;have d3:IntKind.i64.wrap (k:Int)=(k:Int):=aA _ ω;have d4:IntKind.u64.wrap 1=1:=δ
 clear z;rw[show(eB:aJ prog UInt8).e=5 from rfl]at *;generalize madeCells #[eB.z] k=D at *;go_in;go_wp2_with fail;apply HM.z;rintro e w1 ⟨rfl,rfl⟩;have k3:¬(9223372036854775807:Int)<k:=ω
 rcases kJ k with rfl | hp
 ·have a8:(Instr.makeSlice 22 (.int .i64 0) (.int .i64 0)).run prog w=.ok (.slice (some ⟨w.heap.size,0,none⟩) 0 0) (w.alloc (.cells D 5)):=p;clear p;go_wp2_with (refine wpList_copy_nothing rfl (.tmp 31) (.tmp 32) 22 22 rfl 5 sJ (by kernel_rfl) _ _ _ _ _ _ rfl rfl rfl ?_);go_wp2;go_loopw [8] (λo wr=>o=N 0/\wr=w.alloc (.cells D 5)) (λ_ _=>0);·exact⟨rfl,rfl⟩
  ·obtain⟨rfl,rfl⟩:=hrel;go_wp2;go_ret;exact⟨_,rfl,A,q⟩
 ·have ah:(1:Nat)<=k:=hp;have L:(([x]:U0)++(List.replicate k eB.zero).drop 1)=List.replicate 1 x++List.replicate (k-1) eB.zero:=(by rw[zw];rfl);have ai:=ad L;have a9:w.heap.size<(w.alloc (.cells D 5)).heap.size:=σ;have M:=ad A;have O:=ad q;clear L A q;go_wp2_with (refine zQ rfl rfl (.tmp 31) (.tmp 32) 22 22 rfl sJ _ _ _ _ rfl rfl M.out K (by simp;omega) ?_);intro F d Q;have R:Ow F w.heap.size eB (.slice (some ⟨w.heap.size,0,none⟩) k k) (List.replicate 1 x++List.replicate (k-1) eB.zero):=(by have h1:=d;rw[show List.replicate 1 x++List.replicate (k-1) eB.zero=x::List.replicate (k-1) eB.zero from rfl];simpa using h1);have G:Fr w F:=((O.out.chg (λb=>b=w.heap.size)).trans Q λi U h=>by simp[Value.ownBlock]at h;omega).fr (λi U h=>by omega);clear d M ai p K O Q;go_wp2_with fail;generalize hg:w.heap.size=g at *;have aC:g<=F.heap.size:=(by rw[<- hg];exact G.size);go_loopw [8] (λo wr=>∃n:Nat,1<=n/\n<=k/\o=N n/\Ow wr g eB (.slice (some ⟨g,0,none⟩) k k) (List.replicate n x++List.replicate (k-n) eB.zero)/\Fr w wr) (λo _=>k-(intOf o).toNat);·exact⟨1,au _,ah,rfl,R,G⟩
  ·
   clear R G;obtain⟨n,ba,V,rfl,d,W⟩:=hrel;by_cases al:n<k
   ·have m:(List.replicate n x++List.replicate (k-n) eB.zero).length=k:=(by simp;omega);have bb:=Ir (P:=prog) (E:=eB) rfl 22 sJ d n (by rw[m];exact al);obtain⟨bc,X⟩:=gw eB 22 sJ d.see n (by rw[m];exact V);have I:=IJ x eB.zero k n (min (k-n) n) V ω ω;have am:=ad I;have J:((List.replicate n x++List.replicate (k-n) eB.zero).take n).length=n:=(by rw[aP,m];omega);have ap:=ad J;have av:=ad m;obtain⟨w4,bd,Y,Z⟩:=Is (P:=prog) (E:=eB) (w:=wr.drew) rfl 22 22 3 sJ g n (k-n) k k (k-n) (min (k-n) n) _ _ _ d.drew X.drew (by rw[J]) ω (by rw[m];omega);rw[I]at Y;have i1:(n:Int)<k:=ω;have p:n+min (k-n) n<=k:=ω;have bf:0<min (k-n) n:=ω;have az:Fr w w4:=((W.drew.chg (λb=>b=g)).trans Z λ_ _ h=>h).fr (λi U h=>by omega);clear I d X J m am ap av Z;generalize min (k-n) n=c at *;have bk:=aA ((n:Int)+c) ω;go_upto_region 9 with fail;go_region;all_goals go_wp2_with fail
    all_goals go_roundw
    all_goals first
     | (simp[intOf];omega)
     | exact⟨n+c,ω,ω,γ,Y,az⟩
   ·obtain rfl:n=k:=ω;have bl:¬((n:Int)<n):=ω;rw[eA,uW,iJ]at d;go_wp2;go_ret;exact⟨_,rfl,d,W⟩
open Go.RowKit Go.Fk Tryz
def eQ:aJ prog Nat:=⟨52,1,8,0,.int .u64 0,λn=>[.int .u64 (n:Int)],by kernel_rfl,δ,δ,by simp[Value.cells],λ_=>rfl,by intro x u d;simp at d;subst d;rfl⟩
def zJ(a b:Nat)(d:a<18446744073709551616)(e:b<18446744073709551616):bits .xor .u64 (a:Int) (b:Int)=((a ^^^ b:Nat):Int):=by
 have f:a ^^^ b<2^64:=ix ω ω;show IntKind.u64.wrap ((BitVec.ofInt 64 (a:Int) ^^^ BitVec.ofInt 64 (b:Int)).toNat:Int)=_;rw[vn,fX 64 a ω,fX 64 b ω];exact cW _ ω
def O7(z:Nat)(p:z<18446744073709551616)(w:World):Calls prog 246 #[.int .u64 (z:Int)] w λe w'=>e=.returned (.int .u64 (eN z:Int))/\w=w':=by
 have D:=E9 z p;have o:Hid (eN z=if z%2=1 then 18446744073709551615-z / 2 else z / 2):=rfl;have m:(z:Int) / 2=((z / 2:Nat):Int):=σ
 have F:z / 2<9223372036854775808:=ω
 have q:z / 2 ^^^ 18446744073709551615=18446744073709551615-z / 2:=zK 64 (z / 2) ω;generalize eN z=Q at *;by_cases h:z%2=1;·rw[h]at D;rw[an h]at o;have I:IntKind.u64.wrap (-1)=18446744073709551615:=δ;have d:bits .xor .u64 ((z / 2:Nat):Int) 18446744073709551615=((18446744073709551615-z / 2:Nat):Int):=(by rw[show(18446744073709551615:Int)=((18446744073709551615:Nat):Int)from rfl,zJ _ _ ω ω,q]);rw[<- m]at d;have A:=ad d;clear p F q h m d;go_in;go_wp2;go_ret;rw[o.out,<- A.out];exact⟨rfl,rfl⟩
 ·have G:z%2=0:=ω;rw[G]at D;rw[ae h]at o;have I:IntKind.u64.wrap 0=0:=δ;have d:bits .xor .u64 ((z / 2:Nat):Int) 0=((z / 2:Nat):Int):=(by rw[show(0:Int)=((0:Nat):Int)from rfl,zJ _ _ ω ω,Nat.xor_zero]);rw[<- m]at d;have A:=ad d;have J:=ad m;clear p F q h G m;go_in;go_wp2;go_ret;rw[o.out];exact⟨by rw[<- J.out];first | rfl | (rw[A.out];rfl),rfl⟩
def aw.cbox{w:World}{B base n d:Nat}{T:TypeId}{l:U0}(h:aw w T B base l n d):∃e,w.heap[B]?=some (.cells e T (0,0)):=by obtain⟨⟨v,f,_⟩,_⟩:=h;exact⟨_,f⟩
def aw.lt{w:World}{B base n d:Nat}{T:TypeId}{l:U0}(h:aw w T B base l n d):B<w.heap.size:=by obtain⟨f,e⟩:=h.cbox;exact(aX.1 e).1
def aw.app{α:Type}{E:aJ prog α}{w w':World}{B base n d b:Nat}{T:TypeId}{l:U0}{v v':Value}{xs q:List α}(h:aw w T B base l n d)(f:Ow w b E v xs)(m:dF b E q w v v' w')(z:T≠E.e)(A:E.e≠(eB:aJ prog UInt8).e):aw w' T B base l n d:=by
 obtain⟨⟨x,o,p⟩,D⟩:=h;exact⟨⟨x,m.chg'.heap o (λe=>f.ne_cells o z e),bX p.own f m A,p.top⟩,D⟩
def Iy(B base n:Nat)(p:Cs)(b:U0)(w:World)(K:aw w 247 B base b p.at_ p.er)(hl:b.length<=1000000)(hn:n<=20000):Calls prog 185 #[.agg #[.pointer (some ⟨B,0,none⟩)],N n] w λe w'=>∃u,e=.returned u/\Ow w' w.heap.size eQ u (ep b n p 0 []).1/\aw w' 247 B base b (ep b n p 0 []).2.at_ (ep b n p 0 []).2.er/\ag (λk=>k=B) w w':=by
 have a4:=ad (λs W (h:aw W 247 B base b s.at_ s.er)=>Qs B base s b W h hl);have a5:=ad (λn er W h=>jg B base n er b W h);have a7:Hid (∀k s d o,k<n->ep b (n-k) s d o=if s.er=0 then ep b (n-(k+1)) (s.num b).2 ((d+eN (s.num b).1)%18446744073709551616) (o++[(d+eN (s.num b).1)%18446744073709551616])else(o,s)):=λk s d o h=>by rw[show n-k=(n-(k+1))+1 by omega,ep]
 have aa:Hid (∀s:Cs,(s.num b).1<18446744073709551616):=λs=>by
  show s.val _<_;unfold Cs.val;split;·exact xi _
  ·decide
 obtain⟨R,L⟩:∃R,R=ep b n p 0 []:=⟨_,rfl⟩;rw[<- L];have HR:Hid (R=ep b (n-0) p 0 []):=L;clear L;have b2:=K.lt;have ab:(w.alloc (.cells #[.pointer (some ⟨B,0,none⟩)] 191)).heap[w.heap.size]?=some (.cells #[.pointer (some ⟨B,0,none⟩)] 191 (0,0)):=aD _ _ _ rfl;have M:Fr w (w.alloc (.cells #[.pointer (some ⟨B,0,none⟩)] 191)):=(Fr.refl w).alloc _;have ac:w.heap.size+1<=(w.alloc (.cells #[.pointer (some ⟨B,0,none⟩)] 191)).heap.size:=σ
 have ah:=K.fr M;clear K;go_in;go_wp2_with fail;generalize w.alloc (.cells #[.pointer (some ⟨B,0,none⟩)] 191)=W0 at *;generalize hg:w.heap.size=g at *;go_loopw [5,6] (λO tv wr=>∃(k d:Nat) (s:Cs) (o:List Nat),k<=n/\o.length=k/\tv=.int .u64 (d:Int)/\Hid (d<18446744073709551616)/\Ow wr (g+1) eQ O o/\aw wr 247 B base b s.at_ s.er/\wr.heap[g]?=some (.cells #[.pointer (some ⟨B,0,none⟩)] 191 (0,0))/\ag (λk=>k=B) w wr/\g+1<=wr.heap.size/\Hid (R=ep b (n-k) s d o)) (λO _ _=>n-(match O with | .slice _ m _=>m | _=>0));·exact⟨0,0,p,[],ax _,rfl,rfl,by show 0<_;decide,Ow.nil,ah,ab,M.chg _,ac,HR.out⟩
 ·
  clear ah ab M ac;obtain⟨k,d,s,o,hk,Q,rfl,HW,A,hC,U,V,hz,q⟩:=hrel;obtain⟨oa,oc,ai⟩:=A.shape';rw[Q]at ai;subst ai;have aj:=ad Q;clear Q;have c0:=af U 0 rfl;have ba:B≠g:=ω;by_cases bb:k<n
  ·have i1:(k:Int)<n:=ω;have F:=ad (a5.out s.at_ s.er wr hC);have D:=ad (a7.out k s d o bb);by_cases G:s.er=0
   ·rw [an G]at D;have ak:=ad (a4.out s wr hC);rw [G]at F;have X:=ad A;have HG:=ad U;have am:=hC.cbox;clear A hC U G;go_wp2_with fail;apply F.z;rintro e w1 ⟨rfl,rfl⟩;go_wp2_with fail;apply ak.z;rintro e w2 ⟨rfl,bf,I⟩;have ap:=ad (O7 (s.num b).1 (aa.out s) w2);have bk:=zF (s.num b).1 (aa.out s);have J := X.out.chg I (fun i hi e => by
      obtain ⟨cs, h5⟩ := am
      exact X.out.ne_cells h5 δ (by rw[hi, show i = B from e]))
    have az:=I.heap HG.out (λe=>ba e.symm);have bm:=V.trans I λ_ _ h=>h;have a0:=ar hz I.size;have bL:IntKind.u64.wrap ((d:Int)+((eN (s.num b).1:Nat):Int))=(((d+eN (s.num b).1)%18446744073709551616:Nat):Int):=(by rw[IntKind.wrap_u64];omega);have HM:=ad (jB (d+eN (s.num b).1) (show 0<18446744073709551616 by omega));have bs:Hid (R=ep b (n-(k+1)) (s.num b).2 ((d+eN (s.num b).1)%18446744073709551616) (o++[(d+eN (s.num b).1)%18446744073709551616])):=q.out.trans D.out;have bt:Hid (o.length+[(d+eN (s.num b).1)%18446744073709551616].length<=2147483648):=(by have:=aj.out;show _<=_;simp;omega);clear ak F X HG q D am bk;generalize (s.num b).2=s2,(s.num b).1=x1,eN (s.num b).1=zz,(d+eN (s.num b).1)%18446744073709551616=Y at *;go_wp2_with fail;apply ap.z;rintro e w3 ⟨rfl,rfl⟩;clear ap;go_wp2_with (at_builtin;refine bA eQ rfl (.tmp 23) (.tmp 25) 43 rfl underlying43 (g+1) rfl J [Y] _ _ _ rfl rfl rfl bt.out a0 ?_);intro v4 w4 z;have bu:=bf.app J z δ δ;have bv:=z.chg'.heap az (λe=>J.ne_cells az δ e);have bx:ag (λi=>i=B) w w4:=bm.trans z.chg' λi hi e=>(by have:=(J.lt i e).1;omega);have b0:=ar a0 z.size;have a1:=aj.out;obtain⟨va,vc,a2⟩:=z.own.shape';rw[aM,a1]at a2;subst a2;go_wp2;go_roundw;·exact⟨k+1,Y,s2,o++[Y],ω,by rw[aM,a1];rfl,rfl,HM.out,z.own,bu,bv,bx,b0,bs.out⟩
    ·simp;omega
   ·have Z:Hid (R=(o,s)):=ad (by rw[q.out,D.out,ae G]);have cb:¬(s.er:Int)=0:=ω;clear q D;go_wp2_with fail;apply F.z;rintro e w1 ⟨rfl,rfl⟩;go_wp2;go_ret;rw[Z.out];exact⟨_,rfl,A.rebase ω,hC,V⟩
  ·have Z:Hid (R=(o,s)):=ad (by rw[q.out,show n-k=0 by omega];rfl);have i1:¬(k:Int)<n:=ω;clear q;go_wp2;go_ret;rw[Z.out];exact⟨_,rfl,A.rebase ω,hC,V⟩
def Cs.int_top(s:Cs)(l:U0)(d:Nat):(s.int l d).1<=d:=by
 show Cs.val _ _<=_;unfold Cs.val;split;·rename_i h;exact(jN _ _ h.2).2.2
 ·exact ax _
abbrev jR(B d n p:Nat)(e:Value):Obj:=.cells #[.pointer (some ⟨B,0,none⟩),N d,N n,N p,e] 189 (0,0)
def NX(F B base:Nat)(b:U0)(w:World)(hG:w.heap[F]?=some (jR B 0 0 0 (.slice none 0 0)))(hc:aw w 247 B base b 0 0)(p:F≠B)(O:b.length<=1000000)(hb:base<=w.heap.size):Calls prog 192 #[.pointer (some ⟨F,0,none⟩)] w λe w'=>e=.returned (.tuple #[])/\w'.heap[F]?=some (jR B (dr b).1 (bH b).1 (bV b).1 (.slice none 0 0))/\aw w' 247 B base b (ey b).at_ (ey b).er/\ag (λk=>k=B\/k=F) w w':=by
 have ak:Hid (Calls prog 118 #[.pointer (some ⟨B,0,none⟩)] w λe w'=>e=.returned (.int .u8 ((dr b).1:Int))/\aw w' 247 B base b (dr b).2.at_ (dr b).2.er/\ag (λb=>b=B) w w'):=F0 B base ⟨0,0⟩ b w hc O hb;have al:=ad (λer s W (h:aw W 247 B base b s.at_ s.er)=>sw er B base s b W h);have am:Hid (∀W,aw W 247 B base b (kC b).at_ (kC b).er->Calls prog 121 #[.pointer (some ⟨B,0,none⟩),N 32768] W λe w'=>e=.returned (N (bH b).1)/\aw w' 247 B base b (bH b).2.at_ (bH b).2.er/\ag (λb=>b=B) W w'):=λW h=>pp 32768 δ B base (kC b) b W h O;have ap:Hid (∀W,aw W 247 B base b (bH b).2.at_ (bH b).2.er->Calls prog 121 #[.pointer (some ⟨B,0,none⟩),N 32768] W λe w'=>e=.returned (N (bV b).1)/\aw w' 247 B base b (bV b).2.at_ (bV b).2.er/\ag (λb=>b=B) W w'):=λW h=>pp 32768 δ B base (bH b).2 b W h O;have Q:Hid (kC b=if 1<(dr b).1 then(dr b).2.fail 2 else(dr b).2):=rfl;have R:Hid (ey b=if 1032*(bV b).1+64<(bH b).1 then(bV b).2.fail 6 else(bV b).2):=rfl;have hx:(dr b).1<256:=iH _;have hn:(bH b).1<=32768:=Cs.int_top _ _ _;have hp:(bV b).1<=32768:=Cs.int_top _ _ _;have b6:=hc.lt;have cF:=af hG 0 rfl;generalize bV b=RP,bH b=RN,dr b=RW,kC b=sC,ey b=sD at *;obtain⟨d,sW⟩:=RW;obtain⟨o,sN⟩:=RN;obtain⟨m,sP⟩:=RP;simp only at ak am ap Q R hx hn hp;go_in;go_wp2_with fail;apply ak.z;rintro e K ⟨rfl,bd,av⟩;have L:=av.heap hG p;have z1:=aB L 1;have d1:=af L 1 rfl;have bR:IntKind.i64.wrap (d:Int)=(d:Int):=aA _ ω;have U:=aI L 1 (.int .i64 (d:Int));have V:=bd.box L δ (jj p) (ay K ⟨F,1,none⟩ (.int .i64 (d:Int)));have az:ag (λk=>k=B\/k=F) w (K.setCell ⟨F,1,none⟩ (.int .i64 (d:Int))):=(av.mono (G':=λk=>k=B\/k=F) (λk hk h=>.inl h)).trans (ay K ⟨F,1,none⟩ _) (λ_ _ h=>.inr h);go_upto_if 15 with fail;generalize bT:K.setCell ⟨F,1,none⟩ (.int .i64 (d:Int))=W2 at *;have ca:=V.lt;go_cut []from 15 to 21 (λX=>X.heap[F]?=some (jR B d 0 0 (.slice none 0 0))/\aw X 247 B base b sC.at_ sC.er/\ag (λk=>k=B\/k=F) w X)
 ·
  by_cases A:1<d;·have Y:=ad (Q.out.trans (an A));have Z:=ad (al.out 2 sW W2 V);have j1:(1:Int)<d:=ω;have c2:=af U 0 rfl;go_wp2_with fail;apply Z.z;rintro e w3 ⟨rfl,ab,a0⟩;have M:=a0.heap U p;go_wp2;go_meet;rw[Y.out];exact⟨M,ab,az.trans a0 λ_ _ h=>.inl h⟩
  ·have Y:=ad (Q.out.trans (ae A));have j1:¬(1:Int)<d:=ω;go_wp2;go_meet;rw[Y.out];exact⟨U,V,az⟩
 ·
  obtain⟨M,ab,bf⟩:=hcut;have bk:=ad al.out;have c3:=af M 0 rfl;have bm:=ad (am.out wc ab);go_wp2_with fail;apply bm.z;rintro e w4 ⟨rfl,bq,a1⟩;have D:=a1.heap M p;have z4:=aB D 2;have d4:=af D 2 rfl;have ch:=af D 0 rfl;have G:=ay w4 ⟨F,2,none⟩ (N o);have a2:(w4.setCell ⟨F,2,none⟩ (N o)).heap[F]?=some (jR B d o 0 (.slice none 0 0)):=aI D 2 (N o);have bs:=bq.box D δ (jj p) G;have bt:=(bf.trans a1 (λ_ _ h=>.inl h)).trans G (λ_ _ h=>.inr h);go_upto_region 9 with fail;generalize ci:w4.setCell ⟨F,2,none⟩ (N o)=W5 at *;have c5:=af a2 0 rfl;have bv:=ad (ap.out W5 bs);go_wp2_with fail;apply bv.z;rintro e w6 ⟨rfl,bx,a3⟩;have I:=a3.heap a2 p;have z6:=aB I 3;have d6:=af I 3 rfl;have cm:=af I 0 rfl;have G:=ay w6 ⟨F,3,none⟩ (N m);have J:(w6.setCell ⟨F,3,none⟩ (N m)).heap[F]?=some (jR B d o m (.slice none 0 0)):=aI I 3 (N m);have a4:=bx.box I δ (jj p) G;have a5:=(bt.trans a3 (λ_ _ h=>.inl h)).trans G (λ_ _ h=>.inr h);go_upto_region 11 with fail;generalize cn:w6.setCell ⟨F,3,none⟩ (N m)=z at *;have c0:=af J 0 rfl;have c2:=af J 2 rfl;have c3:=af J 3 rfl;have i1:=aA (1032*(m:Int)) ω;have i2:=aA (1032*(m:Int)+64) ω;by_cases A:1032*m+64<o;·have ah:=ad (R.out.trans (an A));have j1:1032*(m:Int)+64<(o:Int):=ω;have Z:=ad (λW (h:Fr z W)=>bk.out 6 sP W (a4.fr h));go_quiet (fail);have q:Fr z (z.drewN nq):=(Fr.refl z).drewN nq;have e0:=q.cell c0;have b1:=ad (Z.out _ q);have b2:=q.heap J;have b3:=a5.trans (q.chg (λk=>k=B)) (λ_ _ h=>.inl h);go_wp2_with fail;apply b1.z;rintro e w9 ⟨rfl,b4,a6⟩;have b5:=a6.heap b2 p;go_wp2;go_end0;rw[ah.out];exact⟨rfl,b5,b4,b3.trans a6 λ_ _ h=>.inl h⟩
  ·have ah:=ad (R.out.trans (ae A));have j1:¬1032*(m:Int)+64<(o:Int):=ω;go_quiet (fail);have q:Fr z (z.drewN nq):=(Fr.refl z).drewN nq;go_wp2;go_end0;rw[ah.out];exact⟨rfl,q.heap J,a4.fr q,a5.trans (q.chg (λk=>k=B)) (λ_ _ h=>.inl h)⟩
def NO(b:U0):(dY b).2.at_<=b.length:=by
 have d:(dr b).2.at_<=b.length:=Cs.take_le _ _ _ (ax _);have f:(kC b).at_<=b.length:=by
  unfold kC;split
  ·unfold Cs.fail;split;·exact d
   ·exact d
  ·exact d
 have h:(bH b).2.at_<=b.length:=Cs.int_le _ _ _ f;have e:(bV b).2.at_<=b.length:=Cs.int_le _ _ _ h;have m:(ey b).at_<=b.length:=by
  unfold ey;split
  ·unfold Cs.fail;split;·exact e
   ·exact e
  ·exact e
 exact Cs.take_le _ _ _ (Cs.take_le _ _ _ m)
def NU(F B base:Nat)(v:Value)(b:U0)(d w:World)(X:ao d eB v b)(a3:Fr d w)(ca:d.heap.size<=B)(cb:d.heap.size<=F)(G:w.heap[F]?=some (jR B (dr b).1 (bH b).1 (bV b).1 (.slice none 0 0)))(Y:aw w 247 B base b (ey b).at_ (ey b).er)(I:F≠B)(hl:b.length<=1000000)(hb:base<=w.heap.size)(ht:dm d):Calls prog 193 #[.pointer (some ⟨F,0,none⟩),v] w λe w'=>∃u,e=.returned (.tuple #[])/\w'.heap[F]?=some (jR B (dr b).1 (bH b).1 (bV b).1 u)/\Ow w' w.heap.size eB u (cy b).1/\aw w' 247 B base b (dY b).2.at_ (fJ b)/\ag (λk=>k=B\/k=F) w w':=by
 have Z:=ad (λk s W (h:aw W 247 B base b s.at_ s.er) m=>yW B base k s b W h hl m);have b1:=ad (λn o W (h:aw W 247 B base b n o)=>jg B base n o b W h);have b2:=ad (λn o W (h:aw W 247 B base b n o)=>sy B base n o b W h);have a5:=ad (λo s W (h:aw W 247 B base b s.at_ s.er)=>sw o B base s b W h);have a6:Hid (∀W,aw W 247 B base b (ey b).at_ (ey b).er->base<=W.heap.size->Calls prog 177 #[.pointer (some ⟨B,0,none⟩),N (bV b).1] W λe w'=>∃u,e=.returned u/\Ow w' W.heap.size eB u (cy b).1/\aw w' 247 B base b (cy b).2.at_ (cy b).2.er/\ag (λb=>b=B) W w'):=λW h m=>Z.out _ _ W h m;have a7:Hid (∀W,aw W 247 B base b (cy b).2.at_ (cy b).2.er->base<=W.heap.size->Calls prog 177 #[.pointer (some ⟨B,0,none⟩),N 4] W λe w'=>∃u,e=.returned u/\Ow w' W.heap.size eB u (dY b).1/\aw w' 247 B base b (dY b).2.at_ (dY b).2.er/\ag (λb=>b=B) W w'):=λW h m=>Z.out _ _ W h m;have b3:=NO b;have hE:fJ b=if(dY b).2.er=0 then cM (b.take (dY b).2.at_)else(dY b).2.er:=rfl;have a9:=ad (λW (h:Fr d W) v' (m:ao W eB v' (b.take (dY b).2.at_))=>qC v' _ W m (by rw[aP];omega) (ht.fr h));have HS:=ad X;have cc:=Y.lt;obtain⟨a0,ch,rfl,ci,b5,_⟩:=X.shape;unfold maxLen at b5;have c0:=af G 0 rfl;have c3:=af G 3 rfl;have ba:=ad (a6.out w.drew (Y.fr (Fr.refl w).drew) hb);have J:=ad hE;clear X Y Z a6 hE;generalize (dY b).2=sT,(dY b).1=U4,(cy b).2=sB,(cy b).1=U,(bV b).1=xp,(bH b).1=xn,(dr b).1=xw,fJ b=E at *;go_in;go_upto_region 0 with fail;go_cut []from 6 to 17 (λK=>∃u,K.heap[F]?=some (jR B xw xn xp u)/\Ow K w.heap.size eB u U/\aw K 247 B base b sB.at_ sB.er/\ag (λk=>k=B\/k=F) w K)
 ·
  go_region_with (go_at_call 177; refine ba.out.mono ?_; rintro e w2 ⟨u, rfl, hU, b7, bb⟩
                  obtain ⟨L, M, rfl⟩ := hU.shape'
                  have q := bb.heap (show w.drew.heap[F]? = _ from G) I
                  have d2 := af q 4 rfl
                  have z2 := aB q 4)
  all_goals go_wp2_with fail
  all_goals go_meet
  all_goals exact⟨_,aI q 4 (.slice L U.length M),hU.chg (ay w2 ⟨F,4,none⟩ (.slice L U.length M)) (hU.nB q δ),b7.box q δ (jj I) (ay w2 ⟨F,4,none⟩ (.slice L U.length M)),(((Fr.refl w).drew.chg (λk=>k=B\/k=F)).trans bb (λ_ _ h=>.inl h)).trans (ay w2 ⟨F,4,none⟩ (.slice L U.length M)) (λ_ _ h=>.inr h)⟩
 ·
  obtain⟨u,ac,ah,ai,aj⟩:=hcut;have bc:base<=wc.heap.size:=ar hb aj.size;have c3:=af ac 0 rfl;have bd:=ad (a7.out wc ai bc);have O:=ai.cbox;clear ba a7 c0 G ai bc;go_wp2_with fail;apply bd.z;rintro e w4 ⟨u4,rfl,_,z,Q⟩;have R:=Q.heap ac I;have ak := ah.chg Q (fun i hi e => by
    obtain ⟨cs, h5⟩ := O
    exact ah.ne_cells h5 δ (by rw[hi, show i = B from e]))
  have ap:=aj.trans Q (λ_ _ h=>.inl h);have c4:=af R 0 rfl;have V:=ad (b1.out _ _ w4 z);clear bd c3 ac ah aj Q O;by_cases D:sT.er=0
  ·have av:((sT.er:Nat):Int)=0:=(by omega);have az:=ad (J.out.trans (an D));have bf:=ad (b2.out _ _ w4 z);have bk:Fr d w4:=ag.below a3 ap a3.size (fun i e=>by rcases e with e | e <;> omega);obtain⟨cm,bl⟩:=gw eB 22 sJ (HS.out.fr bk) sT.at_ b3;have a1:=ad (a9.out w4 bk _ bl);have bm:=ad (fun W (h:aw W 247 B base b sT.at_ sT.er)=>a5.out E sT W h);have bq:Hid ((sT.fail E).at_=sT.at_/\(sT.fail E).er=E):=(by show _/\_;unfold Cs.fail;rw [an D];exact⟨rfl,rfl⟩);rw [av]at V;rw [<- az.out]at a1;clear J D av a9 a5 bl;generalize cM (b.take sT.at_)=ec at *;go_wp2_with fail;apply V.z;rintro e w5 ⟨rfl,rfl⟩;clear V;go_wp2_with fail;apply bf.z;rintro e w5 ⟨rfl,rfl⟩;clear bf;go_wp2_with fail;apply a1.z;rintro e w6 ⟨u6,rfl,bt,p⟩;obtain⟨p6,z6,rfl⟩:=bt.shape';have bG:=p.heap R;have c6:=p.cell c4;have bL:=ad (bm.out w6 (z.fr p));have bu:=ak.fr p;have bR:=ap.trans (p.chg (fun k=>k=B)) (fun _ _ h=>.inl h);have O:=z.cbox;clear a1 bm bt ak R c4;go_wp2_with fail;apply bL.z;rintro e w7 ⟨rfl,bv,a2⟩;rw [bq.out.1,bq.out.2]at bv;have bS:=a2.heap bG I;have bT := bu.chg a2 (fun i hi e => by
     obtain ⟨cs, h5⟩ := O
     exact bu.ne_cells (p.heap h5) δ (by rw[hi, show i = B from e]))
   go_wp2;go_end0;exact⟨u,rfl,bS,bT,bv,bR.trans a2 (λ_ _ h=>.inl h)⟩
  ·have av:¬((sT.er:Nat):Int)=0:=ω;have az:=ad (J.out.trans (ae D));clear J D;go_wp2_with fail;apply V.z;rintro e w5 ⟨rfl,rfl⟩;go_wp2_with fail;(try simp only[Exit.inBlock,Exit.then]);refine aT (v:=.tuple #[]) (by simp[results,results193,go_sem]) rfl ?_;rw[az.out];exact⟨u,rfl,R,ak,z,ap⟩
def NZ(F B base:Nat)(u:Value)(b:U0)(w:World)(p:(dr b).1=0)(d:w.heap[F]?=some (jR B (dr b).1 (bH b).1 (bV b).1 u))(q:Ow w base eB u (cy b).1):Calls prog 194 #[.pointer (some ⟨F,0,none⟩)] w λe w'=>∃x,e=.returned (.tuple #[x,.int .i64 ((ej b).2:Int)])/\ao w' eB x (ej b).1/\Fr w w':=by
 have o:Hid (ej b=if(bH b).1=(bV b).1 then((cy b).1,0)else([],2)):=by show _=_;unfold ej;rw[an p]
 rw[p]at d;have D:=ad q.see;obtain⟨K,L,rfl⟩:=q.shape';clear p q;generalize (cy b).1=U,(bV b).1=xp,(bH b).1=xn,ej b=R at *;have M:=af d 1 rfl;have c2:=af d 2 rfl;have O:=af d 3 rfl;have G:=af d 4 rfl;have I:=ad (λm=>((Fr.refl w).drewN m).cell G);by_cases h:xn=xp;·have z:=ad (o.out.trans (an h));have A:(xn:Int)=(xp:Int):=ω;have J:((xn:Int) != (xp:Int))=false:=(by simp[A]);clear o d;go_in;go_wp2;go_quiet (fail);have Q:=I.out nq;go_wp2;go_ret2;rw[z.out];exact⟨_,rfl,D.out.fr ((Fr.refl w).drewN nq),(Fr.refl w).drewN nq⟩
 ·have z:=ad (o.out.trans (ae h));have A:¬(xn:Int)=(xp:Int):=ω;have J:((xn:Int) != (xp:Int))=true:=(by simpa using A);clear o d;go_in;go_wp2;go_quiet (fail);go_wp2;go_ret2;rw[z.out];exact⟨_,rfl,ao.nil,(Fr.refl w).drewN _⟩
def NK(v:Value)(b:U0)(w:World)(p:ao w eB v b)(A:b.length<=1000000)(ht:dm w)
  (HBy:Hid (∀F B base u W,W.heap[F]?=some (jR B (dr b).1 (bH b).1 (bV b).1 u)->Ow W base eB u (cy b).1->base<=W.heap.size->fJ b=0->Calls prog 194 #[.pointer (some ⟨F,0,none⟩)] W λe w'=>∃x,e=.returned (.tuple #[x,.int .i64 ((ej b).2:Int)])/\ao w' eB x (ej b).1/\Fr W w')) :
  Calls prog 130 #[v] w λe w'=>Fr w w'/\((fJ b≠0/\e=.returned (.tuple #[.pointer none,.slice none 0 0,.int .i64 (fJ b:Int)]))\/(fJ b=0/\∃F B x u,e=.returned (.tuple #[.pointer (some ⟨F,0,none⟩),x,.int .i64 ((ej b).2:Int)])/\ao w' eB x (ej b).1/\w'.heap[F]?=some (jR B (dr b).1 (bH b).1 (bV b).1 u)/\aw w' 247 B w.heap.size b (dY b).2.at_ 0)):=by
 have ab:=ad (nm v b w p A);have ac:=ad (λF B W D G I J=>NX F B w.heap.size b W D G I A J);have ah:=ad (λF B W D G I J h5 h6 h7=>NU F B w.heap.size v b w W p D G I J h5 h6 A h7 ht);have ai:=ad (λB n er W (h:aw W 247 B w.heap.size b n er)=>jg B w.heap.size n er b W h);obtain⟨a0,bd,rfl,_⟩:=p.shape;clear p ht;generalize ey b=sD,(bV b).1=xp,(bH b).1=xn,(dr b).1=xw,(dY b).2.at_=tat,ej b=O,fJ b=E at *;go_in;go_wp2_with fail;apply ab.z;rintro e d ⟨B,rfl,K,L,hB⟩;have be:=K.lt;have M:Fr d (d.alloc (.cells #[.pointer (some ⟨B,0,none⟩),.int .i64 0,.int .i64 0,.int .i64 0,.slice none 0 0] 189)):=(Fr.refl d).alloc _;have ak:(d.alloc (.cells #[.pointer (some ⟨B,0,none⟩),.int .i64 0,.int .i64 0,.int .i64 0,.slice none 0 0] 189)).heap[d.heap.size]?=some (jR B 0 0 0 (.slice none 0 0)):=aD _ _ _ rfl;have al:=K.fr M;have q:=L.trans M;have hF:w.heap.size<=d.heap.size:=L.size;have am:=ad (ac.out d.heap.size B _ ak al ω q.size);clear ab ac K ak al M L;go_wp2_with fail;apply am.z;rintro e Q ⟨rfl,ap,av,az⟩;have a9:d.heap.size≠B:=ω
 generalize d.heap.size=F at *;have o:Fr w Q:=ag.below q az q.size (λi e=>by rcases e with e | e <;> omega);have a1:=ad (ah.out F B Q o hB hF ap av a9 o.size);clear am ah ap av az q;go_wp2_with fail;apply a1.z;rintro e w4 ⟨u,rfl,R,a2,U,V⟩;have a3:Fr w w4:=ag.below o V o.size (λi e=>by rcases e with e | e <;> omega);have c4:=af R 0 rfl;have z:=ad (ai.out _ _ _ w4 U);have aC:Q.heap.size<=w4.heap.size:=V.size;clear a1 ai o V;by_cases m:E=0;·have X:((E:Nat):Int)=0:=ω;have ba:=ad (HBy.out F B _ u w4 R a2 aC m);rw[X]at z;rw[m]at U;have Y:=ad m;clear HBy m X a2;go_wp2_with fail;apply z.z;rintro e w5 ⟨rfl,rfl⟩;clear z;go_wp2_with fail;apply ba.z;rintro e w6 ⟨x,rfl,hx,Z⟩;obtain⟨px,zx,rfl,_⟩:=hx.shape;go_wp2;go_ret3;exact⟨a3.trans Z,.inr ⟨Y.out,F,B,_,u,rfl,hx,Z.heap R,U.fr Z⟩⟩
 ·have X:¬((E:Nat):Int)=0:=ω;have Y:=ad m;clear HBy m;go_wp2_with fail;apply z.z;rintro e w5 ⟨rfl,rfl⟩;go_wp2;go_ret3;exact⟨a3,.inl ⟨Y.out,rfl⟩⟩
def QS(v:Value)(b:U0)(w:World)(D:ao w eB v b)(Z:b.length<=1000000)(L:dm w)(M:(ej b).1.length<=1000000)
  (HBy:Hid (∀F B base u W,W.heap[F]?=some (jR B (dr b).1 (bH b).1 (bV b).1 u)->Ow W base eB u (cy b).1->base<=W.heap.size->fJ b=0->Calls prog 194 #[.pointer (some ⟨F,0,none⟩)] W λe w'=>∃x,e=.returned (.tuple #[x,.int .i64 ((ej b).2:Int)])/\ao w' eB x (ej b).1/\Fr W w')) :
  Calls prog 67 #[v] w λe w'=>∃u,e=.returned (.tuple #[u,N (bU b).2.1,.int .i64 ((bU b).2.2:Int)])/\Ow w' w.heap.size eB u (bU b).1/\Fr w w':=by
 have p:=ad (NK v b w D Z L HBy.out);have m:Hid (bU b=if fJ b=0 then(if(ej b).2=0 then((ej b).1,(dY b).2.at_,0)else([],0,(ej b).2))else([],0,fJ b)):=rfl;have Q:=ad (λB n U W (h:aw W 247 B w.heap.size b n U)=>sy B w.heap.size n U b W h);have G:=ad (λx W (h:ao W eB x (ej b).1)=>jY x _ W h M);obtain⟨a0,aj,rfl,_⟩:=D.shape;clear D L M HBy;generalize ej b=O,fJ b=E,bU b=R at *;obtain⟨ol,I⟩:=O;generalize (dY b).2.at_=al at *;simp only at p m G;go_in;go_wp2_with fail;apply p.z;rintro e q ⟨z,⟨d,rfl⟩ | ⟨d,F,B,x,u,rfl,V,X,hC⟩⟩;·have o:=ad (m.out.trans (ae d));have j1:¬((E:Nat):Int)=0:=ω;clear m d p;go_wp2;go_ret3;rw[o.out];exact⟨_,rfl,Ow.nil,z⟩
 ·have A:=ad (m.out.trans (an d));obtain⟨px,zx,rfl,_⟩:=V.shape;clear m p;by_cases h:I=0
  ·have o:=ad (A.out.trans (an h));have J:((I:Nat):Int)=0:=ω;rw[J];have c1:=af X 0 rfl;have ab:=ad (G.out _ q.drew V.drew);have ac:=ad (λW (h:Fr q W)=>Q.out B _ _ W (hC.fr h));clear A h J d G Q X;go_wp2_with fail
   go_region_held3 (λW => W.cell? ⟨F, 0, none⟩ = some (.pointer (some ⟨B, 0, none⟩)))
    (first | go_keep)
    ((first
      | (go_at_call 98; refine ab.out.mono ?_; rintro e w2 ⟨u2, rfl, Y, K⟩; obtain ⟨p2, z2, ah⟩ := Y.shape'; subst ah; have c2 := K.cell c1)
      | (go_at_call 131; refine (ac.out _ ((Fr.refl q).drew.trans K)).mono ?_; rintro e w3 ⟨rfl, rfl⟩)))
   go_wp2;go_ret3;rw[o.out];exact⟨_,rfl,Y.rebase z.size,z.trans ((Fr.refl q).drew.trans K)⟩
  ·have o:=ad (A.out.trans (ae h));have J:¬((I:Nat):Int)=0:=ω;clear A h d;go_wp2;go_ret3;rw[o.out];exact⟨_,rfl,Ow.nil,z⟩
def NP(b:U0):(cy b).1.length<=b.length:=by
 show((ey b).take b (bV b).1).1.length<=_;unfold Cs.take;split
 ·split;·exact ax _
  ·rw[aP,bn];omega
 ·exact ax _
def wF(d:Bool)(b:U0)(s:Cs):Nat × Cs:=if d=true then s.num b else(0,s)
def tD(d:Bool)(b:U0)(s:Cs):Nat × Cs:=if d=true then(wF d b s).2.byte b else(0,(wF d b s).2)
def gI(d:Bool)(b:U0)(s:Cs):U0 × Cs:=(tD d b s).2.text b 4000
def eW(d:Bool)(b:U0)(s:Cs):U0 × Cs:=(gI d b s).2.text b 4000
def gW(d:Bool)(b:U0)(s:Cs):aQ:=⟨UInt64.ofNat (wF d b s).1,UInt8.ofNat (tD d b s).1,(gI d b s).1,(eW d b s).1⟩
def iM(d:Bool)(b:U0):Nat->Cs->List aQ->List aQ × Nat
 | 0,s,e=>(e,s.er)
 | f+1,s,e=>
  if b.length<=s.at_ then(e,0)
  else if(eW d b s).2.er=0 then iM d b f (eW d b s).2 (e++[gW d b s])
  else([],(eW d b s).2.er)
def eT(d:Bool)(b:U0):List aQ × Nat:=iM d b b.length ⟨0,0⟩ []
def Bv(e:Bool)(b:U0)(f:Nat)(s:Cs)(d:List aQ)(h:b.length<=s.at_)(m:s.er=0):iM e b f s d=(d,0):=by
 cases f with
 | zero=>rw[iM,m]
 | succ f=>rw[iM,an h]
def Bu(d:Bool)(b:U0)(f:Nat)(s:Cs)(e:List aQ)(h:s.at_<b.length)(m:(eW d b s).2.er=0):iM d b (f+1) s e=iM d b f (eW d b s).2 (e++[gW d b s]):=by
 rw[iM,ae ω,an m]
def Bw(d:Bool)(b:U0)(f:Nat)(s:Cs)(e:List aQ)(h:s.at_<b.length)(m:¬(eW d b s).2.er=0):iM d b (f+1) s e=([],(eW d b s).2.er):=by
 rw[iM,ae ω,ae m]
def Cs.step_er(s:Cs)(r:Nat × Nat × Nat)(h:(s.step r).er=0):s.er=0/\r.2.2=0/\(s.step r).at_=s.at_+r.2.1:=by
 unfold Cs.step at *;by_cases d:s.er=0
 ·rw[an d]at h ⊢;by_cases e:r.2.2=0;·rw[an e];exact⟨d,e,rfl⟩
  ·rw[ae e]at h;exact absurd h e
 ·rw[ae d]at h;exact absurd h d
def Cs.text_up(s:Cs)(l:U0)(d:Nat)(h:(s.text l d).2.er=0):s.er=0/\s.at_<(s.text l d).2.at_/\(s.text l d).1.length<=d:=by
 obtain⟨e,f,m⟩:=Cs.step_er s _ h;have o:=sU d (l.drop s.at_) f;refine⟨e,?_,?_⟩;·show s.at_<(s.step _).at_;rw[m];show s.at_<s.at_+(fy d (l.drop s.at_)).2.1;omega
 ·show(if s.er=0 then _ else _:U0).length<=d;rw[an e];exact o.2.2
def Cs.num_up(s:Cs)(l:U0)(h:(s.num l).2.er=0):s.er=0/\s.at_<=(s.num l).2.at_:=by
 obtain⟨d,f,e⟩:=Cs.step_er s _ h;exact⟨d,by show s.at_<=(s.step _).at_;rw[e];exact uU _ _⟩
def Cs.byte_up(s:Cs)(l:U0)(h:(s.byte l).2.er=0):s.er=0/\s.at_<=(s.byte l).2.at_:=by
 have e:(s.take l 1).2.er=0:=h;show s.er=0/\s.at_<=(s.take l 1).2.at_;unfold Cs.take at *;by_cases d:s.er=0
 ·rw[an d]at e ⊢;refine⟨d,?_⟩;split;·exact au _
  ·exact uU _ _
 ·rw[ae d]at e;exact absurd e d
def wE(d:Bool)(b:U0)(s:Cs)(h:(eW d b s).2.er=0):s.er=0/\s.at_<(eW d b s).2.at_/\(gI d b s).1.length<=4000/\(eW d b s).1.length<=4000:=by
 obtain⟨f,m,o⟩:=Cs.text_up _ _ _ h;obtain⟨e,p,q⟩:=Cs.text_up _ _ _ f;have I:(gI d b s).2.at_<(eW d b s).2.at_:=m;have J:(tD d b s).2.at_<(gI d b s).2.at_:=p;have z:s.er=0/\s.at_<=(tD d b s).2.at_:=by
  cases d;·exact⟨e,au _⟩
  ·obtain⟨A,D⟩:=Cs.byte_up _ _ e;obtain⟨F,G⟩:=Cs.num_up _ _ A;exact⟨F,ar G D⟩
 exact⟨z.1,ω,q,o⟩
def B5(d:Bool)(b:U0)(s:Cs)(h:s.at_<=b.length):(eW d b s).2.at_<=b.length:=by
 refine Cs.text_le _ _ _ (Cs.text_le _ _ _ ?_);cases d;·exact h
 ·exact Cs.take_le _ _ _ (Cs.num_le _ _ h)
def rp(b:U0):U0 × Nat:=
 if (eE b).2 = 0 then
  (if(eE b).1=1 then(if cM b=0 then(if(aY b).length<5 then([],1)else((aY b).drop 5,0))else([],cM b))else([],4))
 else([],(eE b).2)
def xe(x:U0):Nat × Cs:=(⟨0,0⟩:Cs).int x 32768
def wZ(x:U0):Nat × Cs:=(xe x).2.byte x
def Ka(x:U0):Cs:=if 1<(wZ x).1 then(wZ x).2.fail 2 else(wZ x).2
def wY(x:U0):Nat × Cs:=(Ka x).int x 20000
def rH(x:U0):Nat × Cs:=(wY x).2.int x (wY x).1
def Cd(x:U0):Nat:=if(rH x).2.er=0 then(if 16<=(xe x).1/\(xe x).1<=32768 then 0 else 9)else(rH x).2.er
def mP(x:U0):Nat->Cs
 | 0=>(rH x).2
 | i+1=>((mP x i).take x (bU (x.drop (mP x i).at_)).2.1).2
def tM(x:U0)(i:Nat):List aQ × Nat:=
 if (bU (x.drop (mP x i).at_)).2.2 = 0 then
  (if (eT true (bU (x.drop (mP x i).at_)).1).2 = 0 then (if (eT true (bU (x.drop (mP x i).at_)).1).1 = [] then ([], 2) else eT true (bU (x.drop (mP x i).at_)).1)
   else ([], (eT true (bU (x.drop (mP x i).at_)).1).2))
 else([],(bU (x.drop (mP x i).at_)).2.2)
def Cc(x:U0):Nat->Nat->List aQ->List aQ × Nat
 | 0,_,d=>(d,0)
 | k+1,i,d=>if(tM x i).2=0 then Cc x k (i+1) (d++(tM x i).1)else([],(tM x i).2)
def rI(x:U0):List aQ × Nat:=Cc x (rH x).1 0 []
def JY(x:U0):List aQ × Nat:=
 if (rI x).2 = 0 then
  (if 0<x.length-(mP x (rH x).1).at_\/(rI x).1.length≠(wY x).1 then([],2)else if gZ (rI x).1=true then((rI x).1,0)else([],6))
 else([],(rI x).2)
def Ry(b:U0):Nat:=if(rp b).2=0 then(if Cd (rp b).1=0 then(JY (rp b).1).2 else Cd (rp b).1)else(rp b).2
def uo(B:Nat)(wr:World):Nat:=match wr.heap[B]? with | some (.cells cs _ _)=>(if intOf (cs.getD 2 undef)=0 then 1 else 0) | _=>0
def DO{w:World}{B base n d:Nat}{T:TypeId}{l:U0}(h:aw w T B base l n d):uo B w=if d=0 then 1 else 0:=by
 obtain⟨⟨v,e,_⟩,_⟩:=h;unfold uo;rw[e];simp[intOf]
def CU(l:U0)(h:0<l.length):l.getLastD 0=l[l.length-1]:=by
 rw[List.getLastD_eq_getLast?,List.getLast?_eq_getElem?,cQ ω];rfl
def xF(b:U0)(n:Nat)(s:Cs)(d:U0):(fF b n s d).1<=n-d.length:=by
 show Cs.val _ _<=_;unfold Cs.val;split;·rename_i h;exact(jN _ _ h.2).2.2
 ·exact ax _
def C2(b:U0)(s:Cs):lI b s<256:=by
 exact iH _
def KO(B base n:Nat)(D:Cs)(b:U0)(w:World)(hc:aw w 247 B base b D.at_ D.er)(hl:b.length<=1000000)(hn:n<=20000)(es:base<=w.heap.size):Calls prog 186 #[.agg #[.pointer (some ⟨B,0,none⟩)],N n] w λe w'=>∃u,e=.returned u/\Ow w' w.heap.size eB u (ex b n n D []).1/\aw w' 247 B base b (ex b n n D []).2.at_ (ex b n n D []).2.er/\ag (λk=>k=B) w w':=by
 have cl:=ad (λs W (h:aw W 247 B base b s.at_ s.er) hW=>F0 B base s b W h hl hW);have cn:=ad (λbk (hm:bk<9223372036854775808) s W (h:aw W 247 B base b s.at_ s.er)=>pp bk hm B base s b W h hl);have bl:=ad (λn er W h=>jg B base n er b W h);have cr:=ad (λs W (h:aw W 247 B base b s.at_ s.er)=>sw 2 B base s b W h);obtain⟨R,hR⟩:∃R,R=ex b n n D []:=⟨_,rfl⟩;rw[<- hR];have q:=ad hR;clear hR;have ev:=hc.lt;have bm:(w.alloc (.cells #[.pointer (some ⟨B,0,none⟩)] 191)).heap[w.heap.size]?=some (.cells #[.pointer (some ⟨B,0,none⟩)] 191 (0,0)):=aD _ _ _ rfl;have a0:Fr w (w.alloc (.cells #[.pointer (some ⟨B,0,none⟩)] 191)):=(Fr.refl w).alloc _;have bq:w.heap.size+1<=(w.alloc (.cells #[.pointer (some ⟨B,0,none⟩)] 191)).heap.size:=σ
 have bs:=hc.fr a0;clear hc;go_in;go_wp2_with fail;generalize w.alloc (.cells #[.pointer (some ⟨B,0,none⟩)] 191)=W0 at *;generalize hg:w.heap.size=g at *;go_loopw [5] (λov wr=>∃(f:Nat) (s:Cs) (d:U0),d.length<=n/\(s.er=0->n<=d.length+f)/\Ow wr (g+1) eB ov d/\aw wr 247 B base b s.at_ s.er/\wr.heap[g]?=some (.cells #[.pointer (some ⟨B,0,none⟩)] 191 (0,0))/\ag (λk=>k=B) w wr/\g+1<=wr.heap.size/\Hid (R=ex b n f s d)) (λov wr=>(n-(match ov with | .slice _ m _=>m | _=>0))*2+uo B wr);·exact⟨n,D,[],ax _,λ_=>by simp,Ow.nil,bs,bm,a0.chg _,bq,q.out⟩
 ·
  clear bs bm a0 bq q;obtain⟨f,s,d,e2,a2,O,hC,hG,Z,hz,q⟩:=hrel;obtain⟨oa,oc,rfl⟩:=O.shape';have c0:=af hG 0 rfl;have a4:B≠g:=ω;have c1:base<=wr.heap.size:=(by have:=Z.size;omega);by_cases bt:d.length<n
  ·have i1:(d.length:Int)<n:=ω;have aa:=ad (bl.out s.at_ s.er wr hC);by_cases F:s.er=0
   ·obtain⟨f2,rfl⟩:∃f2,f=f2+1:=⟨f-1,by have:=a2 F;omega⟩;have Q:Hid (R=ex b n f2 (mT b n s d) (d++List.replicate (fF b n s d).1 (UInt8.ofNat (lI b s)))):=(by show _=_;rw[q.out,ex,an ⟨bt,F⟩]);have a5:=ad (cl.out s wr hC c1);have c5:uo B wr=1:=(by rw[DO hC,an F]);rw[F]at aa;have e3:=xF b n s d;have e4:=C2 b s;have HX:Hid (lI b s=(s.byte b).1):=rfl;have bv:Hid (fF b n s d=(s.byte b).2.int b (n-d.length)):=rfl;have bx:Hid (mT b n s d=if(fF b n s d).2.er=0/\((fF b n s d).1=0\/(0<d.length/\(d.getLastD 0).toNat=lI b s))then⟨(fF b n s d).2.at_,2⟩else(fF b n s d).2):=rfl;have a6:=ad (λW h=>cn.out (n-d.length) ω (s.byte b).2 W h);have e7:IntKind.i64.wrap ((n:Int)-d.length)=((n-d.length:Nat):Int):=(by rw[aA _ ω];omega);have b0:=ad (λW h=>cr.out (fF b n s d).2 W h);have b1:Hid ((fF b n s d).2.er=0->(fF b n s d).2.fail 2=⟨(fF b n s d).2.at_,2⟩):=λh=>(by unfold Cs.fail;rw[an h]);rw[<- HX.out]at a5;rw[<- bv.out]at a6;have e8:=a2 F;have HO:=ad O;have HG:=ad hG;have e9:=hC.cbox;clear O hC hG F q a2 HX bv;generalize (s.byte b).2=s1,lI b s=x,(fF b n s d).2=s2,(fF b n s d).1=k,mT b n s d=G at *;go_wp2_with fail;apply aa.z;rintro e w1 ⟨rfl,rfl⟩;go_wp2_with fail;apply a5.z;rintro e w2 ⟨rfl,c8,a8⟩;have b3:=ad (a6.out w2 c8);have a9:=a8.heap HG.out (λe=>a4 e.symm);have c2:=af a9 0 rfl;clear a5 aa a6;go_wp2_with fail;apply b3.z;rintro e w3 ⟨rfl,ah,aC⟩;have ai:=a8.trans aC λ_ _ h=>h;have U:=HO.out.chg ai (HO.out.nL ω);have aj:=aC.heap a9 (λe=>a4 e.symm);have c3:=af aj 0 rfl;have ba:=Z.trans ai λ_ _ h=>h;have bb:=ar hz ai.size;have K:=ad (bl.out s2.at_ s2.er w3 ah);have bc:=ad (b0.out w3 ah);clear b3 c2 a9 ai a8 aC b0 HO HG c0;obtain⟨p,V⟩:∃p:Bool,p=decide (s2.er=0/\(k=0\/(0<d.length/\(d.getLastD 0).toNat=x))):=⟨_,rfl⟩;have bd:Hid (G=if p=true then⟨s2.at_,2⟩else s2):=(by show _=_;rw[bx.out,V];simp only[iU]);have cB:Hid (k=0->s2.er=0->p=true):=λh1 h2=>(by rw[V];exact bz ⟨h2,.inl h1⟩);have b4:Hid (p=true->s2.er=0):=λh=>(by rw[V]at h;exact(mw h).1);have L:=ad V;clear V bx;go_upto_region 5 with fail;go_cut [50]from 28 to 50 (λcv I=>cv=.bool p/\w3=I)
    ·
     by_cases A:s2.er=0
     ·rw[A]at K;by_cases ak:k=0;·have o:Hid (p=true):=(by show _=_;rw[L.out];exact bz ⟨A,.inl ak⟩);subst ak;clear A;go_wp2_with fail;apply K.z;rintro e w4 ⟨rfl,rfl⟩;go_wp2;go_meet;exact⟨by rw[o.out],rfl⟩
      ·have cF:¬(k:Int)=0:=ω;have eC:((k:Int) == 0)=false:=(by rw[mz];exact cF);by_cases X:0<d.length;·obtain⟨b5,o5,p5,cR,e5⟩:=U.see.cell1 Fk.u8 rfl (d.length-1) ω;have b7:=CU d X;cases cR;have e6:w3.cell? ⟨b5,o5+(d.length-1),none⟩=some (.int .u8 (d[d.length-1].toNat:Int)):=e5;rw[<- b7]at e6;have l0:(0:Int)<d.length:=ω;have l1:=aA ((d.length:Int)-1) ω;have l2:(0:Int)<=(d.length:Int)-1:=ω;have l3:((d.length:Int)-1).toNat=d.length-1:=ω;have l4:(d.length:Int)-1<d.length:=ω;have o:Hid (p=decide ((d.getLastD 0).toNat=x)):=(by show _=_;rw[L.out];simp[A,ak,X]);clear e5 b7 L;generalize (d.getLastD 0).toNat=z at *;have b9:((z:Int) == x)=decide (z=x):=(by rw[qW];simp;omega);have db:=ad b9;clear b9;clear A X;go_wp2_with fail;apply K.z;rintro e w4 ⟨rfl,rfl⟩;go_wp2;go_meet;exact⟨by rw[o.out,<- db.out],rfl⟩
       ·have o:Hid (p=false):=(by show _=_;rw[L.out];exact bw (λh=>h.2.elim ak λh=>X h.1));have l0:¬(0:Int)<d.length:=ω;clear A X;go_wp2_with fail;apply K.z;rintro e w4 ⟨rfl,rfl⟩;go_wp2;go_meet;exact⟨by rw[o.out],rfl⟩
     ·have o:Hid (p=false):=(by show _=_;rw[L.out];exact bw (λh=>A h.1));have dc:¬(s2.er:Int)=0:=ω;clear A;go_wp2_with fail;apply K.z;rintro e w4 ⟨rfl,rfl⟩;go_wp2;go_meet;exact⟨by rw[o.out],rfl⟩
    ·
     obtain⟨rfl,rfl⟩:=hcut;clear K L;go_upto_if 50 with fail;go_cut []from 51 to 54 (λI=>aw I 247 B base b G.at_ G.er/\Ow I (g+1) eB (.slice oa d.length oc) d/\I.heap[g]?=some (.cells #[.pointer (some ⟨B,0,none⟩)] 191 (0,0))/\ag (λk=>k=B) w I/\g+1<=I.heap.size/\Hid (k=0->G.er=0->False))
     ·
      cases p;·have o:Hid (G=s2):=ad (by rw[bd.out];rfl);go_wp2;go_meet;rw[o.out];exact⟨ah,U,aj,ba,bb,λJ h1=>by have:=cB.out J h1;cases this⟩
      ·have o:Hid (G=⟨s2.at_,2⟩):=ad (by rw[bd.out];rfl);have bC:=b1.out (b4.out rfl);rw[bC,<- o.out]at bc;clear bC;go_wp2_with fail;apply bc.z;rintro e w4 ⟨rfl,al,am⟩;go_wp2;go_meet;exact⟨al,U.chg am (U.nL ω),am.heap aj (λe=>a4 e.symm),ba.trans am λ_ _ h=>h,ar bb am.size,λ_ h=>by rw[o.out]at h;cases h⟩
     ·
      obtain⟨al,bG,bL,bR,bS,bT⟩:=hcut;clear ah U aj ba bb bc b1 b4 bd c3;have dd:(UInt8.ofNat x).toNat=x:=(by rw[lk];omega);have ca:ao (wc.alloc (.cells #[.int .u8 (x:Int)] 5)) eB (.slice (some ⟨wc.heap.size,0,none⟩) 1 1) [UInt8.ofNat x]:=lV eB wc [UInt8.ofNat x] _ _ 1 rfl (mo x ω) (by simp[maxLen]);have cb:=ad (OS (UInt8.ofNat x) k ω _ _ ca);have dj:Fr wc (wc.alloc (.cells #[.int .u8 (x:Int)] 5)):=(Fr.refl wc).alloc _;clear ca dd;generalize UInt8.ofNat x=xb at *;go_wp2_with fail;generalize dk:wc.alloc (.cells #[.int .u8 (x:Int)] 5)=W5 at *;apply cb.z;rintro e w6 ⟨v6,rfl,cf,ds⟩;have Y:=dj.trans ds;have ap:=bG.fr Y;have dv:=al.fr Y;have ch:=Y.heap bL;have ci:=ar bS Y.size;have dz:ag (λk=>k=B) w w6:=bR.trans (Y.chg _) λ_ _ h=>h;have dE:Hid (d.length+(List.replicate k xb).length<=2147483648):=(by show _<=_;rw[jF];omega);have dT:=ad cf;clear bG al bL bR bS cb dk cf;go_wp2_with (at_builtin;refine fT eB rfl (.tmp 54) (.tmp 58) 22 rfl sJ (g+1) rfl ap _ _ rfl dT.out.see dE.out ci ?_);intro v8 w8 M;have cj:=dv.behind ap M ω;have ec:=M.chg'.heap ch (λe=>ap.ne_cells ch δ e);have ef:ag (λi=>i=B) w w8:=dz.trans M.chg' λi hi e=>(by have:=(ap.lt i e).1;omega);have ek:=ar ci M.size;obtain⟨va,vc,ck⟩:=M.own.shape';rw[aM,jF]at ck;subst ck;have em:=DO cj;go_wp2;go_roundw
      case rel => exact ⟨f2, G, d ++ List.replicate k xb, by rw [aM, jF]; omega, fun h => by
        have := bT.out;rw[aM, jF];rcases kJ k with J | J;·exact absurd h (λh => this J h)
        · omega, M.own, cj, ec, ef, ek, Q.out⟩
      ·
       rw[em,c5];show(n-(d.length+k))*2+_<(n-d.length)*2+1;rcases kJ k with J | J;·rw[ae (λh=>bT.out J h)];omega
       ·split <;> omega
   ·have Q:Hid (R=(d,s)):=by
      show _=_;rw[q.out]
      cases f with
      | zero=>rfl
      | succ f=>rw[ex,ae (λh=>F h.2)]
    have dc:¬(s.er:Int)=0:=ω;clear q;go_wp2_with fail;apply aa.z;rintro e w1 ⟨rfl,rfl⟩;go_wp2;go_ret;rw[Q.out];exact⟨_,rfl,O.rebase ω,hC,Z⟩
  ·have Q:Hid (R=(d,s)):=by
     show _=_;rw[q.out]
     cases f with
     | zero=>rfl
     | succ f=>rw[ex,ae (λh=>bt h.1)]
   have i1:¬(d.length:Int)<n:=ω;clear q;go_wp2;go_ret;rw[Q.out];exact⟨_,rfl,O.rebase ω,hC,Z⟩
def pP{d:Func}{t u v x:Tmp}(h:d.results=#[.tmp t,.tmp u,.tmp v,.tmp x])(tmps:Array Value)(P:Program)(w:World):(results d tmps).run P w=.ok (.tuple #[tmps.getD t undef,tmps.getD u undef,tmps.getD v undef,tmps.getD x undef]) w:=by
 simp[results,h]
def rM(b:U0)(n f:Nat)(s:Cs)(d:U0)(h:¬s.er=0):ex b n f s d=(d,s):=by
 cases f with
 | zero=>rfl
 | succ f=>rw[ex,ae (λe=>h e.2)]
def OU(n:Nat)(X:n<=20000)(v:Value)(b:U0)(w:World)(D:ao w eB v b)(F:b.length<=1000000):Calls prog 125 #[N n,v] w λe w'=>∃u t,e=.returned (.tuple #[u,t,N (dq n b).2.2.1,.int .i64 ((dq n b).2.2.2:Int)])/\Ow w' w.heap.size eQ u (dq n b).1/\Ow w' w.heap.size eB t (dq n b).2.1/\Fr w w':=by
 have Y:=ad (nm v b w D F);have Z:=ad (λB base W (h:aw W 247 B base b 0 0)=>Iy B base n ⟨0,0⟩ b W h F X);have aa:=ad (λB base s W (h:aw W 247 B base b s.at_ s.er) hb=>KO B base n s b W h F X hb);have az:=ad (λB base n G W h=>jg B base n G b W h);have a1:=ad (λB base n G W h=>sy B base n G b W h);have m:Hid (dq n b=if(ex b n n (ep b n ⟨0,0⟩ 0 []).2 []).2.er=0 then((ep b n ⟨0,0⟩ 0 []).1,(ex b n n (ep b n ⟨0,0⟩ 0 []).2 []).1,(ex b n n (ep b n ⟨0,0⟩ 0 []).2 []).2.at_,0)else([],[],0,(ex b n n (ep b n ⟨0,0⟩ 0 []).2 []).2.er)):=rfl;have n1:¬(n:Int)<0:=ω
 have n2:¬(20000:Int)<n:=ω
 obtain⟨a0,bb,rfl,_⟩:=D.shape;clear D;generalize dq n b=R at *;generalize ep b n ⟨0,0⟩ 0 []=T at *;go_in;go_wp2_with fail;apply Y.z;rintro e d ⟨B,rfl,hC,ab,hB⟩;have bd:=hC.lt;have I:(d.alloc (.cells #[.pointer (some ⟨B,0,none⟩)] 191)).heap[d.heap.size]?=some (.cells #[.pointer (some ⟨B,0,none⟩)] 191 (0,0)):=aD _ _ _ rfl;have J:Fr d (d.alloc (.cells #[.pointer (some ⟨B,0,none⟩)] 191)):=(Fr.refl d).alloc _;have iP:=hC.fr J;have c0:(d.alloc (.cells #[.pointer (some ⟨B,0,none⟩)] 191)).cell? ⟨d.heap.size,0,none⟩=some (.pointer (some ⟨B,0,none⟩)):=by rw[aG I];rfl
 clear hC Y;have be:=J.size;have ac:B≠d.heap.size:=ω
 go_wp2_with fail;generalize d.alloc (.cells #[.pointer (some ⟨B,0,none⟩)] 191)=W0 at *;have ai:=ad (Z.out B _ W0 iP);apply ai.z;rintro e w2 ⟨u,rfl,o,K,p⟩;have L:=p.heap I (fun e=>ac e.symm);have c2:=af L 0 rfl;have bf:=p.size;have bk:=ab.size;have ak:=ad (aa.out B _ T.2 w2 K (by omega));obtain⟨ua,uc,rfl⟩:=o.shape';clear Z ai iP I c0;go_wp2_with fail;apply ak.z;rintro e q ⟨t,rfl,M,O,z⟩;have a3:=z.heap L (fun e=>ac e.symm);have c3:=af a3 0 rfl;have al := o.chg z (fun i hi e => by
   obtain ⟨cs, h5⟩ := K.cbox
   exact o.ne_cells h5 δ (by rw[hi, show i = B from e]))
 have am:ag (λb=>b=B) w q:=(((ab.trans J).chg (λb=>b=B)).trans p λ_ _ h=>h).trans z λ_ _ h=>h;have ap:Fr w q:=am.fr λk hk e=>by omega
 have Q:=ad (az.out B _ _ _ q O);have a6:=ad (a1.out B _ _ _ q O);have a7:=al.rebase (show w.heap.size<=W0.heap.size by omega);have a8:=M.rebase (show w.heap.size<=w2.heap.size by omega);obtain⟨ta,tc,rfl⟩:=M.shape';clear ak aa o K L c2 al M O p z am;generalize ex b n n T.2 []=V at *;by_cases A:V.2.er=0;·rw[an A]at m;have U:((V.2.er:Nat):Int)=0:=ω;rw[U]at Q;clear A U;go_wp2_with fail;apply Q.z;rintro e w4 ⟨rfl,rfl⟩;go_wp2_with fail;apply a6.z;rintro e w4 ⟨rfl,rfl⟩;go_wp2_with fail;refine aT (pP rfl _ _ _) rfl ?_;rw[m.out];exact⟨_,_,rfl,a7,a8,ap⟩
 ·rw[ae A]at m;have U:¬(V.2.er:Int)=0:=ω;clear A;go_wp2_with fail;apply Q.z;rintro e w4 ⟨rfl,rfl⟩;go_wp2_with fail;refine aT (pP rfl _ _ _) rfl ?_;rw[m.out];exact⟨_,_,rfl,Ow.nil,Ow.nil,ap⟩
def jw(l:U0)(k:Nat)(n:Nat):List Nat:=(List.range n).map λi=>Fk.aF l (k*i) k
def tU(l:U0)(k n:Nat):(jw l k n).length=n:=by simp[jw]
def tV(l:U0)(k n i:Nat)(h:i<(jw l k n).length):(jw l k n)[i]=Fk.aF l (k*i) k:=by simp[jw]
def K8(B base n m k:Nat)(l:U0)(w:World)(z:ez w B base l n 0)(Z:l.length<=1000000)(hk:k<=14)(hm:m<=20000)(A:base<=w.heap.size)(hB:B<w.heap.size):Calls prog 292 #[.pointer (some ⟨B,0,none⟩),N m,N k] w λe w'=>∃u,e=.returned (.tuple #[u,.int .i64 ((if n<m*k then 1 else 0:Nat):Int)])/\(n<m*k->Qt w w')/\(m*k<=n->Ow w' w.heap.size eU u (jw l k m)/\ez w' B base l n (m*k)/\ag (λb=>b=B) w w'):=by
 have O:=ad (pr B base n 0 l w z Z);have b5:n<=8000000:=by have:=z.eq;omega
 have ab:m*k<=20000*14:=bo hm hk;have b6:IntKind.i64.wrap ((m:Int)*k)=((m*k:Nat):Int):=by rw[aA _ (by rw[<- kQQc];omega)];simp
 by_cases h:n<m*k;·rw[an h];have k3:(n:Int)<((m*k:Nat):Int):=ω;have G:=ad h;clear z h ab;generalize m*k=mk at *;go_in;go_wp2_with fail;apply O.z;rintro e d ⟨rfl,D⟩;go_wp2;go_ret2;exact⟨_,rfl,λ_=>D,λh=>absurd h (by have:=G.out;omega)⟩
 ·rw[ae h];have k3:¬(n:Int)<((m*k:Nat):Int):=ω;have HG:=ad (λi (Q:i<m) W (hW:ez W B base l n (i*k))=>Fu B base n (i*k) k l W hW Z ω);have U:Hid (∀i,i<m->¬n<i*k+k):=λi Q=>(by have o:(i+1)*k<=m*k:=cY _ ω;rw[ikQb]at o;omega);have a9:Hid (∀i,i*k+k=(i+1)*k):=λi=>(ikQb i k).symm;have aC:Hid (∀i,Fk.aF l (i*k) k<65536):=λi=>(by have o:=jt l (i*k) k;have h2:(2:Nat)^k<=2^14:=dn ω hk;omega);have ba:=ad (tU l k m);have bb:Hid (∀i (h:i<(jw l k m).length),(jw l k m)[i]=Fk.aF l (i*k) k):=λi h=>(by rw[tV,g7]);have bc:=mS eU rfl rfl 226 uAK .i64 .i64 m ω;have G:=ad h;have HC:=ad z;clear z h ab;generalize jw l k m=R at *;generalize hM:m*k=mk at *;have HM:=ad hM;clear hM;have hd:decide (n<mk)=false:=bw G.out;go_in;go_wp2_with fail;apply O.z;rintro e d ⟨rfl,D⟩;have aj:=HC.out.fr D.fr;have ak:=ad (nN (base:=d.heap.size) eU rfl rfl m ω d (au _));have V:Fr d (d.alloc (.cells (madeCells #[eU.z] m) eU.e)):=(Fr.refl d).alloc _;have al:=aj.fr V;have be:=D.fr.size;rw[show(eU:aJ prog Nat).e=234 from rfl]at *;generalize madeCells #[eU.z] m=T0 at *;have ap:d.heap.size<(d.alloc (.cells T0 234)).heap.size:=σ;go_wp2_with fail;generalize d.alloc (.cells T0 234)=w2 at *;have av:=D.fr.trans V;generalize bf:d.heap.size=q at *;have az:=ak.out;clear ak bc V aj HC O bf;go_loopw [22] (λX wr=>∃i:Nat,i<=m/\X=N i/\Ow wr q eU (.slice (some ⟨q,0,none⟩) m m) (R.take i++List.replicate (m-i) 0)/\ez wr B base l n (i*k)/\ag (λb=>b=B) w wr/\q<wr.heap.size) (λX _=>m-(intOf X).toNat);·exact⟨0,ax _,rfl,by simp only[oi,jl,Nat.sub_zero];exact az,by rw[qH];exact al,av.chg _,ap⟩
  ·
   clear az al av ap;obtain⟨i,Q,rfl,F,hC,a0,hz⟩:=hrel;have a1:R.length=m:=ba.out;by_cases p:i<m
   ·have Y:=ad (HG.out i p wr hC);rw[ae (U.out i p),ae (U.out i p),ae (U.out i p),a9.out]at Y;have HX:=ad (bb.out i ω);have hx:=aC.out i;have a2:=ug R (0:Nat) m i a1 Q;have I:∃cs,wr.heap[B]?=some (.cells cs 410 (0,0)):=(by obtain⟨⟨v,o,_⟩,_⟩:=hC;exact⟨_,o⟩);obtain⟨bR,I⟩:=I;have a3:q≠B:=λe=>F.ne_cells I δ (by rw[e];rfl);generalize Fk.aF l (i*k) k=x at *;have bS:IntKind.u16.wrap (x:Int)=(x:Int):=(by simp[IntKind.wrap,IntKind.bits,IntKind.signed];omega);have i1:(0:Int)<=i:=ω;have i2:(i:Int)<m:=ω;have HO:=ad F;clear F hC;go_wp2_with fail;apply Y.z;rintro e J ⟨rfl,bq,K⟩;have L:=HO.out.chg K (λb A e=>a3 (by simp[Value.ownBlock]at A;omega));obtain⟨k0,k1⟩:=L.cellAt (λn:Nat=>Value.int .u16 (n:Int)) rfl i (by rw[a2];exact p);have a4:=L.set (λn:Nat=>Value.int .u16 (n:Int)) rfl i (by rw[a2];exact p) x (.int .u16 (x:Int)) rfl;rw[uf R 0 m i a1 p _ HX.out]at a4;have M:=ay J ⟨q,i,none⟩ (.int .u16 (x:Int));have bs:ez (J.setCell ⟨q,i,none⟩ (.int .u16 (x:Int))) B base l n ((i+1)*k):=by
     obtain⟨⟨v,g1,g2⟩,g3,g4⟩:=bq;have bx:=M.heap g1 (λe=>a3 e.symm);have b0:v.ownBlock≠some q:=λe=>by
      rcases lE g2 L δ with h | h;·rw[h]at e;cases e
      ·exact h e
     exact⟨⟨v,bx,g2.chg M (λb A e=>b0 (by rw[A,show b=q from e]))⟩,g3,g4⟩
    have b1:ag (λb=>b=B) w (J.setCell ⟨q,i,none⟩ (.int .u16 (x:Int))):=(a0.trans K λ_ _ h=>h).trans (G':=λb=>b=q) M λb A e=>(by have e:b=q:=e;omega);have b2:q<(J.setCell ⟨q,i,none⟩ (.int .u16 (x:Int))).heap.size:=(by simp[World.setCell];have:=K.size;omega);clear L M K I Y;go_wp2;go_roundw;·exact⟨i+1,ω,γ,a4,bs,b1,b2⟩
    ·exact μ
   ·obtain rfl:i=m:=ω;have cf:¬((i:Int)<i):=ω;have b3:Ow wr w.heap.size eU (.slice (some ⟨q,0,none⟩) i i) R:=(by have o:=F.rebase be;rw[eA,uW,iJ,dN ω]at o;exact o);rw[HM.out]at hC;clear F;go_wp2;go_ret2;refine⟨.slice (some ⟨q,0,none⟩) i i,rfl,?_⟩;exact⟨λh=>absurd h G.out,λ_=>⟨b3,hC,a0⟩⟩
