/- Lemmas. -/
import Derived.Test.YtmcaneofjlhhmaaGreatDoorM08
import Derived.Deep.RegionHeldLaw
set_option linter.all false
set_option maxHeartbeats 8000000
set_option maxRecDepth 100000
namespace Go.Fk
abbrev pE:=@Int.tdiv_eq_ediv_of_nonneg
end Go.Fk
namespace Go.Proofs
open RowKit Fk Tryz
structure gC (w:World) (B base:Nat) (q:U0) (a:Nat):Prop where
 h:∃v,w.heap[B]?=some (.cells #[v,N a] 285 (0,0))/\Ow w base eB v q
 le:a<=q.length
def gC.fr{w w':World}{B base a:Nat}{q:U0}(h:gC w B base q a)(d:Fr w w'):gC w' B base q a:=by
 obtain⟨⟨v,e,f⟩,m⟩:=h;exact⟨⟨v,d.heap e,f.fr d⟩,m⟩
def NQ(c:UInt8)(k:Nat)(d:k<8):c.toNat / (128 / 2^k)%2=c.toNat / 2^(7-k)%2:=by
 have:128 / 2^k=2^(7-k):=by have h:k=0\/k=1\/k=2\/k=3\/k=4\/k=5\/k=6\/k=7:=ω;rcases h with rfl | rfl | rfl | rfl | rfl | rfl | rfl | rfl <;> rfl
 rw[this]
def CS:Op:=.load 22 (.tmp 22)
attribute [local go_sem] CS
def EU(v:Value)(l:U0)(w:World)(L:ao w eB v l)(hl:l.length<=1000000):Calls prog 215 #[v] w λe w'=>e=.returned (.pointer (some ⟨w.heap.size,0,none⟩))/\gC w' w.heap.size (w.heap.size+1) (aZ l) 0/\Fr w w':=by
 obtain⟨a0,b2,rfl,_⟩:=L.shape;have HS:=ad L;have HQ:=ad (Ja l);have HL:=ad (kT l);have ac:Hid ((aZ l).take (8*0)=[]):=rfl;have ah:(w.alloc (.cells #[.slice none 0 0,.int .i64 0] 285)).heap[w.heap.size]?=some (.cells #[.slice none 0 0,.int .i64 0] 285 (0,0)):=aD _ _ _ rfl;have ai:Fr w (w.alloc (.cells #[.slice none 0 0,.int .i64 0] 285)):=(Fr.refl w).alloc _;have aj:w.heap.size+1<=(w.alloc (.cells #[.slice none 0 0,.int .i64 0] 285)).heap.size:=σ
 clear L;generalize aZ l=Q at *;go_in;go_wp2_with fail;generalize w.alloc (.cells #[.slice none 0 0,.int .i64 0] 285)=W0 at *;have HW:Hid (∀W:World,Fr w W->w.heap.size<=W.heap.size):=λW h=>h.size;generalize hg:w.heap.size=g at *;go_loopw [4] (λM wr=>∃(i:Nat) (o:Value),i<=l.length/\M=N i/\wr.heap[g]?=some (.cells #[o,.int .i64 0] 285 (0,0))/\Ow wr (g+1) eB o (Q.take (8*i))/\Fr w wr/\g+1<=wr.heap.size) (λM _=>l.length-(intOf M).toNat);·exact⟨0,_,ax _,rfl,ah,by rw[ac.out];exact Ow.nil,ai,aj⟩
 ·
  clear ah ai aj;obtain⟨i,o,hi,rfl,q,p,d,z⟩:=hrel;by_cases a7:i<l.length
  ·obtain⟨b,O,cp,hv,c0⟩:=HS.out.cell1 Fk.u8 rfl i a7;cases hv;have d0:w.cell? ⟨b,O+i,none⟩=some (.int .u8 (l[i].toNat:Int)):=c0;have b7:=l[i].toNat_lt;have am:Hid (∀k,k<8->Q.take (8*i+(k+1))=Q.take (8*i+k)++[UInt8.ofNat (l[i].toNat / (128 / 2^k)%2)]):=λk I=>(by rw[show 8*i+(k+1)=(8*i+k)+1 from rfl,HQ.out _ ω,Ew l _ ω,NQ _ k I];simp only[show(8*i+k) / 8=i by omega,show(8*i+k)%8=k by omega]);clear c0;generalize l[i].toNat=c at *;have i1:(i:Int)<l.length:=ω;have i2:(0:Int)<=i:=ω;go_wp2;go_loopw [5,6] (λmv U wr=>∃(k m:Nat) (o:Value),k<=8/\U=N k/\mv=N m/\Hid (m=128 / 2^k)/\wr.heap[g]?=some (.cells #[o,.int .i64 0] 285 (0,0))/\Ow wr (g+1) eB o (Q.take (8*i+k))/\Fr w wr/\g+1<=wr.heap.size) (λ_ U _=>8-(intOf U).toNat);·exact⟨0,128,o,ax _,rfl,rfl,rfl,q,p,d,z⟩
   ·
    clear q p d z;obtain⟨k,m,o,I,rfl,rfl,D,q,p,d,z⟩:=hrel;by_cases ba:k<8
    ·have bG:1<=m:=(by rw[D.out];have h:k=0\/k=1\/k=2\/k=3\/k=4\/k=5\/k=6\/k=7:=ω;rcases h with rfl | rfl | rfl | rfl | rfl | rfl | rfl | rfl <;> decide);have bL:m<=128:=(by rw[D.out];exact il _ _);have bb:Hid (m / 2=128 / 2^(k+1)):=ad (by rw[D.out,sF,gE]);have ap:=ad (am.out k ba);rw[<- D.out]at ap;have k1:(k:Int)<8:=ω;have k2:¬(m:Int)=0:=ω;have av:c / m<=c:=il _ _;obtain⟨V,X⟩:∃V,V=c / m:=⟨_,rfl⟩;have Y:(c:Int) / m=(V:Int):=(by rw[X];simp);rw[<- X]at av;have az:Hid ((#[Value.int .u8 ((c:Int) / m%2)]:Array Value).toList=eB.cells [UInt8.ofNat (c / m%2)]):=(by show _=_;have:=mo (c / m%2) ω;rw[show((c / m%2:Nat):Int)=(c:Int) / m%2 by simp]at this;exact this);have q1:IntKind.i64.wrap (c:Int)=(c:Int):=aA _ ω;have q2:IntKind.i64.wrap ((c:Int) / m)=(c:Int) / m:=aA _ (by rw[Y];omega);have q3:((c:Int) / m).tmod 2=(c:Int) / m%2:=vk (by rw[Y];exact Int.natCast_nonneg _);have q4:=aA ((c:Int) / m%2) ω;have q5:IntKind.u8.wrap ((c:Int) / m%2)=(c:Int) / m%2:=(by rw[oy];omega);have q6:(c:Int).tdiv m=(c:Int) / m:=pE ω;have a1:Hid ((Q.take (8*i+k)).length+1<=2147483648):=(by show _<=_;rw[aP];omega);generalize Q.take (8*i+k)=J at *;have a2:=p;have a3:=p.drew;obtain⟨va,vc,rfl⟩:=p.shape';have be:∀j,(Value.slice va J.length vc).ownBlock=some j->g+1<=j:=λj h=>(p.lt j h).1;have A:∀W,Fr w W->W.cell? ⟨b,O+i,none⟩=some (.int .u8 (c:Int)):=λW h=>h.cell d0;have Z:Fr wr (wr.alloc (.cells #[.int .u8 ((c:Int) / m%2)] 5)):=(Fr.refl wr).alloc _;have e0:=af q 0 rfl;have ci:=Z.cell e0;have bk:=A wr.drew (Fr.drew d);have bl:=A _ (d.trans Z);have bm:=A _ (d.trans Z).drew;have bq:=A _ (d.drew.trans ((Fr.refl wr.drew).alloc (.cells #[.int .u8 ((c:Int) / m%2)] 5)));clear Y D am X av;generalize UInt8.ofNat (c / m%2)=x at *;go_upto_region 9 with fail;rw[show Op.load 22 (.tmp 22)=CS from rfl]
     go_region_held_law (λW => W.cell? ⟨b, O + i, none⟩ = some (.int .u8 (c : Int)))
      (first | exact bk | exact bl | exact bm | exact bq | exact bs | exact bt _ | go_keep)
      (((first | refine oD eB rfl (.tmp 23) (.tmp 33) 22 rfl sJ (g + 1) rfl a3 [x] _ _ _ az.out rfl rfl a1.out z ?_ | refine oB eB rfl (.tmp 23) (.tmp 33) 22 rfl sJ (g + 1) rfl a2 [x] _ _ _ az.out rfl rfl a1.out z ?_)
        intro v' w4 F
        have aa := F.own
        obtain ⟨bu, bv, a4⟩ := aa.shape'
        rw[show (J ++ [x]).length = J.length + 1 from by simp] at a4
        subst a4
        have K := F.chg'.heap (show wr.drew.heap[g]? = _ from q) (λe => by have := be g e; omega)
        have G : Fr w w4 := by first | exact F.below a3 (Fr.drew d) (by rw[hg]; omega) (Fr.drew d).size | exact F.below a2 d (by rw[hg]; omega) d.size
        have cj : g + 1 ≤ w4.heap.size := ar z F.size
        have e3 := af K 0 rfl
        have e4 : w4.frozen? ⟨g, 0, none⟩ = false := aB K 0
        have bs := A w4 G
        have bt := λ(u : Value) => A (w4.setCell ⟨g, 0, none⟩ u) (ag.below G (ay w4 ⟨g, 0, none⟩ u) G.size (λk e => by have e : k = g := e; omega))))
     all_goals go_wp2_with fail
     all_goals go_roundw
     all_goals first
      | (simp[intOf];omega)
      | (refine ⟨k + 1, m / 2, _, by omega, by go_num, by go_num, bb.out, by simpa using aI K 0 (.slice bu (J.length + 1) bv), ?_, ag.below G (ay w4 ⟨g, 0, none⟩ _) G.size (fun i e => by have e : i = g := e; omega), by simp [World.setCell]; omega⟩
         rw[ap.out]
         exact aa.chg (ay w4 ⟨g, 0, none⟩ _) λk I e => (aa.ne_cells K δ) (by rw[I, show k = g from e]))
    ·obtain rfl:k=8:=ω;go_wp2;go_roundw;·exact⟨i+1,o,ω,γ,q,by rw[show 8*(i+1)=8*i+8 from rfl];exact p,d,z⟩
     ·exact μ
  ·obtain rfl:i=l.length:=ω;have cm:¬((l.length:Int)<l.length):=ω;have bx:Hid (Q.take (8*l.length)=Q):=ad (by rw[<- HL.out,dP]);rw[bx.out]at p;clear HQ ac;go_wp2;go_ret;exact⟨rfl,⟨⟨o,q,p⟩,ax _⟩,d⟩
def uI(B base a:Nat)(q:U0)(w:World)(m:gC w B base q a)(o:q.length<=8000000):Calls prog 269 #[.pointer (some ⟨B,0,none⟩)] w λe w'=>e=.returned (.int .i64 ((q.length:Int)-a))/\Qt w w':=by
 obtain⟨⟨v,d,h⟩,p⟩:=m;obtain⟨z,A,rfl⟩:=h.shape';have D:=af d 0 rfl;have c2:=af d 1 rfl;have F:=aA ((q.length:Int)-a) ω;clear d h;go_in;go_wp2;go_quiet (fail);go_wp2;go_ret;exact⟨rfl,Qt.drewN _ _⟩
def zf(B base a k:Nat)(l:U0)(w:World)(O:gC w B base (aZ l) a)(hl:l.length<=1000000)(hk:k<=64):Calls prog 270 #[.pointer (some ⟨B,0,none⟩),N k] w λe w'=>e=.returned (.tuple #[.int .u64 (Fk.aF l a k:Int),N (min k (8*l.length-a))])/\Qt w w':=by
 have F:=kT l;have ac:=ad (λW (h:Qt w W)=>uI B base a (aZ l) W (O.fr h.fr) ω);have ah:Hid (∀j (h:a+j<(aZ l).length),((aZ l)[a+j]).toNat=cA l (a+j)):=λj h=>tE l _ h;have HT:=ad (λj=>ni l (a+j));have HO:Hid (∀j,8*l.length<=j->cA l j=0):=Ev l;have ak:=ad (λj=>jt l a j);obtain⟨⟨v,o,G⟩,aC⟩:=O;obtain⟨a0,bb,rfl⟩:=G.shape';have HS:=ad G.see;have c0:=af o 0 rfl;have c1:=af o 1 rfl;clear o G;generalize aZ l=q at *;have k1:¬(k:Int)<0:=ω
 have k2:¬(64:Int)<k:=ω
 go_in;go_wp2;go_loopw [6,7,8] (λxv tv I wr=>∃j x:Nat,j<=k/\I=N j/\xv=.int .u64 (x:Int)/\tv=N (min j (8*l.length-a))/\Hid (x=Fk.aF l a j)/\Qt w wr) (λ_ _ I _=>k-(intOf I).toNat);·exact⟨0,0,ax _,rfl,rfl,by simp[N],rfl,Qt.refl _⟩
 ·
  obtain⟨j,x,hj,rfl,rfl,rfl,d,p⟩:=hrel;have J:=p.fr;have Q:=ad (ac.out wr p);by_cases bf:j<k
  ·have K:x<9223372036854775808:=(by have o:=ak.out j;have h2:(2:Nat)^j<=2^63:=dn ω ω;rw[<- d.out]at o;omega);have bl:=ad K;have bm:=cW (2*(x:Int)) ω;have j1:(j:Int)<k:=ω;by_cases U:a+j<q.length
   ·obtain⟨b,a2,cp,hv,V⟩:=(HS.out.fr J).cell1 Fk.u8 rfl (a+j) U;cases hv;have X:=ah.out j U;have a4:=HT.out j;have Y:wr.cell? ⟨b,a2+(a+j),none⟩=some (.int .u8 (q[a+j].toNat:Int)):=V;have z:Hid (2*x+q[a+j].toNat=Fk.aF l a (j+1)):=ad (by rw[d.out,X];rfl);have bs:q[a+j].toNat<2:=ω;have A:min (j+1) (8*l.length-a)=min j (8*l.length-a)+1:=ω;clear V X a4;generalize q[a+j].toNat=c at *;have m1:(min j (8*l.length-a))<=64:=ω;have L:=ad A;clear A;generalize min j (8*l.length-a)=D at *;have Z:=J.cell c0;have aa:=J.cell c1;have j2:(j:Int)<(q.length:Int)-a:=ω;have i1:=aA ((a:Int)+j) ω;have i2:(0:Int)<=(a:Int)+j:=ω;have i3:((a:Int)+j).toNat=a+j:=ω;have i4:(a:Int)+j<q.length:=ω;have w1:IntKind.u64.wrap (c:Int)=(c:Int):=cW _ ω;have w2:=cW (2*(x:Int)+c) ω;have w3:=aA ((D:Int)+1) ω;clear K d F;go_wp2_with fail;refine(Q.out).mono ?_;rintro e w5 ⟨rfl,m⟩;have M:=p.trans m;have b4:=m.fr.cell Z;have b5:=m.fr.cell aa;have b6:=m.fr.cell Y;clear Z aa Y;go_wp2;go_quiet (fail);go_wp2;go_roundw;·exact⟨j+1,2*x+c,ω,γ,γ,by rw[L.out];go_num,z.out,M.trans (Qt.drewN _ _)⟩
    ·exact μ
   ·have z:Hid (2*x=Fk.aF l a (j+1)):=(by show _=_;rw[d.out];show _=2*Fk.aF l a j+cA l (a+j);rw[HO.out _ ω];rfl);have A:min (j+1) (8*l.length-a)=min j (8*l.length-a):=ω;have j2:¬(j:Int)<(q.length:Int)-a:=ω;have L:=ad A;clear A K d F;generalize min j (8*l.length-a)=D at *;go_wp2_with fail;refine(Q.out).mono ?_;rintro e w5 ⟨rfl,m⟩;have M:=p.trans m;go_wp2;go_roundw;·exact⟨j+1,2*x,ω,γ,γ,by rw[L.out],z.out,M⟩
    ·exact μ
  ·obtain rfl:j=k:=ω;have j1:¬(j:Int)<j:=ω;have z:=ad d.out;clear d F;generalize ab:min j (8*l.length-a)=D at *;have a7:=ad ab;clear ab;go_wp2;go_ret2;exact⟨by rw[z.out,a7.out];rfl,p⟩
def PT(B base a k:Nat)(l:U0)(w:World)(d:gC w B base (aZ l) a)(M:l.length<=1000000)(O:k<=64):Calls prog 216 #[.pointer (some ⟨B,0,none⟩),N k] w λe w'=>e=.returned (.tuple #[.int .u64 ((if 8*l.length<a+k then 0 else Fk.aF l a k:Nat):Int),.int .i64 ((if 8*l.length<a+k then 1 else 0:Nat):Int)])/\gC w' B base (aZ l) (if 8*l.length<a+k then a else a+k)/\ag (λb=>b=B) w w':=by
 have D:=kT l;have o:=ad (uI B base a (aZ l) w d ω);have k1:¬(k:Int)<0:=ω
 have k2:¬(64:Int)<k:=ω
 by_cases h:8*l.length<a+k;·rw[an h,an h,an h];have Q:=ad d;have k3:((aZ l).length:Int)-a<k:=ω;clear d h D;generalize aZ l=q at *;go_in;go_wp2_with fail;refine(o.out).mono ?_;rintro e F ⟨rfl,m⟩;go_wp2;go_ret2;exact⟨rfl,Q.out.fr m.fr,m.fr.chg _⟩
 ·rw[ae h,ae h,ae h];have k3:¬((aZ l).length:Int)-a<k:=ω;have G:=ad (λW (U:Fr w W)=>zf B base a k l W (d.fr U) M O);have hw:=aA ((a:Int)+k) ω;obtain⟨⟨v,I,J⟩,ak⟩:=d;have V:Hid (a+k<=(aZ l).length):=(by show _<=_;omega);have X:=J.ne_cells I δ;clear h D;generalize aZ l=q at *;generalize Fk.aF l a k=x at *;generalize min k (8*l.length-a)=mn at *;go_in;go_wp2_with fail;refine(o.out).mono ?_;rintro e F ⟨rfl,m⟩;have K:=ad (G.out F m.fr);clear G;go_wp2_with fail;refine(K.out).mono ?_;rintro e p ⟨rfl,Y⟩;have z:Fr w p:=m.fr.trans Y.fr;have A:=z.heap I;have d2:=af A 1 rfl;have z2:=aB A 1;have L:=ay p ⟨B,1,none⟩ (.int .i64 ((a:Int)+k));have Z:=aI A 1 (.int .i64 ((a:Int)+k));have aa:=(J.fr z).chg L (λi hi e=>X (by rw[hi,show i=B from e]));have ac:ag (λb=>b=B) w (p.setCell ⟨B,1,none⟩ (.int .i64 ((a:Int)+k))):=(z.chg _).trans L λ_ _ h=>h;clear K o;go_wp2;go_ret2;exact⟨rfl,⟨⟨v,Z,aa⟩,V.out⟩,ac⟩
def OW(B base a:Nat)(l:U0)(w:World)(hc:gC w B base (aZ l) a)(hl:l.length<=1000000):Calls prog 217 #[.pointer (some ⟨B,0,none⟩)] w λe w'=>e=.returned (.tuple #[N (dg l a).1,.int .i64 ((dg l a).2.2:Int)])/\gC w' B base (aZ l) (dg l a).2.1/\ag (λb=>b=B) w w':=by
 have Q:=kT l;have HC:=ad hc;have av:Hid (∀j (h:j<(aZ l).length),((aZ l)[j]).toNat=cA l j):=λj h=>tE l _ h;have HU:Hid (dg l a=match fV l ((aZ l).length-a) a with | some i=>(i-a,i+1,0) | none=>(0,a,1)):=by show _=_;unfold dg;rw[Q];cases fV l (8*l.length-a) a <;> rfl
 have HS:Hid (∀i,i<(aZ l).length->fV l ((aZ l).length-i) i=if cA l i=1 then some i else fV l ((aZ l).length-(i+1)) (i+1)):=λi h=>by rw[Q]at h ⊢;exact zV l i h
 have HE:Hid (fV l ((aZ l).length-(aZ l).length) (aZ l).length=none):=by show _=_;rw[eA];rfl
 have bf:(aZ l).length<=8000000:=ω
 obtain⟨⟨v,I,J⟩,a2⟩:=hc;obtain⟨a0,bl,rfl⟩:=J.shape';have a3:=ad J.see;have c0:=af I 0 rfl;have c1:=af I 1 rfl;have a6:=J.ne_cells I δ;clear Q;generalize aZ l=q at *;generalize dg l a=U at *;go_in;go_wp2;go_loopw [4] (λV wr=>∃i:Nat,a+i<=q.length/\V=N i/\Hid (fV l (q.length-a) a=fV l (q.length-(a+i)) (a+i))/\Qt w wr) (λV _=>q.length-(intOf V).toNat);·exact⟨0,a2,rfl,rfl,Qt.refl _⟩
 ·
  obtain⟨i,bm,rfl,z,o⟩:=hrel;have K:=o.fr.cell c0;have L:=o.fr.cell c1;have i1:=aA ((a:Int)+i) ω;by_cases A:a+i<q.length
  ·have M:=ad (HS.out (a+i) A);have ac:=ni l (a+i);have W:=av.out (a+i) A;have j1:(a:Int)+i<q.length:=ω;have j2:(0:Int)<=(a:Int)+i:=ω;have j3:((a:Int)+i).toNat=a+i:=ω;obtain⟨b,a8,cp,hv,D⟩:=(a3.out.fr o.fr).cell1 Fk.u8 rfl (a+i) A;cases hv;have p:wr.cell? ⟨b,a8+(a+i),none⟩=some (.int .u8 (q[a+i].toNat:Int)):=D;clear D;rw[W]at p;by_cases F:cA l (a+i)=1;·have X:Hid (U=(i,a+i+1,0)):=(by show _=_;rw[HU.out,z.out,M.out,an F];show(a+i-a,_,_)=_;rw[nt]);rw[F]at p;clear M z F ac W;go_upto_region 2 with fail;go_quiet (fail);obtain⟨m,G,d⟩:∃m,m=wr.drewN nq/\Qt wr m:=⟨_,rfl,Qt.drewN _ _⟩;rw[<- G];clear G;have D:=d.fr.cell K;have e1:=d.fr.cell L;have e2:=d.fr.cell p;clear K L p;go_upto_region 4 with fail;go_quiet (fail);obtain⟨O,hB,Y⟩:∃O,O=m.drewN nq/\Qt w O:=⟨_,rfl,(o.trans d).trans (Qt.drewN _ _)⟩;rw[<- hB];clear hB d D e1 e2;have Z:=Y.fr.heap I;have d2:=af Z 1 rfl;have z2:=aB Z 1;have ak:=ay O ⟨B,1,none⟩ (.int .i64 ((a:Int)+i+1));have aC:=aI Z 1 (.int .i64 ((a:Int)+i+1));have ba:=(J.fr Y.fr).chg ak (λi hi e=>a6 (by rw[hi,show i=B from e]));have bc:=(Y.fr.chg (λb=>b=B)).trans ak λ_ _ h=>h;have i5:=aA ((a:Int)+i+1) ω;go_wp2;go_ret2;rw[X.out];exact⟨rfl,⟨⟨_,aC,ba⟩,A⟩,bc⟩
   ·have al:cA l (a+i)=0:=ω;have bd:Hid (fV l (q.length-a) a=fV l (q.length-(a+(i+1))) (a+(i+1))):=(by show _=_;rw[z.out,M.out,ae F];rfl);rw[al]at p;clear M z F ac W al;go_upto_region 2 with fail;go_quiet (fail);obtain⟨m,G,d⟩:∃m,m=wr.drewN nq/\Qt wr m:=⟨_,rfl,Qt.drewN _ _⟩;rw[<- G];clear G;have D:=d.fr.cell K;have e1:=d.fr.cell L;have e2:=d.fr.cell p;clear K L p;go_upto_region 4 with fail;go_quiet (fail);go_wp2;go_roundw;·exact⟨i+1,A,γ,bd.out,(o.trans d).trans (Qt.drewN _ _)⟩
    ·exact μ
  ·have am:a+i=q.length:=ω;have X:Hid (U=(0,a,1)):=ad (by rw[HU.out,z.out,am,HE.out]);have j1:¬((a:Int)+i<q.length):=ω;clear z am;go_upto_region 2 with fail;go_quiet (fail);go_wp2;go_ret2;rw[X.out];exact⟨rfl,HC.out.fr (o.trans (Qt.drewN _ _)).fr,(o.trans (Qt.drewN _ _)).fr.chg _⟩
end Go.Proofs
namespace Go.Fk
def Kb(l:U0)(a j:Nat)(h:aF l a j=0)(d:cA l (a+j)=0):aF l a (j+1)=0:=by rw[aF,h,d]
def Kd(l:U0)(a j m:Nat)(d:cA l (a+j)=1):¬aF l a (j+1+m)=0:=by
 intro e;have:=tO l a (j+1) m;rw[e,Nat.zero_div,aF,d]at this;omega
end Go.Fk
namespace Go.Proofs
open RowKit Fk Tryz
structure ii (w:World) (B base:Nat) (v:Value) (q:U0) (a:Nat):Prop where
 h:w.heap[B]?=some (.cells #[v,N a] 285 (0,0))
 o:Ow w base eB v q
 le:a<=q.length
def ii.f{w:World}{B base a:Nat}{v:Value}{q:U0}(h:ii w B base v q a):gC w B base q a:=⟨⟨v,h.h,h.o⟩,h.le⟩
def ii.fr{w w':World}{B base a:Nat}{v:Value}{q:U0}(h:ii w B base v q a)(d:Fr w w'):ii w' B base v q a:=⟨d.heap h.h,h.o.fr d,h.le⟩
def ii.chg{G:Nat->Prop}{w w':World}{B base a:Nat}{v:Value}{q:U0}(h:ii w B base v q a)(d:ag G w w')(e:¬G B)(f:∀k,v.ownBlock=some k->¬G k):ii w' B base v q a:=⟨d.heap h.h e,h.o.chg d f,h.le⟩
def Fb(B base a k:Nat)(v:Value)(l:U0)(w:World)(d:ii w B base v (aZ l) a)(M:l.length<=1000000)(O:k<=64):Calls prog 216 #[.pointer (some ⟨B,0,none⟩),N k] w λe w'=>e=.returned (.tuple #[.int .u64 ((if 8*l.length<a+k then 0 else Fk.aF l a k:Nat):Int),.int .i64 ((if 8*l.length<a+k then 1 else 0:Nat):Int)])/\ii w' B base v (aZ l) (if 8*l.length<a+k then a else a+k)/\ag (λb=>b=B) w w':=by
 have D:=kT l;have o:=ad (uI B base a (aZ l) w d.f ω);have k1:¬(k:Int)<0:=ω
 have k2:¬(64:Int)<k:=ω
 by_cases h:8*l.length<a+k;·rw[an h,an h,an h];have Q:=ad d;have k3:((aZ l).length:Int)-a<k:=ω;clear d h D;generalize aZ l=q at *;go_in;go_wp2_with fail;apply o.z;rintro e F ⟨rfl,m⟩;go_wp2;go_ret2;exact⟨rfl,Q.out.fr m.fr,m.fr.chg _⟩
 ·rw[ae h,ae h,ae h];have k3:¬((aZ l).length:Int)-a<k:=ω;have G:=ad (λW (U:Fr w W)=>zf B base a k l W (d.f.fr U) M O);have hw:=aA ((a:Int)+k) ω;obtain⟨I,J,ak⟩:=d;have V:Hid (a+k<=(aZ l).length):=(by show _<=_;omega);have X:=J.ne_cells I δ;clear h D;generalize min k (8*l.length-a)=mn,Fk.aF l a k=x,aZ l=q at *;go_in;go_wp2_with fail;apply o.z;rintro e F ⟨rfl,m⟩;have K:=ad (G.out F m.fr);clear G;go_wp2_with fail;apply K.z;rintro e p ⟨rfl,Y⟩;have z:Fr w p:=m.fr.trans Y.fr;have A:=z.heap I;have d2:=af A 1 rfl;have z2:=aB A 1;have L:=ay p ⟨B,1,none⟩ (.int .i64 ((a:Int)+k));have Z:=aI A 1 (.int .i64 ((a:Int)+k));have aa:=(J.fr z).chg L (λi hi e=>X (by rw[hi,show i=B from e]));have ac:ag (λb=>b=B) w (p.setCell ⟨B,1,none⟩ (.int .i64 ((a:Int)+k))):=(z.chg _).trans L λ_ _ h=>h;clear K o;go_wp2;go_ret2;exact⟨rfl,⟨Z,aa,V.out⟩,ac⟩
def Pn(B base a:Nat)(l:U0)(w:World)(p:gC w B base (aZ l) a)(hl:l.length<=1000000):Calls prog 223 #[.pointer (some ⟨B,0,none⟩)] w λe w'=>e=.returned (.int .i64 (if io l a=true then 0 else 2))/\Qt w w':=by
 have O:=kT l;have Q:=p.le;have U:=ad (uI B base a (aZ l) w p ω);by_cases V:8<=8*l.length-a;·have z:Hid ((if io l a=true then(0:Int)else 2)=2):=(by show _=_;unfold io;rw[bw ω];rfl);have Z:(8:Int)<=((aZ l).length:Int)-a:=ω;generalize (if io l a=true then(0:Int)else 2)=R at *;generalize aZ l=q at *;clear p V O Q;go_in;go_wp2_with fail;apply U.z;rintro e w1 ⟨rfl,m⟩;go_wp2;go_ret;rw[z.out];exact⟨rfl,m⟩
 ·have z:Hid ((if io l a=true then(0:Int)else 2)=if Fk.aF l a (8*l.length-a)=0 then 0 else 2):=(by show _=_;unfold io;rw[bz (show 8*l.length<a+8 by omega)];simp);have HZ:Hid (∀j,Fk.aF l a j=0->cA l (a+j)=0->Fk.aF l a (j+1)=0):=λj h d=>Kb l a j h d;have HO:Hid (∀j,a+j<(aZ l).length->cA l (a+j)=1->¬Fk.aF l a (8*l.length-a)=0):=λj hj d=>(by have:=Kd l a j (8*l.length-a-(j+1)) d;rw[show j+1+(8*l.length-a-(j+1))=8*l.length-a by omega]at this;exact this);have HT:=ad (λj=>ni l (a+j));have aj:Hid (∀j (h:a+j<(aZ l).length),((aZ l)[a+j]).toNat=cA l (a+j)):=λj h=>tE l _ h;have ak:Hid (Fk.aF l a 0=0):=rfl;have HE:Hid (∀j,a+j=(aZ l).length->8*l.length-a=j):=λj h=>ω;have Z:¬(8:Int)<=((aZ l).length:Int)-a:=ω;have a6:(aZ l).length<=8000000:=ω;obtain⟨⟨v,D,F⟩,_⟩:=p;obtain⟨a0,a8,rfl⟩:=F.shape';have HS:=ad F.see;have c0:=af D 0 rfl;have c1:=af D 1 rfl;clear D F V O;generalize (if io l a=true then(0:Int)else 2)=R at *;generalize aZ l=q at *;go_in;go_wp2_with fail;apply U.z;rintro e w1 ⟨rfl,G⟩;have e1:=G.fr.cell c1;go_wp2;go_loopw [3] (λI wr=>∃j:Nat,a+j<=q.length/\I=.int .i64 ((a:Int)+j)/\Hid (Fk.aF l a j=0)/\Qt w wr) (λI _=>q.length-(intOf I).toNat);·exact⟨0,Q,σ,ak.out,G⟩
  ·
   clear G e1;obtain⟨j,hj,rfl,o,m⟩:=hrel;have d0:=m.fr.cell c0;by_cases A:a+j<q.length
   ·obtain⟨b,a1,cp,hv,W⟩:=(HS.out.fr m.fr).cell1 Fk.u8 rfl (a+j) A;cases hv;have J:=aj.out j A;have X:=HT.out j;have K:wr.cell? ⟨b,a1+(a+j),none⟩=some (.int .u8 (q[a+j].toNat:Int)):=W;have j1:(a:Int)+j<q.length:=ω;have j2:(0:Int)<=(a:Int)+j:=ω;have j3:((a:Int)+j).toNat=a+j:=ω;have i1:=aA ((a:Int)+j+1) ω;clear W;rw[J]at K;by_cases d:cA l (a+j)=1;·have L:Hid (R=2):=ad (by rw[z.out,ae (HO.out j A d)]);rw[d]at K;clear J X o d;go_wp2;go_ret;rw[L.out];exact⟨rfl,m⟩
    ·have M:cA l (a+j)=0:=ω;have a4:=ad (HZ.out j o.out M);rw[M]at K;clear J X o d M;go_wp2;go_roundw;·exact⟨j+1,A,γ,a4.out,m⟩
     ·exact μ
   ·have Y:a+j=q.length:=ω;have L:Hid (R=0):=ad (by rw[z.out,HE.out j Y,an o.out]);have j1:¬(a:Int)+j<q.length:=ω;clear o Y;go_wp2;go_ret;rw[L.out];exact⟨rfl,m⟩
