/- Lemmas. -/
import Derived.Test.YtmcaneofjlhhmaaGreatDoorM11
import Derived.Test.YtmcaneofjlhhmaaGreatDoorM13
set_option linter.all false
set_option maxHeartbeats 8000000
set_option maxRecDepth 100000
namespace Go.Fk
abbrev pEQb:=@Int.tdiv_eq_ediv_of_nonneg
abbrev qD:=@Go.run_loadVar_row
end Go.Fk
namespace Go.Proofs
open RowKit Fk Tryz
def mL{P:Program}{m:Func}{p q:Tmp}{e:TypeId}(h:m.results=#[.cell p e,.tmp q])(tmps:Array Value)(w:World)(g:Nat)(t:TypeId)(f:Array Value)(o:Nat × Nat)(d:TypeDesc)(v:Value)
  (hp:tmps.getD p undef=.pointer (some ⟨g,0,none⟩)) (hq:tmps.getD q undef=v) (hg:w.heap[g]?=some (.cells f t o))
  (hu:P.underlying e=some d) (hd:(match d with | .struct _ | .array _ _=>true | _=>false)=true) (hi:(P.info? e).map (·.size)=some f.size) :
  (results m tmps).run P w=.ok (.tuple #[.agg f,v]) w:=by
 have z:tmps[p]?.getD undef=.pointer (some ⟨g,0,none⟩):=by simpa using hp
 have A:tmps[q]?.getD undef=v:=by simpa using hq
 simp[results,h,z,A,asAddr,qD w g t e f o d hg hu hd hi]
abbrev uu(d:U0)(k:Nat):Nat->Int:=λl=>((aL (d.take k) l:Nat):Int)
abbrev fi(d:U0):Nat->Int:=λl=>if l=0 then 0 else((aL d l:Nat):Int)
theorem vq:(#[.int .i64 0,.int .i64 0,.int .i64 0,.int .i64 0,.int .i64 0,.int .i64 0,.int .i64 0,.int .i64 0,.int .i64 0,.int .i64 0,.int .i64 0,.int .i64 0,.int .i64 0,.int .i64 0,.int .i64 0,.int .i64 0]:Array Value)=cI 16 (λ_=>0):=rfl
def DV(v:Value)(d:U0)(w:World)(O:ao w eB v d)(hn:d.length<=300)(W:∀c∈d,c.toNat<=15):Calls prog 330 #[v] w λe w'=>e=.returned (.tuple #[.agg (cI 16 (fi d)),.bool true])/\Fr w w':=by
 obtain⟨a,ak,rfl,al,X,am⟩:=O.shape;unfold maxLen at X;have ap:¬(300:Int)<d.length:=ω
 have Q:(w.alloc (.cells (cI 16 (λ_=>0)) 419)).heap[w.heap.size]?=some (.cells (cI 16 (λ_=>0)) 419 (0,0)):=aD _ _ _ rfl;have D:Fr w (w.alloc (.cells (cI 16 (λ_=>0)) 419)):=(Fr.refl w).alloc _;have F:dW (w.alloc (.cells (cI 16 (λ_=>0)) 419)) w.heap.size 419 16 (uu d 0):=by unfold dW;rw[Q,yQ (f':=uu d 0) λi _=>by show(0:Int)=((aL (d.take 0) i:Nat):Int);rw[oi];rfl]
 rw[<- vq]at D F;clear Q;go_in;go_wp2_with fail;generalize Y:w.alloc (.cells _ 419)=W0 at *;clear Y;go_loopw [12] (λG wr=>∃k:Nat,k<=d.length/\G=N k/\dW wr w.heap.size 419 16 (uu d k)/\Fr w wr) (λG _=>d.length-(intOf G).toNat);·exact⟨0,ax _,rfl,F,D⟩
 ·
  clear F D;obtain⟨k,R,rfl,o,p⟩:=hrel;by_cases I:k<d.length
  ·obtain⟨b,az,a0,Z,c0⟩:=(O.fr p).cell1 (λc=>Fk.u8 c) rfl k I;have a2:=W _ (co I);have U:=ad (λl=>mj d k l I);generalize d[k]=c at *;cases Z;generalize a3:c.toNat=m at *;have a4:=mY (d.take k) m;have a5:(d.take k).length<=300:=(by rw[aP];omega);have e1:wr.cell? ⟨w.heap.size,m,none⟩=some (.int .i64 ((aL (d.take k) m:Nat):Int)):=o.cell m ω;have e2:=o.frozen m;have z:=ad (o.set m (((aL (d.take k) m:Nat):Int)+1));have J:Hid (dW (wr.setCell ⟨w.heap.size,m,none⟩ (.int .i64 (((aL (d.take k) m:Nat):Int)+1))) w.heap.size 419 16 (uu d (k+1))):=z.out.congr λi hi=>by
    show(if i=m then _ else _)=((aL (d.take (k+1)) i:Nat):Int);rw[U.out i];by_cases h:i=m;·subst h;simp
    ·rw[ae h,ae (jj h)];simp
   clear z U;have i1:(0:Int)<=k:=ω;have i2:(k:Int)<d.length:=ω;have i3:(0:Int)<=m:=ω;have i4:(m:Int)<16:=ω;have i5:¬(15:Int)<m:=ω;have i6:m<16:=ω;generalize aL (d.take k) m=q at *;go_wp2;go_roundw;·exact⟨k+1,ω,γ,J.out,eP p (au _) p.size⟩
   ·exact μ
  ·obtain rfl:k=d.length:=ω;have bb:¬((d.length:Int)<d.length):=ω;have e2:=o.frozen 0;have e1:wr.cell? ⟨w.heap.size,0,none⟩=some (.int .i64 ((aL (d.take d.length) 0:Nat):Int)):=o.cell 0 ω;have z:=ad (o.set 0 0);have J:Hid (dW (wr.setCell ⟨w.heap.size,0,none⟩ (.int .i64 0)) w.heap.size 419 16 (fi d)):=z.out.congr λi hi=>(by show(if i=0 then(0:Int)else((aL (d.take d.length) i:Nat):Int))=if i=0 then 0 else((aL d i:Nat):Int);rw[dP]);have V:Hid (Fr w (wr.setCell ⟨w.heap.size,0,none⟩ (.int .i64 0))):=eP p (au _) p.size;clear z o;go_upto_region 11 with fail;generalize wr.setCell ⟨w.heap.size,0,none⟩ (.int .i64 0)=K at *;have L:K.heap[w.heap.size]?=some (.cells (cI 16 (fi d)) 419 (0,0)):=J.out;have M:(prog.info? 419).map (·.size)=some (cI 16 (fi d)).size:=(by rw[pk];kernel_rfl);go_wp2_with (first | (refine dM rfl 419 (.tmp 2) rfl w.heap.size rfl 419 (cI 16 (fi d)) (0,0) _ L underlying419 rfl M ?_) | (refine bB rfl 419 (.tmp 2) (.tmp 26) rfl w.heap.size (cI 16 (fi d)) rfl rfl 419 (cI 16 (fi d)) L M rfl (yO _ _) ?_));have h1:=bY K w.heap.size (cI 16 (fi d)) (cI 16 (fi d)) 419 (0,0) L;have h2:=bh K w.heap.size (cI 16 (fi d));exact aT (mL results330 _ _ w.heap.size 419 _ (0,0) _ _ rfl rfl h1 underlying419 rfl M) rfl ⟨rfl,ag.below V.out h2 V.out.size (λk R=>gp R.symm)⟩
def AA(f:Nat->Nat)(b:Nat)(h:∀k,f k<=b):∀l,du f l<=l*b:=by
 intro l
 induction l with
 | zero=>simp[du]
 | succ l d=>rw[du,bP];have:=h (l+1);omega
def Gp(d:U0)(w:World)(hn:d.length<=300):Calls prog 331 #[.agg (cI 16 (fi d))] w λe w'=>e=.returned (.tuple #[N (du (λk=>aL d k*2^(15-k)) 15),N (du (aL d) 15)])/\Fr w w':=by
 have O:dW (w.alloc (.cells (cI 16 (fi d)) 419)) w.heap.size 419 16 (fi d):=aD _ _ _ rfl;have Q:Fr w (w.alloc (.cells (cI 16 (fi d)) 419)):=(Fr.refl w).alloc _;have al:(cI 16 (fi d)).size=16:=pk _ _;have p:=ad (λk=>mY d k);generalize U:cI 16 (fi d)=R at *;go_in;go_wp2_with fail;generalize V:w.alloc (.cells R 419)=A at *;clear V U;go_loopw [2,3,4] (λW X z wr=>∃l:Nat,l<=15/\z=N (l+1)/\Hid (W=N (du (λk=>aL d k*2^(15-k)) l))/\Hid (X=N (du (aL d) l))/\A=wr) (λ_ _ z _=>16-(intOf z).toNat);·exact⟨0,ω,rfl,rfl,rfl,by first | rfl | trivial⟩
 ·
  obtain⟨l,D,rfl,F,G,rfl⟩:=hrel;have I:=F.out;have J:=G.out;have am : du (fun k => aL d k * 2 ^ (15 - k)) l ≤ 15 * (300 * 32768) := ar (AA _ (300 * 32768) (fun k => by
    have h1 := p.out k;have h : (2 : Nat)^(15-k) ≤ 32768 := ar (dn ω (show 15-k ≤ 15 by omega)) δ
    exact bo ω h) l) (cY _ D)
  have av:du (aL d) l<=15*300:=ar (AA _ 300 (λk=>by have:=p.out k;omega) l) (cY _ D);have K:Hid (du (λk=>aL d k*2^(15-k)) (l+1)=du (λk=>aL d k*2^(15-k)) l+aL d (l+1)*2^(14-l)):=ad (by rw[du,show 15-(l+1)=14-l by omega]);have L:Hid (du (aL d) (l+1)=du (aL d) l+aL d (l+1)):=rfl;by_cases az:l<15
  ·have a0:((l+1:Nat):Int)<16:=ω;have e1:A.cell? ⟨w.heap.size,l+1,none⟩=some (.int .i64 ((aL d (l+1):Nat):Int)):=O.cell' (l+1) ω (by simp[fi]);have a2:=p.out (l+1);have h:(2:Nat)^(14-l)<=32768:=ar (dn ω (show 14-l<=15 by omega)) δ;have a3:aL d (l+1)*2^(14-l)<=300*32768:=bo ω h;have a4:IntKind.i64.wrap (15-((l+1:Nat):Int))=((14-l:Nat):Int):=(by rw[aAQb _ ω];omega);have M:IntKind.i64.wrap (((aL d (l+1):Nat):Int)*2^(14-l))=((aL d (l+1)*2^(14-l):Nat):Int):=(by have e:((aL d (l+1):Nat):Int)*2^(14-l)=((aL d (l+1)*2^(14-l):Nat):Int):=σ;rw[e];exact aAQb _ ω);have Y:=ad K.out;have Z:=ad M;clear M;generalize aa:aL d (l+1)*2^(14-l)=mu at *;generalize m:du (λk=>aL d k*2^(15-k)) l=sx at *;generalize o:du (aL d) l=mx at *;generalize aL d (l+1)=q at *;have a6:(0:Int)<=((14-l:Nat):Int):=ω;have i1:(0:Int)<=((l+1:Nat):Int):=ω;have i2:l+1<16:=ω;subst I J;clear F G m o aa h;go_wp2;go_roundw
   ·
    refine⟨l+1,ω,γ,?_,?_,by first | rfl | trivial⟩;·show _=_;rw[Y.out];have h9:=Z.out;rw[<- IntWalk.i64_left,<- IntWalk.i64_left,h9,aAQb _ ω];show Value.int _ _=Value.int _ _;congr 1
    ·show _=_;rw[L.out];show Value.int _ _=Value.int _ _;congr 1
   ·exact μ
  ·obtain rfl:l=15:=ω;subst I J;clear K L;generalize m:du (λk=>aL d k*2^(15-k)) 15=sx at *;generalize o:du (aL d) 15=mx at *;have ai:=ad m;have aj:=ad o;clear m o;have a9:¬((15+1:Nat):Int)<16:=ω;go_wp2;go_ret2;exact⟨by rw[ai.out,aj.out];rfl,Q⟩
def Fo(v:Value)(d:U0)(w:World)(L:ao w eB v d)(M:d.length<=300)(G:∀c∈d,c.toNat<=15):Calls prog 311 #[v] w λe w'=>e=.returned (.int .i64 (if df d then 0 else 7))/\Fr w w':=by
 obtain⟨a,av,rfl,az,Z,a0⟩:=L.shape;unfold maxLen at Z;have aa:=ad (DV _ d w L M G);have O:=ad (λW=>Gp d W M);rw[A6 d G,Hs d G]at O;have Q:(cI 16 (fi d)).size=16:=pk _ _;have U:=yO 16 (fi d);have a1:=Gc d;have a2:=La d;have p:Hid (df d=(decide (gm d=0) || decide (fs d=32768) || (decide (gm d=1) && decide (aL d 1=1)))):=rfl;have ab:(cI 16 (fi d))[1]?=some (.int .i64 ((aL d 1:Nat):Int)):=by rw[so 16 _ 1 ω];rfl
 have a3:=mY d 1;generalize df d=okb,aL d 1=c1,gm d=wd,fs d=kr,cI 16 (fi d)=R at *;have I:(prog.info? 419).map (·.size)=some R.size:=by rw[Q];kernel_rfl
 go_in;go_wp2_with fail;refine aa.out.mono ?_;rintro e h ⟨rfl,ac⟩;have z:(h.alloc (.cells (cI 16 (λ_=>0)) 419)).heap[h.heap.size]?=some (.cells (cI 16 (λ_=>0)) 419 (0,0)):=aD _ _ _ rfl;have A:Fr h (h.alloc (.cells (cI 16 (λ_=>0)) 419)):=(Fr.refl h).alloc _;have hz:(cI 16 (λ_=>0)).size=16:=rfl;rw[<- vq]at z A hz;go_upto_region 2 with(refine bB rfl 419 (.tmp 3) (.tmp 10) rfl h.heap.size R rfl rfl 419 _ z I (by rw[Q];rfl) U ?_);have J:=bY _ h.heap.size _ R 419 (0,0) z;have ai:Fr h (World.setRow _ h.heap.size R):=ag.below A (bh _ h.heap.size R) A.size (λk o=>gp o.symm);generalize aj:World.setRow _ h.heap.size R=w2 at *;clear aj z A;go_wp2_with (first | (refine dM rfl 419 (.tmp 3) rfl h.heap.size rfl 419 R (0,0) _ J underlying419 rfl I ?_));refine(O.out w2).mono ?_;rintro e w3 ⟨rfl,V⟩;have X:=V.heap J;have e1:w3.cell? ⟨h.heap.size,1,none⟩=some (.int .i64 (c1:Int)):=by rw[aG X];exact ab
 have q:=(ac.trans ai).trans V;clear J X U I;by_cases D:wd=0;·have m:okb=true:=(by rw[p.out,D];rfl);subst m D;go_wp2;go_ret;exact⟨rfl,q⟩
 ·have a5:(0:Int)<wd:=ω;have a6:decide (0<wd)=true:=bz ω;have a7:0<wd:=ω;by_cases o:kr=32768;·have m:okb=true:=(by rw[p.out,o];simp);have Y:((kr:Int) == 32768)=true:=(by simp;omega);subst m o;go_wp2;go_ret;exact⟨rfl,q⟩
  ·have Y:((kr:Int) == 32768)=false:=(by simp;omega);have a8:¬(kr:Int)=32768:=ω;have a9:((kr:Int) != 32768)=true:=(by rw[bne,Y];rfl);by_cases F:wd=1
   ·by_cases K:c1=1;·have m:okb=true:=(by rw[p.out,F,K];simp);subst m F K;go_wp2;go_ret;exact⟨rfl,q⟩
    ·have m:okb=false:=(by rw[p.out];simp[D,o,K]);have am:((c1:Int) == 1)=false:=(by simp;omega);have aC:¬(c1:Int)=1:=ω;have ba:((c1:Int) != 1)=true:=(by rw[bne,am];rfl);subst m F;go_wp2;go_ret;exact⟨rfl,q⟩
   ·have m:okb=false:=(by rw[p.out];simp[D,o,F]);have ap:((wd:Int) == 1)=false:=(by simp;omega);have bb:¬(wd:Int)=1:=ω;have bc:((wd:Int) != 1)=true:=(by rw[bne,ap];rfl);subst m;go_wp2;go_ret;exact⟨rfl,q⟩
def sl{w:World}{v:Value}{l:U0}(h:ao w eB v l)(k:Nat)(e:k<l.length) :
  ∃b d f,v=.slice (some ⟨b,d,none⟩) l.length f/\w.cell? ⟨b,d+k,none⟩=some (Fk.u8 l[k]):=h.cell1 (λc=>Fk.u8 c) rfl k e
def sS(c:UInt8):c=0↔c.toNat=0:=⟨λe=>by rw[e];rfl,λe=>fO.1 (by simpa using e)⟩
def PJ(v:Value)(d:U0)(w:World)(K:ao w eB v d)(hn:d.length<=300)(R:∀c∈d,c.toNat<=15):Calls prog 306 #[v] w λe w'=>e=.returned (.tuple #[N (fs d),.int .i64 0])/\Fr w w':=by
 obtain⟨a,ak,rfl,al,U,am⟩:=K.shape;unfold maxLen at U;have ap:¬(300:Int)<d.length:=ω
 go_in;go_wp2;go_loopw [4,5] (λV D wr=>∃(k q:Nat),k<=d.length/\D=N k/\V=N q/\q<=k*16384/\Hid (q=fs (d.take k))/\w=wr) (λ_ D _=>d.length-(intOf D).toNat);·exact⟨0,0,ax _,rfl,rfl,ω,by first | rfl | (show _=_;rfl),by first | rfl | trivial⟩
 ·
  obtain⟨k,q,hk,rfl,rfl,hq,m,rfl⟩:=hrel;by_cases F:k<d.length
  ·obtain⟨b,W,a0,X,L⟩:=sl K k F;have a1:=R _ (co F);have z:=ad (KY d k F);have M:=sS d[k];generalize d[k]=c at *;cases X;replace L:w.cell? ⟨b,W+k,none⟩=some (.int .u8 ((c.toNat:Nat):Int)):=L;have G:=ad M;clear M;generalize Y:c.toNat=h at *;have i1:(0:Int)<=k:=ω;have i2:(k:Int)<d.length:=ω;have i3:¬(15:Int)<h:=ω;by_cases I:h=0
   ·have o:Hid (q=fs (d.take (k+1))):=(by show _=_;rw[z.out,an (G.out.2 I),g8];exact m.out);subst I;clear z m;go_wp2;go_roundw;·exact⟨k+1,q,ω,γ,rfl,ω,o.out,by first | rfl | trivial⟩
    ·exact μ
   ·have a5:(0:Int)<h:=ω;have o:Hid (q+2^(15-h)=fs (d.take (k+1))):=ad (by rw[z.out,ae (λe=>I (G.out.1 e)),m.out]);have O:(2:Nat)^(15-h)<=16384:=ar (dn ω (show 15-h<=14 by omega)) δ;have Q:=ad O;clear z m G O Y;go_wp2;go_loopw [6,7] (λZ J wr=>∃(j p:Nat),j<=h/\J=N j/\Z=N p/\p<=32768/\Hid (p=2^(15-j))/\w=wr) (λ_ J _=>h-(intOf J).toNat);·exact⟨0,32768,ax _,rfl,rfl,ω,rfl,by first | rfl | trivial⟩
    ·
     obtain⟨j,p,hj,rfl,rfl,hp,A,rfl⟩:=hrel;by_cases a8:j<h
     ·have aa:(j:Int)<h:=ω;have ab:Hid (p / 2=2^(15-(j+1))):=(by show _=_;rw[A.out,show 15-j=(15-(j+1))+1 by omega,gE];omega);have hd:(p:Int).tdiv 2=((p / 2:Nat):Int):=(by rw[pEQb ω];omega);have aC:(p:Int) / 2=((p / 2:Nat):Int):=ω;have ac:p / 2<=32768:=ω;generalize p / 2=ph at *;go_wp2;go_roundw;·exact⟨j+1,ph,ω,γ,rfl,ac,ab,by first | rfl | trivial⟩
      ·exact μ
     ·obtain rfl:j=h:=ω;have aa:¬(j:Int)<j:=ω;have ai:Hid (q+p=fs (d.take (k+1))):=ad (by rw[<- o.out,<- A.out]);have ba:p<=16384:=(by rw[A.out];exact Q.out);clear o A Q;go_wp2;go_roundw;·exact⟨k+1,q+p,ω,γ,γ,ω,ai,by first | rfl | trivial⟩
      ·exact μ
  ·obtain rfl:k=d.length:=ω;have bb:¬(d.length:Int)<d.length:=ω;have o:Hid (fs d=q):=(by have:=m.out;rw[dP]at this;exact this.symm);clear m;go_wp2;go_ret2;exact⟨by rw[o.out];rfl,Fr.refl _⟩
def Gb(d:U0)(k:Nat)(h:k<d.length):gm (d.take (k+1))=gm (d.take k)+if d[k]=0 then 0 else 1:=by
 unfold gm;rw[ea h,List.countP_append,List.countP_singleton];by_cases c:d[k]=0 <;> simp[c]
def EY(v:Value)(d:U0)(w:World)(O:ao w eB v d)(hn:d.length<=300)(ai:∀c∈d,c.toNat<=15):Calls prog 271 #[v] w λe w'=>e=.returned (.int .i64 (if df d then 0 else 7))/\Fr w w':=by
 obtain⟨a,a1,rfl,a2,aj,a3⟩:=O.shape;unfold maxLen at aj;have ak:=ad (PJ _ d w O hn ai);have Z:Hid (df d=(decide (gm d=0) || decide (fs d=32768) || (decide (gm d=1) && decide (aL d 1=1)))):=rfl;generalize df d=okb,fs d=Q at *;go_in;go_wp2_with fail;refine ak.out.mono ?_;rintro e w1 ⟨rfl,q⟩;go_wp2;go_loopw [5,6,7] (λnv ov R wr=>∃(k n o:Nat),k<=d.length/\R=N k/\nv=N n/\ov=N o/\n<=k/\o<=k/\Hid (n=gm (d.take k))/\Hid (o=aL (d.take k) 1)/\w1=wr) (λ_ _ R _=>d.length-(intOf R).toNat);·exact⟨0,0,0,ax _,rfl,rfl,rfl,au _,au _,by show _=_;rfl,by show _=_;rfl,by first | rfl | trivial⟩
 ·
  obtain⟨k,n,o,K,rfl,rfl,rfl,a4,a5,m,p,rfl⟩:=hrel;by_cases U:k<d.length
  ·obtain⟨b,ap,a6,hv,c0⟩:=sl (O.fr q) k U;have D:=ad (Gb d k U);have F:=ad (mj d k 1 U);have G:=ad (sS d[k]);generalize d[k]=c at *;cases hv;replace c0:w1.cell? ⟨b,ap+k,none⟩=some (.int .u8 ((c.toNat:Nat):Int)):=c0;generalize ac:c.toNat=z at *;have a7:z<256:=(by rw[<- ac];exact iH c);clear ac;have i1:(0:Int)<=k:=ω;have i2:(k:Int)<d.length:=ω;rcases Nat.lt_trichotomy z 1 with h | h | h
   ·obtain rfl:z=0:=ω;have I:Hid (n=gm (d.take (k+1))):=(by show _=_;rw[D.out,an (G.out.2 rfl),g8];exact m.out);have J:Hid (o=aL (d.take (k+1)) 1):=(by show _=_;rw[F.out,ae ω,g8];exact p.out);clear D F m p G;go_wp2;go_roundw;·exact⟨k+1,n,o,ω,γ,rfl,rfl,ω,ω,I.out,J.out,by first | rfl | trivial⟩
    ·exact μ
   ·subst h;have I:Hid (n+1=gm (d.take (k+1))):=ad (by rw[D.out,ae (λe=>by have:=G.out.1 e;omega),m.out]);have J:Hid (o+1=aL (d.take (k+1)) 1):=ad (by rw[F.out,an rfl,p.out]);clear D F m p G;go_wp2;go_roundw;·exact⟨k+1,n+1,o+1,ω,γ,γ,γ,ω,ω,I.out,J.out,by first | rfl | trivial⟩
    ·exact μ
   ·have L:(0:Int)<z:=ω;have h2:((z:Int) == 1)=false:=(by simp;omega);have h3:¬(z:Int)=1:=ω;have h4:z≠1:=ω;have I:Hid (n+1=gm (d.take (k+1))):=ad (by rw[D.out,ae (λe=>by have:=G.out.1 e;omega),m.out]);have J:Hid (o=aL (d.take (k+1)) 1):=(by show _=_;rw[F.out,ae ω,g8];exact p.out);clear D F m p G;go_wp2;go_roundw;·exact⟨k+1,n+1,o,ω,γ,γ,rfl,ω,ω,I.out,J.out,by first | rfl | trivial⟩
    ·exact μ
  ·obtain rfl:k=d.length:=ω;have bc:¬(d.length:Int)<d.length:=ω;have V:=m.out;have W:=p.out;rw[dP]at V W;have M:Hid (okb=(decide (n=0) || decide (Q=32768) || (decide (n=1) && decide (o=1)))):=(by show _=_;rw[Z.out,<- V,<- W]);clear m p Z V W;by_cases X:n=0;·have A:okb=true:=(by rw[M.out,X];rfl);subst A X;go_wp2;go_ret;exact⟨rfl,q⟩
   ·have n0:((n:Int) == 0)=false:=(by simp;omega);by_cases Y:n=1/\o=1;·have A:okb=true:=(by rw[M.out,Y.1,Y.2];simp);obtain⟨rfl,rfl⟩:=Y;subst A;go_wp2;go_ret;exact⟨rfl,q⟩
    ·by_cases K:Q=32768
     ·have A:okb=true:=(by rw[M.out,K];simp);subst A K;by_cases L:n=1;·have o1:((o:Int) == 1)=false:=(by simp;omega);subst L;go_wp2;go_ret;exact⟨rfl,q⟩
      ·have n1:((n:Int) == 1)=false:=(by simp;omega);go_wp2;go_ret;exact⟨rfl,q⟩
     ·have A:okb=false:=(by rw[M.out];simp[X,K];omega);have k1:((Q:Int) == 32768)=false:=(by simp;omega);subst A;by_cases L:n=1;·have o1:((o:Int) == 1)=false:=(by simp;omega);subst L;go_wp2;go_ret;exact⟨rfl,q⟩
      ·have n1:((n:Int) == 1)=false:=(by simp;omega);go_wp2;go_ret;exact⟨rfl,q⟩
def j8:aJ prog bW:=⟨295,3,24,⟨0,0,0⟩,.agg #[.int .u8 0,.int .i64 0,.int .i64 0],λt=>[Fk.u8 t.lit,N t.len,N t.dist],by kernel_rfl,δ,δ,by simp[Value.cells],λ_=>rfl,by intro x u d;simp only[pC,kK,or_false]at d;rcases d with rfl | rfl | rfl <;> rfl⟩
