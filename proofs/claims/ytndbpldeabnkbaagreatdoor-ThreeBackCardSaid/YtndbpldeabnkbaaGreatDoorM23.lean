/- Lemmas for ThreeTurned. -/
import Derived.Test.YtndbpldeabnkbaaGreatDoorM07
import Derived.Test.YtndbpldeabnkbaaGreatDoorM16
set_option linter.all false
set_option maxHeartbeats 8000000
set_option maxRecDepth 100000
namespace Go.Fk
abbrev vY:=@Go.run_loadVar_row
end Go.Fk
namespace Go.Proofs.YtndbpldeabnkbaaGreatDoor
open Go.RowKit Go.Fk
def qK{P:Program}{o:Func}{p q:Tmp}{e:TypeId}(h:o.results=#[.cell p e,.tmp q])(tmps:Array Value)(w:World)(g:Nat)(t:TypeId)(m:Array Value)(z:Nat × Nat)(d:TypeDesc)(v:Value)
  (hp:tmps.getD p undef=.pointer (some ⟨g,0,none⟩)) (hq:tmps.getD q undef=v) (hg:w.heap[g]?=some (.cells m t z))
  (hu:P.underlying e=some d) (hd:(match d with | .struct _ | .array _ _=>true | _=>false)=true) (hi:(P.info? e).map (·.size)=some m.size) :
  (results o tmps).run P w=.ok (.tuple #[.agg m,v]) w:=by
 have A:tmps[p]?.getD undef=.pointer (some ⟨g,0,none⟩):=by simpa using hp
 have D:tmps[q]?.getD undef=v:=by simpa using hq
 simp[results,h,A,D,asAddr,vY w g t e m z d hg hu hd hi]
abbrev yt(d:Z0)(k:Nat):Nat->Int:=λl=>((aE (d.take k) l:Nat):Int)
abbrev fw(d:Z0):Nat->Int:=λl=>if l=0 then 0 else((aE d l:Nat):Int)
theorem zy:(#[.int .i64 0,.int .i64 0,.int .i64 0,.int .i64 0,.int .i64 0,.int .i64 0,.int .i64 0,.int .i64 0,.int .i64 0,.int .i64 0,.int .i64 0,.int .i64 0,.int .i64 0,.int .i64 0,.int .i64 0,.int .i64 0]:Array Value)=bZ 16 (λ_=>0):=rfl
def Ia(v:Value)(d:Z0)(w:World)(Q:ah w eB v d)(hn:d.length<=300)(Y:∀c∈d,c.toNat<=15):Calls Tryz.prog 259 #[v] w λe w'=>e=.returned (.tuple #[.agg (bZ 16 (fw d)),.bool true])/\Fr w w':=by
 obtain⟨a,a1,rfl,a2,Z,a3⟩:=Q.shape;unfold maxLen at Z;have a4:¬(300:Int)<d.length:=ω
 have R:(w.alloc (.cells (bZ 16 (λ_=>0)) 374)).heap[w.heap.size]?=some (.cells (bZ 16 (λ_=>0)) 374 (0,0)):=aB _ _ _ rfl;have F:Fr w (w.alloc (.cells (bZ 16 (λ_=>0)) 374)):=(Fr.refl w).alloc _;have G:dW (w.alloc (.cells (bZ 16 (λ_=>0)) 374)) w.heap.size 374 16 (yt d 0):=by unfold dW;rw[R,BV (f':=yt d 0) λi _=>by show(0:Int)=((aE (d.take 0) i:Nat):Int);rw[lj];rfl]
 rw[<- zy]at F G;clear R;go_in;go_wp2_with fail;generalize hW:w.alloc (.cells _ 374)=W0 at *;clear hW;go_loopw [12] (λI wr=>∃k:Nat,k<=d.length/\I=N k/\dW wr w.heap.size 374 16 (yt d k)/\Fr w wr) (λI _=>d.length-(intOf I).toNat);case atStart=>exact⟨0,ar _,rfl,G,F⟩
 case round=>
  clear G F;obtain⟨k,U,rfl,o,z⟩:=hrel;by_cases J:k<d.length
  ·obtain⟨b,a6,a7,hv,c0⟩:=(Q.fr z).cell1 (λc=>Fk.u8 c) rfl k J;have ba:=Y _ (bJ J);have V:=ad (λl=>qe d k l J);generalize d[k]=c at *;cases hv;generalize bb:c.toNat=m at *;have bc:=qf (d.take k) m;have bd:(d.take k).length<=300:=(by rw[aA];omega);have e1:wr.cell? ⟨w.heap.size,m,none⟩=some (.int .i64 ((aE (d.take k) m:Nat):Int)):=o.cell m ω;have e2:=o.frozen m;have D:=ad (o.set m (((aE (d.take k) m:Nat):Int)+1));have K:Hid (dW (wr.setCell ⟨w.heap.size,m,none⟩ (.int .i64 (((aE (d.take k) m:Nat):Int)+1))) w.heap.size 374 16 (yt d (k+1))):=D.out.congr λi hi=>by
    show(if i=m then _ else _)=((aE (d.take (k+1)) i:Nat):Int);rw[V.out i];by_cases h:i=m;·subst h;simp
    ·rw[ae h,ae (iG h)];simp
   clear D V;have i1:(0:Int)<=k:=ω;have i2:(k:Int)<d.length:=ω;have i3:(0:Int)<=m:=ω;have i4:(m:Int)<16:=ω;have i5:¬(15:Int)<m:=ω;have i6:m<16:=ω;generalize aE (d.take k) m=q at *;go_wp2;go_roundw;case rel=>exact⟨k+1,ω,γ,K.out,ep z (al _) z.size⟩
   case measure=>exact μ
  ·obtain rfl:k=d.length:=ω;have bu:¬((d.length:Int)<d.length):=ω;have e2:=o.frozen 0;have e1:wr.cell? ⟨w.heap.size,0,none⟩=some (.int .i64 ((aE (d.take d.length) 0:Nat):Int)):=o.cell 0 ω;have D:=ad (o.set 0 0);have K:Hid (dW (wr.setCell ⟨w.heap.size,0,none⟩ (.int .i64 0)) w.heap.size 374 16 (fw d)):=D.out.congr λi hi=>(by show(if i=0 then(0:Int)else((aE (d.take d.length) i:Nat):Int))=if i=0 then 0 else((aE d i:Nat):Int);rw[dY]);have X:Hid (Fr w (wr.setCell ⟨w.heap.size,0,none⟩ (.int .i64 0))):=ep z (al _) z.size;clear D o;go_upto_region 11 with fail;generalize wr.setCell ⟨w.heap.size,0,none⟩ (.int .i64 0)=L at *;have M:L.heap[w.heap.size]?=some (.cells (bZ 16 (fw d)) 374 (0,0)):=K.out;have O:(Tryz.prog.info? 374).map (·.size)=some (bZ 16 (fw d)).size:=(by rw[sj];kernel_rfl);go_wp2_with (first | (refine ml rfl 374 (.tmp 2) rfl w.heap.size rfl 374 (bZ 16 (fw d)) (0,0) _ M Tryz.underlying374 rfl O ?_) | (refine fz rfl 374 (.tmp 2) (.tmp 26) rfl w.heap.size (bZ 16 (fw d)) rfl rfl 374 (bZ 16 (fw d)) M O rfl (BU _ _) ?_));have h1:=iq L w.heap.size (bZ 16 (fw d)) (bZ 16 (fw d)) 374 (0,0) M;have h2:=dl L w.heap.size (bZ 16 (fw d));exact bFQb (v:=.tuple #[.agg (bZ 16 (fw d)),.bool true]) (qK Tryz.results259 _ _ w.heap.size 374 _ (0,0) _ _ rfl rfl h1 Tryz.underlying374 rfl O) rfl ⟨rfl,ai.below X.out h2 X.out.size (λk U=>iT U.symm)⟩
def DO(f:Nat->Nat)(b:Nat)(h:∀k,f k<=b):∀l,dk f l<=l*b:=by
 intro l
 induction l with
 | zero=>simp[dk]
 | succ l d=>rw[dk,be];have:=h (l+1);omega
def K8(d:Z0)(w:World)(hn:d.length<=300):Calls Tryz.prog 260 #[.agg (bZ 16 (fw d))] w λe w'=>e=.returned (.tuple #[N (dk (λk=>aE d k*2^(15-k)) 15),N (dk (aE d) 15)])/\Fr w w':=by
 have Q:dW (w.alloc (.cells (bZ 16 (fw d)) 374)) w.heap.size 374 16 (fw d):=aB _ _ _ rfl;have U:Fr w (w.alloc (.cells (bZ 16 (fw d)) 374)):=(Fr.refl w).alloc _;have a2:(bZ 16 (fw d)).size=16:=sj _ _;have z:=ad (λk=>qf d k);generalize V:bZ 16 (fw d)=R at *;go_in;go_wp2_with fail;generalize X:w.alloc (.cells R 374)=D at *;clear X V;go_loopw [2,3,4] (λY Z A wr=>∃l:Nat,l<=15/\A=N (l+1)/\Hid (Y=N (dk (λk=>aE d k*2^(15-k)) l))/\Hid (Z=N (dk (aE d) l))/\D=wr) (λ_ _ A _=>16-(intOf A).toNat);case atStart=>exact⟨0,ω,rfl,rfl,rfl,by first | rfl | trivial⟩
 case round=>
  obtain⟨l,F,rfl,G,I,rfl⟩:=hrel;have J:=G.out;have K:=I.out;have a3 : dk (fun k => aE d k * 2 ^ (15 - k)) l ≤ 15 * (300 * 32768) := ay (DO _ (300 * 32768) (fun k => by
    have h1 := z.out k;have h : (2 : Nat)^(15-k) ≤ 32768 := ay (fp ω (show 15-k ≤ 15 by omega)) δ
    exact bH ω h) l) (bQ _ F)
  have a5:dk (aE d) l<=15*300:=ay (DO _ 300 (λk=>by have:=z.out k;omega) l) (bQ _ F);have L:Hid (dk (λk=>aE d k*2^(15-k)) (l+1)=dk (λk=>aE d k*2^(15-k)) l+aE d (l+1)*2^(14-l)):=ad (by rw[dk,show 15-(l+1)=14-l by omega]);have M:Hid (dk (aE d) (l+1)=dk (aE d) l+aE d (l+1)):=rfl;by_cases a6:l<15
  ·have a7:((l+1:Nat):Int)<16:=ω;have e1:D.cell? ⟨w.heap.size,l+1,none⟩=some (.int .i64 ((aE d (l+1):Nat):Int)):=Q.cell' (l+1) ω (by simp[fw]);have ba:=z.out (l+1);have h:(2:Nat)^(14-l)<=32768:=ay (fp ω (show 14-l<=15 by omega)) δ;have bb:aE d (l+1)*2^(14-l)<=300*32768:=bH ω h;have bc:IntKind.i64.wrap (15-((l+1:Nat):Int))=((14-l:Nat):Int):=(by rw[ax _ ω];omega);have O:IntKind.i64.wrap (((aE d (l+1):Nat):Int)*2^(14-l))=((aE d (l+1)*2^(14-l):Nat):Int):=(by have e:((aE d (l+1):Nat):Int)*2^(14-l)=((aE d (l+1)*2^(14-l):Nat):Int):=σ;rw[e];exact ax _ ω);have aa:=ad L.out;have ab:=ad O;clear O;generalize ac:aE d (l+1)*2^(14-l)=mu at *;generalize m:dk (λk=>aE d k*2^(15-k)) l=sx at *;generalize o:dk (aE d) l=mx at *;generalize aE d (l+1)=q at *;have bf:(0:Int)<=((14-l:Nat):Int):=ω;have i1:(0:Int)<=((l+1:Nat):Int):=ω;have i2:l+1<16:=ω;subst J K;clear G I m o ac h;go_wp2;go_roundw
   case rel=>
    refine⟨l+1,ω,γ,?_,?_,by first | rfl | trivial⟩;·show _=_;rw[aa.out];have h9:=ab.out;rw[<- IntWalk.i64_left,<- IntWalk.i64_left,h9,ax _ ω];show Value.int _ _=Value.int _ _;congr 1
    ·show _=_;rw[M.out];show Value.int _ _=Value.int _ _;congr 1
   case measure=>exact μ
  ·obtain rfl:l=15:=ω;subst J K;clear L M;generalize m:dk (λk=>aE d k*2^(15-k)) 15=sx at *;generalize o:dk (aE d) 15=mx at *;have av:=ad m;have a0:=ad o;clear m o;have bm:¬((15+1:Nat):Int)<16:=ω;go_wp2;go_ret2;exact⟨by rw[av.out,a0.out];rfl,U⟩
def yT(v:Value)(d:Z0)(w:World)(O:ah w eB v d)(Q:d.length<=300)(J:∀c∈d,c.toNat<=15):Calls Tryz.prog 233 #[v] w λe w'=>e=.returned (.int .i64 (if bX d then 0 else 7))/\Fr w w':=by
 obtain⟨a,a5,rfl,a6,ab,a7⟩:=O.shape;unfold maxLen at ab;have ac:=ad (Ia _ d w O Q J);have U:=ad (λW=>K8 d W Q);rw[DG d J,M6 d J]at U;have V:(bZ 16 (fw d)).size=16:=sj _ _;have X:=BU 16 (fw d);have aC:=Kx d;have ba:=Rv d;have z:Hid (bX d=(decide (jH d=0) || decide (l8 d=32768) || (decide (jH d=1) && decide (aE d 1=1)))):=rfl;have aj:(bZ 16 (fw d))[1]?=some (.int .i64 ((aE d 1:Nat):Int)):=by rw[vT 16 _ 1 ω];rfl
 have bb:=qf d 1;generalize bX d=okb,aE d 1=c1,jH d=wd,l8 d=kr,bZ 16 (fw d)=R at *;have K:(Tryz.prog.info? 374).map (·.size)=some R.size:=by rw[V];kernel_rfl
 go_in;go_wp2_with fail;refine ac.out.mono ?_;rintro e h ⟨rfl,ak⟩;have D:(h.alloc (.cells (bZ 16 (λ_=>0)) 374)).heap[h.heap.size]?=some (.cells (bZ 16 (λ_=>0)) 374 (0,0)):=aB _ _ _ rfl;have F:Fr h (h.alloc (.cells (bZ 16 (λ_=>0)) 374)):=(Fr.refl h).alloc _;have hz:(bZ 16 (λ_=>0)).size=16:=rfl;rw[<- zy]at D F hz;go_upto_region 2 with(refine fz rfl 374 (.tmp 3) (.tmp 10) rfl h.heap.size R rfl rfl 374 _ D K (by rw[V];rfl) X ?_);have L:=iq _ h.heap.size _ R 374 (0,0) D;have av:Fr h (World.setRow _ h.heap.size R):=ai.below F (dl _ h.heap.size R) F.size (λk o=>iT o.symm);generalize a0:World.setRow _ h.heap.size R=w2 at *;clear a0 D F;go_wp2_with (first | (refine ml rfl 374 (.tmp 3) rfl h.heap.size rfl 374 R (0,0) _ L Tryz.underlying374 rfl K ?_));refine(U.out w2).mono ?_;rintro e w3 ⟨rfl,Y⟩;have Z:=Y.heap L;have e1:w3.cell? ⟨h.heap.size,1,none⟩=some (.int .i64 (c1:Int)):=by rw[aK Z];exact aj
 have A:=(ak.trans av).trans Y;clear L Z X K;by_cases G:wd=0;·have m:okb=true:=(by rw[z.out,G];rfl);subst m G;go_wp2;go_ret;exact⟨rfl,A⟩
 ·have bd:(0:Int)<wd:=ω;have bf:decide (0<wd)=true:=bp ω;have bk:0<wd:=ω;by_cases o:kr=32768;·have m:okb=true:=(by rw[z.out,o];simp);have aa:((kr:Int) == 32768)=true:=(by simp;omega);subst m o;go_wp2;go_ret;exact⟨rfl,A⟩
  ·have aa:((kr:Int) == 32768)=false:=(by simp;omega);have bl:¬(kr:Int)=32768:=ω;have bm:((kr:Int) != 32768)=true:=(by rw[bne,aa];rfl);by_cases I:wd=1
   ·by_cases M:c1=1;·have m:okb=true:=(by rw[z.out,I,M];simp);subst m I M;go_wp2;go_ret;exact⟨rfl,A⟩
    ·have m:okb=false:=(by rw[z.out];simp[G,o,M]);have a3:((c1:Int) == 1)=false:=(by simp;omega);have bn:¬(c1:Int)=1:=ω;have bs:((c1:Int) != 1)=true:=(by rw[bne,a3];rfl);subst m I;go_wp2;go_ret;exact⟨rfl,A⟩
   ·have m:okb=false:=(by rw[z.out];simp[G,o,I]);have a4:((wd:Int) == 1)=false:=(by simp;omega);have bu:¬(wd:Int)=1:=ω;have bv:((wd:Int) != 1)=true:=(by rw[bne,a4];rfl);subst m;go_wp2;go_ret;exact⟨rfl,A⟩
def qi{w:World}{v:Value}{l:Z0}(h:ah w eB v l)(k:Nat)(e:k<l.length) :
  ∃b d m,v=.slice (some ⟨b,d,none⟩) l.length m/\w.cell? ⟨b,d+k,none⟩=some (Fk.u8 l[k]):=h.cell1 (λc=>Fk.u8 c) rfl k e
def zJ(c:UInt8):c=0↔c.toNat=0:=⟨λe=>by rw[e];rfl,λe=>eP.1 (by simpa using e)⟩
def VR(b:Z0)(f a n:Nat)(h:n<257)(d:a+n<b.length)(m:f<=a)(e:b[f+n]'ω=b[a+n]):ii b (f+n) (a+n) (257-n)=ii b (f+(n+1)) (a+(n+1)) (257-(n+1))+1:=by
 rw[show 257-n=257-(n+1)+1 by omega,ii,af ⟨d,by rw[bj ω,bj d,e]⟩];rfl
def VS(b:Z0)(f a n:Nat)(d:a+n<b.length)(m:f<=a)(e:b[f+n]'ω≠b[a+n]):ii b (f+n) (a+n) (257-n)=0:=by
 cases o:257-n with
 | zero=>rfl
 | succ k=>rw[ii,ae (λh=>e (by have:=h.2;rw[bj ω,bj d]at this;exact jU this))]
def Jd(b:Z0)(f a n:Nat)(h:257<=n\/b.length<=a+n):ii b (f+n) (a+n) (257-n)=0:=by
 cases d:257-n with
 | zero=>rfl
 | succ k=>rw[ii,ae (λh=>by omega)]
def Rq(v:Value)(l:Z0)(f a:Nat)(w:World)(F:ah w eB v l)(hn:l.length<=1000000)(ac:f<a)(ha:a<=l.length):Calls Tryz.prog 197 #[v,N f,N a] w λe w'=>e=.returned (N (kY l f a))/\∃m,w'=w.drewN m:=by
 obtain⟨a0,ap,rfl,av,R,a1⟩:=F.shape;unfold maxLen at R;have O:=ad (λk U=>qi F k U);clear F;go_in;go_wp2;go_loopw [7] (λG wr=>∃n:Nat,n<=257/\G=N n/\a+n<=l.length/\Hid (kY l f a=n+ii l (f+n) (a+n) (257-n))/\∃q,wr=w.drewN q) (λG _=>257-(intOf G).toNat);case atStart=>exact⟨0,ω,rfl,ω,by show _=_;unfold kY;simp,0,rfl⟩
 case round=>
  obtain⟨n,a2,rfl,a3,d,q,rfl⟩:=hrel;have i0:(0:Int)<=n:=ω;have i1:(0:Int)<=(a:Int)+n:=ω;have i2:(0:Int)<=(f:Int)+n:=ω;by_cases V:n<257
  ·have X:(n:Int)<257:=ω;by_cases I:a+n<l.length
   ·have Y:(a:Int)+n<l.length:=ω;have a7:(f:Int)+n<l.length:=ω;obtain⟨b,Q,Z,J,A⟩:=O.out (a+n) I;cases J;obtain⟨b',ba,Z,J,D⟩:=O.out (f+n) ω;cases J;have K:=ad (VR l f a n V I ω);have L:=ad (VS l f a n I ω);generalize l[a+n]=x at *;generalize l[f+n]=y at *;replace A:=((Fr.refl w).drewN q).cell A;replace D:=((Fr.refl w).drewN q).cell D;replace A:(w.drewN q).cell? ⟨b,Q+(a+n),none⟩=some (.int .u8 ((x.toNat:Nat):Int)):=A;replace D:(w.drewN q).cell? ⟨b,Q+(f+n),none⟩=some (.int .u8 ((y.toNat:Nat):Int)):=D;by_cases z:y=x
    ·have h:Hid (kY l f a=(n+1)+ii l (f+(n+1)) (a+(n+1)) (257-(n+1))):=(by show _=_;rw[d.out,K.out z];omega);subst z;clear K L d;generalize y.toNat=M at *;generalize o:w.drewN q=W at *;go_upto_region 2 with fail;go_quiet (fail);go_wp2;go_roundw;case rel=>exact⟨n+1,ω,γ,ω,h,q+nq,by rw[<- o,pp]⟩
     case measure=>exact μ
    ·have h:Hid (kY l f a=n):=ad (by rw[d.out,L.out z,dq]);have bb:¬y.toNat=x.toNat:=λe=>z (eP.1 e);clear K L d z;generalize x.toNat=xn,y.toNat=M at *;have aa:¬(M:Int)=xn:=ω;have bc:((M:Int) == xn)=false:=(by simp[aa]);generalize o:w.drewN q=W at *;go_upto_region 2 with fail;go_quiet (fail);go_wp2;go_ret;exact⟨by rw[h.out];rfl,q+nq,by rw[<- o,pp]⟩
   ·have Y:¬(a:Int)+n<l.length:=ω;have h:Hid (kY l f a=n):=ad (by rw[d.out,Jd l f a n ω,dq]);clear d;generalize o:w.drewN q=W at *;go_upto_region 2 with fail;go_quiet (fail);go_wp2;go_ret;exact⟨by rw[h.out];rfl,q+nq,by rw[<- o,pp]⟩
  ·have X:¬(n:Int)<257:=ω;have h:Hid (kY l f a=n):=ad (by rw[d.out,Jd l f a n ω,dq]);clear d;generalize o:w.drewN q=W at *;go_upto_region 2 with fail;go_quiet (fail);go_wp2;go_ret;exact⟨by rw[h.out];rfl,q+nq,by rw[<- o,pp]⟩
def kS:aw Tryz.prog aU:=⟨238,3,24,⟨0,0,0⟩,.agg #[.int .u8 0,.int .i64 0,.int .i64 0],λt=>[Fk.u8 t.lit,N t.len,N t.dist],by kernel_rfl,δ,δ,by simp[Value.cells],λ_=>rfl,by intro x u d;simp only[gR,iU,or_false]at d;rcases d with rfl | rfl | rfl <;> rfl⟩
