/- Parts of the proof of ArchEnds: K1 K2 K4 Z1 Z2. -/
import Derived.Test.YtfpijnhhdfoohaaGreatDoorM11
import Derived.Test.YtfpijnhhdfoohaaGreatDoorM00
import Derived.Test.YtfpijnhhdfoohaaGreatDoorM14
set_option linter.unusedVariables false
set_option linter.unusedSectionVars false
set_option linter.unusedSimpArgs false
set_option maxHeartbeats 8000000
set_option maxRecDepth 100000
namespace Go.Fk
abbrev btQb:=@decide_eq_true
abbrev rq:=@Go.run_loadVar_row
end Go.Fk
namespace Go.Proofs.YtfpijnhhdfoohaaGreatDoor
open Go.RowKit Go.Fk
theorem n6{P:Program}{o:Func}{p q:Tmp}{e:TypeId}(h:o.results=#[.cell p e,.tmp q])(tmps:Array Value)(w:World)(g:Nat)(t:TypeId)(m:Array Value)(z:Nat × Nat)(d:TypeDesc)(v:Value)
  (hp:tmps.getD p undef=.pointer (some ⟨g,0,none⟩)) (hq:tmps.getD q undef=v) (hg:w.heap[g]?=some (.cells m t z))
  (hu:P.underlying e=some d) (hd:(match d with | .struct _ | .array _ _=>true | _=>false)=true) (hi:(P.info? e).map (·.size)=some m.size) :
  (results o tmps).run P w=.ok (.tuple #[.agg m,v]) w:=by
 have A:tmps[p]?.getD undef=.pointer (some ⟨g,0,none⟩):=by simpa using hp
 have B:tmps[q]?.getD undef=v:=by simpa using hq
 simp [results,h,A,B,asAddr,rq w g t e m z d hg hu hd hi]
abbrev uH(d:List UInt8)(k:Nat):Nat->Int:=fun l=>((aB (d.take k) l:Nat):Int)
abbrev dL(d:List UInt8):Nat->Int:=fun l=>if l=0 then 0 else((aB d l:Nat):Int)
theorem vK:(#[.int .i64 0,.int .i64 0,.int .i64 0,.int .i64 0,.int .i64 0,.int .i64 0,.int .i64 0,.int .i64 0,.int .i64 0,.int .i64 0,.int .i64 0,.int .i64 0,.int .i64 0,.int .i64 0,.int .i64 0,.int .i64 0]:Array Value)=bG 16 (fun _=>0):=rfl
theorem Dz (v : Value) (d : List UInt8) (w : World) (O : ai w eB v d) (hn : d.length ≤ 300) (X : ∀ c ∈ d, c.toNat ≤ 15) :
    Calls Tryz.prog 248 #[v] w fun e Y=>e=.returned (.tuple #[.agg (bG 16 (dL d)),.bool true])/\Fr w Y:=by
  obtain⟨a,a1,rfl,a2,Z,a3⟩:=O.shape;unfold maxLen at Z;have a4:¬(300:Int)<d.length:=(by omega);have Q:(w.alloc (.cells (bG 16 (fun _=>0)) 358)).heap[w.heap.size]?=some (.cells (bG 16 (fun _=>0)) 358 (0,0)):=a9 _ _ _ rfl;have D:Fr w (w.alloc (.cells (bG 16 (fun _=>0)) 358)):=(Fr.refl w).alloc _;have F:cV (w.alloc (.cells (bG 16 (fun _=>0)) 358)) w.heap.size 358 16 (uH d 0):=(by unfold cV;rw [Q,yN (f':=uH d 0) fun i _=>by show(0:Int)=((aB (d.take 0) i:Nat):Int);rw [ld];rfl]);rw [<- vK]at D F;clear Q;go_enter Tryz.func248, Tryz.ntmps248;go_wp2_with fail;generalize hW:w.alloc (.cells _ 358)=W0 at *;clear hW;go_loopw [12] (fun G wr=>∃ k:Nat,k<=d.length/\G=N k/\cV wr w.heap.size 358 16 (uH d k)/\Fr w wr) (fun G _=>d.length - (intOf G).toNat);case atStart=>exact⟨0,an _,rfl,F,D⟩
  case round=>
    clear F D;obtain⟨k,R,rfl,o,z⟩:=hrel;by_cases I:k<d.length
    · obtain⟨b,a6,a7,hv,c0⟩:=(O.fr z).cell1 (fun c=>Fk.u8 c) rfl k I;have ba:=X _ (bX I);have U:=ad (fun l=>nK d k l I);generalize d[k]=c at *;cases hv;generalize bb:c.toNat=m at *;have bc:=nL (d.take k) m;have bd:(d.take k).length<=300:=(by rw [aG];omega);have e1:wr.cell? ⟨w.heap.size,m,none⟩=some (.int .i64 ((aB (d.take k) m:Nat):Int)):=o.cell m (by omega);have e2:=o.frozen m;have B:=ad (o.set m (((aB (d.take k) m:Nat):Int)+1));have J:Hid (cV (wr.setCell ⟨w.heap.size,m,none⟩ (.int .i64 (((aB (d.take k) m:Nat):Int)+1))) w.heap.size 358 16 (uH d (k+1))):=B.out.congr fun i hi=>by
        show(if i=m then _ else _)=((aB (d.take (k+1)) i:Nat):Int);rw [U.out i];by_cases h:i=m;· subst h;simp
        · rw [ae h,ae (fy h)];simp
      clear B U;have i1:(0:Int)<=k:=(by omega);have i2:(k:Int)<d.length:=(by omega);have i3:(0:Int)<=m:=(by omega);have i4:(m:Int)<16:=(by omega);have i5:¬(15:Int)<m:=(by omega);have i6:m<16:=(by omega);generalize aB (d.take k) m=q at *;go_wp2_with fail;go_roundw;case rel=>exact⟨k+1,by omega,by go_num,J.out,ex z (am _) z.size⟩
      case measure=>simp [intOf];omega
    · obtain rfl:k=d.length:=(by omega);have bv:¬((d.length:Int)<d.length):=(by omega);have e2:=o.frozen 0;have e1:wr.cell? ⟨w.heap.size,0,none⟩=some (.int .i64 ((aB (d.take d.length) 0:Nat):Int)):=o.cell 0 (by omega);have B:=ad (o.set 0 0);have J:Hid (cV (wr.setCell ⟨w.heap.size,0,none⟩ (.int .i64 0)) w.heap.size 358 16 (dL d)):=B.out.congr fun i hi=>(by show(if i=0 then(0:Int)else((aB (d.take d.length) i:Nat):Int))=if i=0 then 0 else((aB d i:Nat):Int);rw [dO]);have V:Hid (Fr w (wr.setCell ⟨w.heap.size,0,none⟩ (.int .i64 0))):=ex z (am _) z.size;clear B o;go_upto_region 11 with fail;generalize wr.setCell ⟨w.heap.size,0,none⟩ (.int .i64 0)=K at *;have L:K.heap[w.heap.size]?=some (.cells (bG 16 (dL d)) 358 (0,0)):=J.out;have M:(Tryz.prog.info? 358).map (·.size)=some (bG 16 (dL d)).size:=(by rw [pW];kernel_rfl);go_wp2_with (first | (refine kD rfl 358 (.tmp 2) rfl w.heap.size rfl 358 (bG 16 (dL d)) (0,0) _ L Tryz.underlying358 rfl M ?_) | (refine bS rfl 358 (.tmp 2) (.tmp 26) rfl w.heap.size (bG 16 (dL d)) rfl rfl 358 (bG 16 (dL d)) L M rfl (yM _ _) ?_));have h1:=cP K w.heap.size (bG 16 (dL d)) (bG 16 (dL d)) 358 (0,0) L;have h2:=bC K w.heap.size (bG 16 (dL d));exact aL (v:=.tuple #[.agg (bG 16 (dL d)),.bool true]) (n6 Tryz.results248 _ _ w.heap.size 358 _ (0,0) _ _ rfl rfl h1 Tryz.underlying358 rfl M) rfl ⟨rfl,ah.below V.out h2 V.out.size (fun k R=>fO R.symm)⟩
theorem AB(f:Nat->Nat)(b:Nat)(h:∀ k,f k<=b):∀ l,ce f l<=l*b:=by
 intro l
 induction l with
 | zero=>simp [ce]
 | succ l d=>rw [ce,bU];have:=h (l+1);omega
theorem FO (d : List UInt8) (w : World) (hn : d.length ≤ 300) :
    Calls Tryz.prog 249 #[.agg (bG 16 (dL d))] w fun e O=>e=.returned (.tuple #[N (ce (fun k=>aB d k*2 ^ (15 - k)) 15),N (ce (aB d) 15)])/\Fr w O:=by
  have Q:cV (w.alloc (.cells (bG 16 (dL d)) 358)) w.heap.size 358 16 (dL d):=a9 _ _ _ rfl;have U:Fr w (w.alloc (.cells (bG 16 (dL d)) 358)):=(Fr.refl w).alloc _;have a2:(bG 16 (dL d)).size=16:=pW _ _;have z:=ad (fun k=>nL d k);generalize V:bG 16 (dL d)=R at *;go_enter Tryz.func249, Tryz.ntmps249;go_wp2_with fail;generalize X:w.alloc (.cells R 358)=B at *;clear X V;go_loopw [2,3,4] (fun Y Z A wr=>∃ l:Nat,l<=15/\A=N (l+1)/\Hid (Y=N (ce (fun k=>aB d k*2 ^ (15 - k)) l))/\Hid (Z=N (ce (aB d) l))/\B=wr) (fun _ _ A _=>16 - (intOf A).toNat);case atStart=>exact⟨0,by omega,rfl,rfl,rfl,by first | rfl | trivial⟩
  case round=>
    obtain⟨l,D,rfl,F,G,rfl⟩:=hrel;have I:=F.out;have J:=G.out;have a3 : ce (fun k => aB d k * 2 ^ (15 - k)) l ≤ 15 * (300 * 32768) := az (AB _ (300 * 32768) (fun k => by
      have h1 := z.out k;have h : (2 : Nat) ^ (15 - k) ≤ 32768 := az (ep (by omega) (show 15 - k ≤ 15 by omega)) (by decide)
      exact bJ (by omega) h) l) (dm _ D)
    have a5:ce (aB d) l<=15*300:=az (AB _ 300 (fun k=>by have:=z.out k;omega) l) (dm _ D);have K:Hid (ce (fun k=>aB d k*2 ^ (15 - k)) (l+1)=ce (fun k=>aB d k*2 ^ (15 - k)) l+aB d (l+1)*2 ^ (14 - l)):=(by show _=_;rw [ce,show 15 - (l+1)=14 - l by omega]);have L:Hid (ce (aB d) (l+1)=ce (aB d) l+aB d (l+1)):=rfl;by_cases a6:l<15
    · have a7:((l+1:Nat):Int)<16:=(by omega);have e1:B.cell? ⟨w.heap.size,l+1,none⟩=some (.int .i64 ((aB d (l+1):Nat):Int)):=Q.cell' (l+1) (by omega) (by simp [dL]);have ba:=z.out (l+1);have h:(2:Nat) ^ (14 - l)<=32768:=az (ep (by omega) (show 14 - l<=15 by omega)) (by decide);have bb:aB d (l+1)*2 ^ (14 - l)<=300*32768:=bJ (by omega) h;have bc:IntKind.i64.wrap (15 - ((l+1:Nat):Int))=((14 - l:Nat):Int):=(by rw [awQb _ (by omega)];omega);have M:IntKind.i64.wrap (((aB d (l+1):Nat):Int)*2 ^ (14 - l))=((aB d (l+1)*2 ^ (14 - l):Nat):Int):=(by have e:((aB d (l+1):Nat):Int)*2 ^ (14 - l)=((aB d (l+1)*2 ^ (14 - l):Nat):Int):=(by simp);rw [e];exact awQb _ (by omega));have aa:=ad K.out;have ab:=ad M;clear M;generalize ac:aB d (l+1)*2 ^ (14 - l)=mu at *;generalize m:ce (fun k=>aB d k*2 ^ (15 - k)) l=sx at *;generalize o:ce (aB d) l=mx at *;generalize aB d (l+1)=q at *;have bf:(0:Int)<=((14 - l:Nat):Int):=(by omega);have i1:(0:Int)<=((l+1:Nat):Int):=(by omega);have i2:l+1<16:=(by omega);subst I J;clear F G m o ac h;go_wp2_with fail;go_roundw
      case rel=>
        refine⟨l+1,by omega,by go_num,?_,?_,by first | rfl | trivial⟩;· show _=_;rw [aa.out];have h9:=ab.out;rw [<- IntWalk.i64_left,<- IntWalk.i64_left,h9,awQb _ (by omega)];show Value.int _ _=Value.int _ _;congr 1
        · show _=_;rw [L.out];show Value.int _ _=Value.int _ _;congr 1
      case measure=>simp [intOf];omega
    · obtain rfl:l=15:=(by omega);subst I J;clear K L;generalize m:ce (fun k=>aB d k*2 ^ (15 - k)) 15=sx at *;generalize o:ce (aB d) 15=mx at *;have av:=ad m;have a0:=ad o;clear m o;have bm:¬((15+1:Nat):Int)<16:=(by omega);go_wp2_with fail;go_ret2;exact⟨by rw [av.out,a0.out];rfl,U⟩
theorem uZ(v:Value)(d:List UInt8)(w:World)(U:ai w eB v d)(V:d.length<=300)(L:∀ c∈d,c.toNat<=15) :
  Calls Tryz.prog 215 #[v] w fun e w'=>e=.returned (.int .i64 (if cI d then 0 else 7))/\Fr w w':=by
 obtain⟨a,aC,rfl,ba,ak,bb⟩:=U.shape;unfold maxLen at ak;have ap:=ad (Dz _ d w U V L);have X:=ad (fun W=>FO d W V);rw [A7 d L,Il d L]at X;have Y:(bG 16 (dL d)).size=16:=pW _ _;have Z:=yM 16 (dL d);have bc:=FD d;have bd:=M8 d;have z:Hid (cI d=(decide (jc d=0) || decide (kQ d=32768) || (decide (jc d=1) && decide (aB d 1=1)))):=rfl;have av:(bG 16 (dL d))[1]?=some (.int .i64 ((aB d 1:Nat):Int)):=by rw [sQ 16 _ 1 (by omega)];rfl
 have bf:=nL d 1;generalize bG 16 (dL d)=R at *;generalize kQ d=A at *;generalize jc d=o at *;generalize aB d 1=B at *;generalize cI d=D at *;have M:(Tryz.prog.info? 358).map (·.size)=some R.size:=by rw [Y];kernel_rfl
 go_enter Tryz.func215, Tryz.ntmps215;go_wp2_with fail;refine ap.out.mono ?_;rintro e h ⟨rfl,a0⟩;have G:(h.alloc (.cells (bG 16 (fun _=>0)) 358)).heap[h.heap.size]?=some (.cells (bG 16 (fun _=>0)) 358 (0,0)):=a9 _ _ _ rfl;have I:Fr h (h.alloc (.cells (bG 16 (fun _=>0)) 358)):=(Fr.refl h).alloc _;have hz:(bG 16 (fun _=>0)).size=16:=rfl;rw [<- vK]at G I hz;go_upto_region 2 with(refine bS rfl 358 (.tmp 3) (.tmp 10) rfl h.heap.size R rfl rfl 358 _ G M (by rw [Y];rfl) Z ?_);have O:=cP _ h.heap.size _ R 358 (0,0) G;have a2:Fr h (World.setRow _ h.heap.size R):=ah.below I (bC _ h.heap.size R) I.size (fun k q=>fO q.symm);generalize a3:World.setRow _ h.heap.size R=w2 at *;clear a3 G I;go_wp2_with (first | (refine kD rfl 358 (.tmp 3) rfl h.heap.size rfl 358 R (0,0) _ O Tryz.underlying358 rfl M ?_));refine(X.out w2).mono ?_;rintro e w3 ⟨rfl,aa⟩;have h3:=aa.heap O;have e1:w3.cell? ⟨h.heap.size,1,none⟩=some (.int .i64 (B:Int)):=by rw [aA h3];exact av
 have F:=(a0.trans a2).trans aa;clear O h3 Z M;by_cases J:o=0;· have m:D=true:=(by rw [z.out,J];rfl);subst m J;go_wp2_with fail;go_ret;exact⟨rfl,F⟩
 · have bl:(0:Int)<o:=(by omega);have bm:decide (0<o)=true:=btQb (by omega);have bs:0<o:=(by omega);by_cases q:A=32768;· have m:D=true:=(by rw [z.out,q];simp);have ac:((A:Int) == 32768)=true:=(by simp;omega);subst m q;go_wp2_with fail;go_ret;exact⟨rfl,F⟩
   · have ac:((A:Int) == 32768)=false:=(by simp;omega);have bu:¬(A:Int)=32768:=(by omega);have bv:((A:Int) != 32768)=true:=(by rw [bne,ac];rfl);by_cases K:o=1
     · by_cases Q:B=1;· have m:D=true:=(by rw [z.out,K,Q];simp);subst m K Q;go_wp2_with fail;go_ret;exact⟨rfl,F⟩
       · have m:D=false:=(by rw [z.out];simp [J,q,Q]);have a6:((B:Int) == 1)=false:=(by simp;omega);have bx:¬(B:Int)=1:=(by omega);have b0:((B:Int) != 1)=true:=(by rw [bne,a6];rfl);subst m K;go_wp2_with fail;go_ret;exact⟨rfl,F⟩
     · have m:D=false:=(by rw [z.out];simp [J,q,K]);have a7:((o:Int) == 1)=false:=(by simp;omega);have b1:¬(o:Int)=1:=(by omega);have b2:((o:Int) != 1)=true:=(by rw [bne,a7];rfl);subst m;go_wp2_with fail;go_ret;exact⟨rfl,F⟩
theorem nO{w:World}{v:Value}{l:List UInt8}(h:ai w eB v l)(k:Nat)(e:k<l.length) :
  ∃ b d m,v=.slice (some ⟨b,d,none⟩) l.length m/\w.cell? ⟨b,d+k,none⟩=some (Fk.u8 l[k]):=h.cell1 (fun c=>Fk.u8 c) rfl k e
theorem vV(c:UInt8):c=0↔c.toNat=0:=⟨fun e=>by rw [e];rfl,fun e=>eA.1 (by simpa using e)⟩
theorem Q8(b:List UInt8)(f a n:Nat)(h:n<257)(d:a+n<b.length)(m:f<=a)(e:b[f+n]'(by omega)=b[a+n]):ft b (f+n) (a+n) (257 - n)=ft b (f+(n+1)) (a+(n+1)) (257 - (n+1))+1:=by
 rw [show 257 - n=257 - (n+1)+1 by omega,ft,ag ⟨d,by rw [bE (by omega),bE d,e]⟩];rfl
theorem Q9(b:List UInt8)(f a n:Nat)(d:a+n<b.length)(m:f<=a)(e:b[f+n]'(by omega)≠b[a+n]):ft b (f+n) (a+n) (257 - n)=0:=by
 cases o:257 - n with
 | zero=>rfl
 | succ k=>rw [ft,ae (fun h=>e (by have:=h.2;rw [bE (by omega),bE d]at this;exact jy this))]
theorem Er(b:List UInt8)(f a n:Nat)(h:257<=n\/b.length<=a+n):ft b (f+n) (a+n) (257 - n)=0:=by
 cases d:257 - n with
 | zero=>rfl
 | succ k=>rw [ft,ae (fun h=>by omega)]
theorem M6(v:Value)(l:List UInt8)(f a:Nat)(w:World)(D:ai w eB v l)(hn:l.length<=1000000)(aj:f<a)(ha:a<=l.length) :
  Calls Tryz.prog 183 #[v,N f,N a] w fun e R=>e=.returned (N (ju l f a))/\∃ m,R=w.drewN m:=by
 obtain⟨a0,av,rfl,a1,U,a2⟩:=D.shape;unfold maxLen at U;have M:=ad (fun k V=>nO D k V);clear D;go_enter Tryz.func183, Tryz.ntmps183;go_wp2_with fail;go_loopw [7] (fun F wr=>∃ n:Nat,n<=257/\F=N n/\a+n<=l.length/\Hid (ju l f a=n+ft l (f+n) (a+n) (257 - n))/\∃ q,wr=w.drewN q) (fun F _=>257 - (intOf F).toNat);case atStart=>exact⟨0,by omega,rfl,by omega,by show _=_;unfold ju;simp,0,rfl⟩
 case round=>
  obtain⟨n,a3,rfl,a4,d,q,rfl⟩:=hrel;have i0:(0:Int)<=n:=(by omega);have i1:(0:Int)<=(a:Int)+n:=(by omega);have i2:(0:Int)<=(f:Int)+n:=(by omega);by_cases X:n<257
  · have Y:(n:Int)<257:=(by omega);by_cases G:a+n<l.length
    · have Z:(a:Int)+n<l.length:=(by omega);have aC:(f:Int)+n<l.length:=(by omega);obtain⟨b,O,aa,I,A⟩:=M.out (a+n) G;cases I;obtain⟨b',bb,aa,I,B⟩:=M.out (f+n) (by omega);cases I;have J:=ad (Q8 l f a n X G (by omega));have K:=ad (Q9 l f a n G (by omega));generalize l[a+n]=x at *;generalize l[f+n]=y at *;replace A:=((Fr.refl w).drewN q).cell A;replace B:=((Fr.refl w).drewN q).cell B;replace A:(w.drewN q).cell? ⟨b,O+(a+n),none⟩=some (.int .u8 ((x.toNat:Nat):Int)):=A;replace B:(w.drewN q).cell? ⟨b,O+(f+n),none⟩=some (.int .u8 ((y.toNat:Nat):Int)):=B;by_cases z:y=x
      · have h:Hid (ju l f a=(n+1)+ft l (f+(n+1)) (a+(n+1)) (257 - (n+1))):=(by show _=_;rw [d.out,J.out z];omega);subst z;clear J K d;generalize y.toNat=L at *;generalize o:w.drewN q=W at *;go_upto_region 2 with fail;go_quiet (fail);go_wp2_with fail;go_roundw;case rel=>exact⟨n+1,by omega,by go_num,by omega,h,q+nq,by rw [<- o,nm]⟩
        case measure=>simp [intOf];omega
      · have h:Hid (ju l f a=n):=(by show _=_;rw [d.out,K.out z,et]);have bc:¬y.toNat=x.toNat:=fun e=>z (eA.1 e);clear J K d z;generalize y.toNat=L at *;generalize x.toNat=Q at *;have ab:¬(L:Int)=Q:=(by omega);have bd:((L:Int) == Q)=false:=(by simp [ab]);generalize o:w.drewN q=W at *;go_upto_region 2 with fail;go_quiet (fail);go_wp2_with fail;go_ret;exact⟨by rw [h.out];rfl,q+nq,by rw [<- o,nm]⟩
    · have Z:¬(a:Int)+n<l.length:=(by omega);have h:Hid (ju l f a=n):=(by show _=_;rw [d.out,Er l f a n (by omega),et]);clear d;generalize o:w.drewN q=W at *;go_upto_region 2 with fail;go_quiet (fail);go_wp2_with fail;go_ret;exact⟨by rw [h.out];rfl,q+nq,by rw [<- o,nm]⟩
  · have Y:¬(n:Int)<257:=(by omega);have h:Hid (ju l f a=n):=(by show _=_;rw [d.out,Er l f a n (by omega),et]);clear d;generalize o:w.drewN q=W at *;go_upto_region 2 with fail;go_quiet (fail);go_wp2_with fail;go_ret;exact⟨by rw [h.out];rfl,q+nq,by rw [<- o,nm]⟩
def jp:au Tryz.prog aW:=⟨212,3,24,⟨0,0,0⟩,.agg #[.int .u8 0,.int .i64 0,.int .i64 0],fun t=>[Fk.u8 t.lit,N t.len,N t.dist],by kernel_rfl,by decide,by decide,by simp [Value.cells],fun _=>rfl,by intro x u d;simp only [jW,gz,or_false]at d;rcases d with rfl | rfl | rfl <;> rfl⟩
end Go.Proofs.YtfpijnhhdfoohaaGreatDoor
