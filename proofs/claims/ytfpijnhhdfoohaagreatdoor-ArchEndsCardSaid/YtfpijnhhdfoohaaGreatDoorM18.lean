/- Parts of the proof of ArchEnds: I1 I2 I3 I4. -/
import Derived.RangeFuncBox
import Derived.RangeFuncLeaves
import Derived.RangeFuncNested
import Derived.RangeFuncBound
import Derived.RangeFuncCalls
import Derived.Shelf.Abstract
import Derived.Shelf.RegionOpen
import Derived.OwnWalkIn
import Derived.TacticsInMore
import Derived.LoopNIn
import Derived.LoopIn
import Derived.Sort.BigQuietIn
import Derived.Test.YtfpijnhhdfoohaaGreatDoorM06
import Derived.Test.YtfpijnhhdfoohaaGreatDoorM09
set_option linter.unusedVariables false
set_option linter.unusedSectionVars false
set_option linter.unusedSimpArgs false
set_option maxHeartbeats 8000000
set_option maxRecDepth 100000
namespace Go.Fk
abbrev aLQb:=@Go.bodyPost_ret
abbrev qgQb:=@List.size_toArray
abbrev vn:=@Go.Oper.semAt_some
end Go.Fk
namespace Go.Proofs.YtfpijnhhdfoohaaGreatDoor
open Go.RowKit Go.Fk
attribute [local go_sem] vn
def oK(b e d c j:Nat):Hd:=⟨some ⟨b,e+j*c,none⟩,min c (d - j*c),min c (d - j*c)⟩
def dZ(d c:Nat):Nat:=(d+c - 1) / c
theorem D9(d c:Nat)(h:0<c)(j:Nat):j<dZ d c↔j*c<d:=by
 unfold dZ;rw [Nat.lt_iff_add_one_le,vu h,bU,j8];omega
def oJ(b d e c k:Nat):List Hd:=(List.range k).map (oK b d e c)
theorem Po(b d e c k:Nat):oJ b d e c (k+1)=oJ b d e c k++[oK b d e c k]:=by simp [oJ,lf]
theorem y9(b d e c k:Nat):(oJ b d e c k).length=k:=by simp [oJ]
def jx(d e:Nat)(W h:World):Prop:=h.heap[d]?=W.heap[d]?/\h.heap[e]?=W.heap[e]?
theorem jx.refl(d e:Nat)(W:World):jx d e W W:=⟨rfl,rfl⟩
theorem jx.trans{d e:Nat}{A B C:World}(h:jx d e A B)(k:jx d e B C):jx d e A C:=⟨k.1.trans h.1,k.2.trans h.2⟩
theorem jx.put{d h B:Nat}(q:d<B)(z:h<B)(W:World)(l:Nat)(o m:Obj)(A:B<=l)(_:W.heap[l]?=some o)(_:o.isCells=false)(_:o.isWalk=false):jx d h W (W.putObj l m):=
 ⟨(grownBy_putObj' W l m).block d (by have:=(aM.1 ‹W.heap[l]?=some o›).1;omega) (fun e=>by cases e;omega),(grownBy_putObj' W l m).block h (by have:=(aM.1 ‹W.heap[l]?=some o›).1;omega) (fun e=>by cases e;omega)⟩
theorem IZ{P:Program}{α:Type}(E:au P α)(t:TypeId)(h:P.underlying t=some (.slice E.e))(b e n d i:Nat)(A:n<=d)(B:i<=n) :
  ∃ m o,∀ W,(Instr.slice t (.slice (some ⟨b,e,none⟩) n d) (some (.int .i64 (i:Int))) none none).run P W=.ok (.slice m (n - i) o) W:=by
 have q:P.underlying t=some (.slice (P.elem t)):=by simp [Program.elem,h]
 have z:P.elem t=E.e:=by simp [Program.elem,h]
 refine⟨if d=i then some ⟨b,e,none⟩else some ((⟨b,e,none⟩:Addr).add (i*E.k)),d - i,fun W=>?_⟩;rw [run_slice_l W t _ _ _ q .i64 _ (by omega) (by omega),z,pr];simp [Result.andThen,sliced]
theorem Pu (n : Nat) (hn : 1 ≤ n) (l D q b m d G c : Nat) (hc : 1 ≤ c) (bu : c ≤ 1000000) (a2 : d ≤ G) (bv : d ≤ 1000000000) (J Jx : List Hd → World → Prop) (hJ : ∀ s W o, J s W → W.grownBy o none → J s o)
    (hY : ∀ z x W, J z W → z.length < dZ d c → x = oK b m d c z.length → YieldAt Fence.wide (n - 1) Tryz.prog l #[Hd.v x] W fun e o =>
      (e = .returned (.bool true) ∧ J (z ++ [x]) o ∧ jx D q W o) ∨ (e = .returned (.bool false) ∧ Jx (z ++ [x]) o))
    (W:World) (hBs:W.heap[D]?=some (.cells #[.slice (some ⟨b,m,none⟩) d G] 22 (0,0))) (hBn:W.heap[q]?=some (.cells #[N c] 3 (0,0))) (h0:J [] W) :
    CallsIn Fence.wide n Tryz.prog 109 #[.func (.yield l) #[] #[],.pointer (some ⟨D,0,none⟩),.pointer (some ⟨q,0,none⟩)] W fun e o=>(∃ v,e=.returned v) /\
      ((∃ ys,ys=oJ b m d c (dZ d c)/\J ys o)\/(∃ z,(∃ k,k<=dZ d c/\z=oJ b m d c k)/\Jx z o)):=by
  have ac:=D9 d c hc
  refine callsIn_of_wp Tryz.func109 rfl trivial ?_ rfl
  simp only [Tryz.ntmps109,qgQb,cd,lh,Nat.reduceAdd,Nat.reduceSub,Array.replicate_succ,Array.replicate_zero,List.push_toArray,List.append_toArray,kI,qm]
  have aj:=ad ac
  clear ac
  gi_wp2
  gi_loopw [4] (fun i wr => ∃ k : Nat, k ≤ dZ d c ∧ i = .int .i64 ((k * c : Nat) : Int) ∧ J (oJ b m d c k) wr ∧ jx D q W wr)
    (fun i _=>d+c - (intOf i).toNat)
  case atStart=>exact⟨0,an _,by simp,h0,jx.refl _ _ _⟩
  case round=>
    obtain⟨k,hk,rfl,Q,O⟩:=hrel
    have a4:=O.1.trans hBs
    have a5:=O.2.trans hBn
    have c1:=af a4 0 rfl
    have c2:=af a5 0 rfl
    by_cases ak:k<dZ d c
    · have hi:=(aj.out k).1 ak
      have I:=ad (fun nq=>hY _ (oK b m d c k) (wr.drewN nq) (hJ _ _ _ Q ⟨rfl,rfl,rfl,am _,fun _ _ _=>rfl⟩) (by rw [y9];exact ak) (by rw [y9]))
      have B:=ad (Po b m d c k)
      have ap:Hid (((k+1)*c:Nat)=k*c+c):=by show _=_;rw [bU,j8]
      have av:oK b m d c k=⟨some ⟨b,m+k*c,none⟩,min c (d - k*c),min c (d - k*c)⟩:=rfl
      rw [av]at I B
      clear av Q
      generalize a6:k*c=i at *
      clear a6
      have e1:(0:Int)<=(i:Int):=by omega
      have e2:(i:Int)<d:=by omega
      have e3:(i:Int)<=d:=by omega
      have b5:IntKind.i64.wrap ((i:Int)+c)=(i:Int)+c:=aw _ (by omega)
      have a0:=IZ eB 22 Tryz.underlying22 b m d G i a2 (by omega)
      obtain⟨fa,fc,a0⟩:=a0
      by_cases R:c<=d - i
      · rw [gx R]at I B
        have a7:¬((d - i:Nat):Int)<(c:Int):=by omega
        have aC:(c:Int)<=((d - i:Nat):Int):=by omega
        have t1:((i:Int)+c).toNat - i=c:=by omega
        have t2:(i:Int)<=(i:Int)+c:=by omega
        have t3:(i:Int)+c<=G:=by omega
        have t4:¬((i:Int)+c).toNat=i:=by omega
        clear R
        gi_wp2
        gi_big_quiet_th (fail)
        obtain⟨fn,tmps,bk,bl,U,K⟩:=I.out nq
        simp only [Hd.v]at U
        have V:=ad K
        clear K
        gi_wp2
        refine V.out.mono ?_
        rintro e L (⟨rfl,X,Y⟩ | ⟨rfl,Z⟩)
        · have M:jx D q W L:=O.trans Y
          have c3:L.cell? ⟨q,0,none⟩=some (N c):=by rw [aA (M.2.trans hBn)];rfl
          gi_wp2
          go_roundw
          case rel=>exact⟨k+1,by omega,by rw [ap.out];simp,by rw [B.out];exact X,M⟩
          case measure=>simp [intOf];omega
        · gi_wp2
          refine aLQb (results_none rfl _ _ _) rfl ?_
          exact⟨⟨_,rfl⟩,.inr ⟨_,⟨k+1,by omega,B.out.symm⟩,Z⟩⟩
      · rw [Nat.min_eq_right (by omega)]at I B
        have a7:¬(c:Int)<=((d - i:Nat):Int):=by omega
        have aC:((d - i:Nat):Int)<(c:Int):=by omega
        have b8:IntKind.i64.wrap ((i:Int)+((d - i:Nat):Int))=(i:Int)+((d - i:Nat):Int):=aw _ (by omega)
        have t1:((i:Int)+((d - i:Nat):Int)).toNat - i=d - i:=by omega
        have t2:(i:Int)<=(i:Int)+((d - i:Nat):Int):=by omega
        have t3:(i:Int)+((d - i:Nat):Int)<=G:=by omega
        have t4:¬((i:Int)+((d - i:Nat):Int)).toNat=i:=by omega
        clear R
        gi_wp2
        gi_big_quiet_th (fail)
        obtain⟨fn,tmps,bk,bl,U,K⟩:=I.out nq
        simp only [Hd.v]at U
        have V:=ad K
        clear K
        gi_wp2
        refine V.out.mono ?_
        rintro e L (⟨rfl,X,Y⟩ | ⟨rfl,Z⟩)
        · have M:jx D q W L:=O.trans Y
          have c3:L.cell? ⟨q,0,none⟩=some (N c):=by rw [aA (M.2.trans hBn)];rfl
          gi_wp2
          go_roundw
          case rel=>exact⟨k+1,by omega,by rw [ap.out];simp,by rw [B.out];exact X,M⟩
          case measure=>simp [intOf];omega
        · gi_wp2
          refine aLQb (results_none rfl _ _ _) rfl ?_
          exact⟨⟨_,rfl⟩,.inr ⟨_,⟨k+1,by omega,B.out.symm⟩,Z⟩⟩
    · obtain rfl:k=dZ d c:=by omega
      have b9:¬((dZ d c*c:Nat):Int)<d:=by
        have:=fun h=>(aj.out (dZ d c)).2 h
        omega
      gi_wp2
      go_end0
      exact⟨⟨_,rfl⟩,.inl Q⟩
theorem Pt(n:Nat)(l d m:Nat)(J:List Hd->World->Prop)(a:Option Addr)(h:Nat)(W:World)(o:W.cell? ⟨d,0,none⟩=some (.slice a 0 h))(q:J [] W) :
  CallsIn Fence.wide n Tryz.prog 109 #[.func (.yield l) #[] #[],.pointer (some ⟨d,0,none⟩),.pointer (some ⟨m,0,none⟩)] W fun e z=>(∃ v,e=.returned v)/\J [] z:=by
 refine callsIn_of_wp Tryz.func109 rfl trivial ?_ rfl;simp only [Tryz.ntmps109,qgQb,cd,lh,Nat.reduceAdd,Nat.reduceSub,Array.replicate_succ,Array.replicate_zero,List.push_toArray,List.append_toArray,kI,qm];gi_wp2;gi_loopw [4] (fun i wr=>i=.int .i64 0/\J [] wr/\wr.cell? ⟨d,0,none⟩=some (.slice a 0 h)) (fun _ _=>0);case atStart=>exact⟨rfl,q,o⟩
 case round=>obtain⟨rfl,B,D⟩:=hrel;gi_wp2;go_end0;exact⟨⟨_,rfl⟩,B⟩
theorem Ps(a:Option Addr)(h d c:Nat)(q:1<=c)(w:World) :
  Calls Tryz.prog 74 #[.slice a h d,N c] w fun e o=>e=.returned (.func (.func 109) #[] #[.pointer (some ⟨w.heap.size,0,none⟩),.pointer (some ⟨w.heap.size+1,0,none⟩)])/\o=(w.alloc (.cells #[.slice a h d] 22)).alloc (.cells #[N c] 3):=by
 have z:¬(c:Int)<1:=by omega
 have A:∀ (m:Fn) (first d:Array Value) (w:World),(Instr.makeFunc m first d).run Tryz.prog w=.ok (.func m first d) w:=fun _ _ _ _=>rfl;go_enter Tryz.func74, Tryz.ntmps74;go_wp2_with fail;go_ret;exact⟨rfl,rfl⟩
attribute [local go_sem] vn
section
variable {P:Program} {α:Type} {w:World} {base:Nat} {v:Value} {l:List α} {F:Fence} {nF:Nat}
theorem FA(E:au P α){e:Array Oper}{rest:List Oper}{o:Oper}{a:Act}{Q:Exit->Act->World->Prop}(q:o.guard=none)(s x:Operand)(t:TypeId)
  (ho:o.op=.call { callee:=.builtin .append,args:=#[s,x],argTypes:=#[t,t] }) (ht:P.underlying t=some (.slice E.e))
  (base:Nat) (hs:a.eval s=v) (hown:Ow w base E v l) (y:Value) (m:List α) (hx:a.eval x=y) (hsee:ai w E y m) (hn:l.length+m.length<=2147483648) (hbase:base<=w.heap.size)
  (h:∀ v' d,dg base E (l++m) w v v' d->wpListIn F nF P e Q rest (a.put o.dst v') d):wpListIn F nF P e Q (o::rest) a w:=by
 refine wpListIn_plain q fun K z=>?_;obtain⟨v',d,A,B⟩:=wE (P:=P) E w base t o.type ht hown hsee hn hbase;unfold Oper.wpIn;refine⟨?_,?_⟩;· simp [Oper.about,ho,resolve,Target.leads,Sem.run_pure]
 · rw [Oper.semAt_plain F _ _ (by rw [ho];intro c D;cases D)];simp [execOp,ho,resolve,invoke,builtin,hs,hx,A,Result.andThen];exact z _ _ (h v' d B)
theorem zN(E:au P α){e:Array Oper}{rest:List Oper}{o:Oper}{a:Act}{Q:Exit->Act->World->Prop}(m:o.guard=none)(s x:Operand)(t:TypeId)
  (ho:o.op=.call { callee:=.builtin .append,args:=#[s,x],argTypes:=#[t,t] }) (ht:P.underlying t=some (.slice E.e))
  (base:Nat) (hs:a.eval s=v) (hown:Ow w base E v l) (c:List α) (cs:Array Value) (e':TypeId) (n:Nat) (hc:cs.toList=E.cells c) (hcn:n=c.length) (hx:a.eval x=.slice (some ⟨w.heap.size,0,none⟩) n n) (hn:l.length+c.length<=2147483648) (hbase:base<=w.heap.size)
  (h:∀ v' d,dg base E (l++c) w v v' d->wpListIn F nF P e Q rest (a.put o.dst v') d):wpListIn F nF P e Q (o::rest) a (w.alloc (.cells cs e')):=by
 refine FA E m s x t ho ht base hs (hown.fr ((Fr.refl w).alloc _)) _ c hx (l8 E w c cs e' n hcn hc (by unfold maxLen;omega)) hn (by simp;omega) fun v' d q=>h v' d (q.under ((Fr.refl w).alloc _))
end
def Tt(w:World)(B:Nat)(d:List Hd)(W:World):Prop:=(∃ v,W.heap[B]?=some (.cells #[v] 95 (0,0))/\Ow W (B+1) aQ v d)/\Below B w W
theorem pC{P:Program}{α:Type}{E:au P α}{w z:World}{base:Nat}{v:Value}{l:List α}{A:Option Nat}(h:Ow w base E v l)(D:w.grownBy z A)(G:∀ r,A=some r->∃ o:Obj,w.heap[r]?=some o/\o.isCells=false):Ow z base E v l:=by
 refine h.kept D ?_
 cases d:v.ownBlock with
 | none=>exact .inl rfl
 | some g=>
  refine .inr fun e=>?_;obtain⟨o,B,I⟩:=G g e.symm;rcases h.2 with⟨m,_⟩ | ⟨q,K,L,m,_,J,_⟩;· rw [m]at d;cases d
  · rw [m]at d;simp only [Value.ownBlock,lQ]at d;subst d;rw [J]at B;cases B;cases I
theorem xo{P:Program}{α:Type}{E:au P α}{w:World}{base:Nat}{v:Value}{l:List α}(h:Ow w base E v l){j:Nat}{o:Obj}(d:v.ownBlock=some j)(m:w.heap[j]?=some o):o.isCells=true:=by
 rcases h.2 with⟨e,_⟩ | ⟨q,A,B,e,_,z,_⟩;· rw [e]at d;cases d
 · rw [e]at d;simp only [Value.ownBlock,lQ]at d;subst d;rw [z]at m;cases m;rfl
theorem IK{P:Program}{α:Type}{E:au P α}{w:World}{b d n I:Nat}{l:List α}(h:ai w E (.slice (some ⟨b,d,none⟩) n I) l)(i m o:Nat)(J:i+m<=l.length)(V:m<=o)(K:o<=maxLen) :
  ai w E (.slice (some ⟨b,d+i*E.k,none⟩) m o) ((l.drop i).take m):=by
 have q:((l.drop i).take m).length=m:=by simp;omega
 refine⟨E.length_cells _,_,o,by rw [q],by omega,K,by simp,?_⟩;rcases jU m with X | Y;· exact .inl (by omega)
 · obtain⟨Z,aa,ab,L,_,_,M⟩:=h.cells (by intro e;simp [e]at J;omega);cases L;refine .inr ⟨b,_,rfl,fun j u z=>?_⟩;have A:=E.pos;have B:=(r9.1 z).1;rw [E.length_cells,q]at B;have hq:j / E.k<m:=(nY A).2 B;have D:j % E.k<E.k:=kH _ A;have O:=tp j E.k;have G:=E.cells_at ((l.drop i).take m) (j / E.k) (by omega) (j % E.k) D;have Q:j / E.k*E.k+j % E.k=j:=(by rw [gw];exact O);rw [Q,z]at G;have R := M (i + j / E.k) (by omega) (j % E.k) D u (by
    rw [G];congr 2
    rw [oV, vB])
   have U:d+i*E.k+j=d+((i+j / E.k)*E.k+j % E.k):=(by rw [bU];omega);rw [U];exact R
def DA{α:Type}(l:List α)(c:Nat):List (List α):=(List.range (dZ l.length c)).map fun j=>(l.drop (j*c)).take c
theorem NI(N k:Nat)(h:k<N):(List.finRange N).take (k+1)=(List.finRange N).take k++[⟨k,h⟩]:=by
 rw [gy (by simpa using h)];congr 2;simp
theorem xV{G:Nat->Prop}{W d:World}(h:ah G W d)(q:∀ k o,W.heap[k]?=some o->G k->o.isCells=true):KeepsOthers W d:=
 ⟨h.size,fun k o e m=>h.heap e fun g=>by rw [q k o e g]at m;cases m⟩
theorem Pr(z A:Nat)(v:Value)(d:List UInt8)(c:Nat)(hc:1<=c)(ak:c<=1000000)(K:d.length<=1000000000)(w:World)(U:w.heap[z]?=some (.cells #[v] 22 (0,0)))(ap:w.heap[A]?=some (.cells #[N c] 3 (0,0)))(V:ai w eB v d) :
  ∃ b B,(d=[]\/∃ D,v=.slice (some ⟨b,B,none⟩) d.length D)/\∀ n,1<=n->SeqStopsK Fence.wide n Tryz.prog 109 #[.pointer (some ⟨z,0,none⟩),.pointer (some ⟨A,0,none⟩)] (fun j:Fin (dZ d.length c)=>#[(oK b B d.length c j.val).v]) (jx z A) (fun X=>X=List.finRange (dZ d.length c)) (fun _=>True) (dZ d.length c) w:=by
 obtain⟨a,D,rfl,h1,h2,h3⟩:=V.shape;by_cases Y:d=[]
 · subst Y;have e0:dZ ([]:List UInt8).length c=0:=(by unfold dZ;exact tj (by simp;omega));refine⟨0,0,.inl rfl,fun n Z l J Jx W G _ _ hY L=>?_⟩;have O:=Pt n l z A (fun(_:List Hd) W=>J [] W) a D W ?_ L;· refine O.mono fun e I ⟨m,o⟩=>⟨m,.inl ⟨[],?_,o⟩⟩;have:∀ (M:Nat),M=0->([]:List (Fin M))=List.finRange M:=fun M hM=>(by subst hM;rfl);exact this _ e0
   · rw [aA (Fr.heap G U)];rfl
 · obtain⟨b,B,aC,m,_⟩:=V.cells Y;cases m;refine⟨b,B,.inr ⟨D,rfl⟩,fun n Z l J Jx W G O _ hY L=>?_⟩;generalize hN:dZ d.length c=M at *
   have h:=Pu n Z l z A b B d.length D c hc ak h1 K (fun q W=>q.length<=M/\J ((List.finRange M).take q.length) W) (fun q W=>Jx ((List.finRange M).take q.length) W)
    (fun s W I hs hg => ⟨hs.1, O _ W I none hs.2 hg (fun r e => by cases e)⟩) (fun q x W o Q hx => by
     rw [hN] at Q
     subst hx
     have K : ((List.finRange M).take q.length).length < M := by rw [aG]; simp; omega
     refine (hY _ ⟨q.length, Q⟩ W o.2 K).mono fun e I h => ?_
     rw [aD, lg, NI M _ Q]
     rcases h with ⟨m, R, hk⟩ | ⟨m, R⟩
     · exact .inl ⟨m, ⟨by omega, R⟩, hk⟩
     · exact .inr ⟨m, R⟩) W (Fr.heap G U) (Fr.heap G ap) ⟨an _, by simpa using L⟩
   refine h.mono fun e I ⟨m,hh⟩=>⟨m,?_⟩;rcases hh with⟨X,rfl,_,o⟩ | ⟨q,_,o⟩;· refine .inl ⟨_,rfl,?_⟩;rw [y9,hN,eC (by simp)]at o;exact o
   · exact .inr ⟨_,trivial,o⟩
theorem Pq{w:World}{v:Value}{l:List UInt8}{b m n:Nat}(q:1<=n)(h:ai w eB v l)(z:l=[]\/∃ o,v=.slice (some ⟨b,m,none⟩) l.length o)(j:Nat)(A:j<dZ l.length n) :
  ai w eB (oK b m l.length n j).v ((l.drop (j*n)).take n):=by
 have B:=(D9 l.length n q j).1 A;rcases z with rfl | ⟨o,rfl⟩;· simp at B
 · obtain⟨_,_,D,I,J,_⟩:=h.shape;cases D;have d:=IK h (j*n) (min n (l.length - j*n)) (min n (l.length - j*n)) (by omega) (am _) (by omega);rw [show(eB:au Tryz.prog UInt8).k=1 from rfl,dq]at d;have G:(l.drop (j*n)).take (min n (l.length - j*n))=(l.drop (j*n)).take n:=by
    rcases Nat.le_total n (l.length - j*n)with e | e;· rw [gx e]
    · rw [Nat.min_eq_right e,eC (by simp),eC (by simp;omega)]
   rw [G]at d;exact d
theorem Db{β:Type}(M n:Nat)(h:M=n)(f:Nat->β):(List.finRange M).map (fun j:Fin M=>f j.val)=(List.range n).map f:=by
 subst h;apply lj;· simp
 · intro i d e;simp
theorem Pp(n c:Nat)(d:1<=c):dZ (n*c) c=n:=by
 unfold dZ;rw [show n*c+c - 1=c*n+(c - 1) by rw [gw];omega,Nat.mul_add_div d,tj (by omega),et]
end Go.Proofs.YtfpijnhhdfoohaaGreatDoor
