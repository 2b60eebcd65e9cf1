/- Lemmas for ThreeTurned. -/
import Derived.RangeFuncNested
import Derived.RangeFuncBound
import Derived.Shelf.RegionOpen
import Derived.OwnWalkIn
import Derived.LoopNIn
import Derived.LoopIn
import Derived.Test.YtndbpldeabnkbaaGreatDoorM09
import Derived.Test.YtndbpldeabnkbaaGreatDoorM06
set_option linter.all false
set_option maxHeartbeats 8000000
set_option maxRecDepth 100000
namespace Go.Fk
abbrev bFQc:=@Go.bodyPost_ret
abbrev ouQb:=@List.size_toArray
abbrev lg:=@Go.callsIn_wide
abbrev rqQc:=@Nat.min_eq_right
abbrev uz:=@Array.replicate_zero
abbrev u9:=@Array.replicate_succ
abbrev ux:=@List.append_toArray
abbrev un:=@List.push_toArray
abbrev wg:=@Go.grownBy_putObj'
abbrev zd:=@Go.run_takeDeferred
abbrev ze:=@Go.Oper.semAt_some
end Go.Fk
namespace Go.Proofs.YtndbpldeabnkbaaGreatDoor
open Go.RowKit Go.Fk
attribute [local go_sem] ze
def kA(b e d c j:Nat):Hd:=⟨some ⟨b,e+j*c,none⟩,min c (d-j*c),min c (d-j*c)⟩
def aH(d c:Nat):Nat:=(d+c-1) / c
def qY(d c:Nat)(h:0<c)(j:Nat):j<aH d c↔j*c<d:=by
 unfold aH;rw[Nat.lt_iff_add_one_le,ui h,be,dC];omega
def iD(b d e c k:Nat):List Hd:=(List.range k).map (kA b d e c)
def Io(b d e c k:Nat):iD b d e c (k+1)=iD b d e c k++[kA b d e c k]:=by simp[iD,jr]
def rZ(b d e c k:Nat):(iD b d e c k).length=k:=by simp[iD]
def eA(Bs Bn:Nat)(W d:World):Prop:=d.heap[Bs]?=W.heap[Bs]? /\ d.heap[Bn]?=W.heap[Bn]?
def eA.refl(Bs Bn:Nat)(W:World):eA Bs Bn W W:=⟨rfl,rfl⟩
def eA.trans{Bs Bn:Nat}{A B C:World}(h:eA Bs Bn A B)(k:eA Bs Bn B C):eA Bs Bn A C:=⟨k.1.trans h.1,k.2.trans h.2⟩
def eA.put{Bs Bn B:Nat}(h:Bs<B)(m:Bn<B)(W:World)(l:Nat)(o d:Obj)(z:B<=l)(_:W.heap[l]?=some o)(_:o.isCells=false)(_:o.isWalk=false):eA Bs Bn W (W.putObj l d):=
 ⟨(wg W l d).block Bs (by have:=(aR.1 ‹W.heap[l]?=some o›).1;omega) (λe=>by cases e;omega),(wg W l d).block Bn (by have:=(aR.1 ‹W.heap[l]?=some o›).1;omega) (λe=>by cases e;omega)⟩
def eA.of_chg{Bs Bn:Nat}{G:Nat->Prop}{W d:World}(h:ai G W d)(e:Bs<W.heap.size)(m:Bn<W.heap.size)(o:¬G Bs)(z:¬G Bn):eA Bs Bn W d:=⟨h.block Bs e o,h.block Bn m z⟩
def Ey{P:Program}{α:Type}(E:aw P α)(t:TypeId)(h:P.underlying t=some (.slice E.e))(b e n d i:Nat)(D:n<=d)(G:i<=n):∃m o,∀W,(Instr.slice t (.slice (some ⟨b,e,none⟩) n d) (some (.int .i64 (i:Int))) none none).run P W=.ok (.slice m (n-i) o) W:=by
 have z:P.underlying t=some (.slice (P.elem t)):=by simp[Program.elem,h]
 have A:P.elem t=E.e:=by simp[Program.elem,h]
 refine⟨if d=i then some ⟨b,e,none⟩else some ((⟨b,e,none⟩:Addr).add (i*E.k)),d-i,λW=>?_⟩;rw[run_slice_l W t _ _ _ z .i64 _ ω ω,A,pK];simp[Result.andThen,sliced]
def Iu(n:Nat)(hn:1<=n)(l Bs Bn b m d G c:Nat)(hc:1<=c)(bs:c<=1000000)(a2:d<=G)(bu:d<=1000000000)(J Jx:List Hd->World->Prop)(hJ:∀s W o,J s W->W.grownBy o none->J s o)
  (hY : ∀ z x W, J z W → z.length < aH d c → x = kA b m d c z.length → YieldAt Fence.wide (n - 1) Tryz.prog l #[Hd.v x] W fun e o =>
    (e = .returned (.bool true) ∧ J (z ++ [x]) o ∧ eA Bs Bn W o) ∨ (e = .returned (.bool false) ∧ Jx (z ++ [x]) o))
  (W:World) (hBs:W.heap[Bs]?=some (.cells #[.slice (some ⟨b,m,none⟩) d G] 30 (0,0))) (hBn:W.heap[Bn]?=some (.cells #[N c] 3 (0,0))) (h0:J [] W) :
  CallsIn Fence.wide n Tryz.prog 80 #[.func (.yield l) #[] #[],.pointer (some ⟨Bs,0,none⟩),.pointer (some ⟨Bn,0,none⟩)] W λe o=>(∃v,e=.returned v) /\
   ((∃ys,ys=iD b m d c (aH d c)/\J ys o)\/(∃z,(∃k,k<=aH d c/\z=iD b m d c k)/\Jx z o)):=by
 have ac:=qY d c hc
 refine callsIn_of_wp Tryz.func80 rfl trivial ?_ rfl
 simp only[Tryz.ntmps80,ouQb,aL,gS,Nat.reduceAdd,Nat.reduceSub,u9,uz,un,ux,fJ,lm]
 have aj:=ad ac
 clear ac
 gi_wp2
 gi_loopw [4] (λi wr => ∃k : Nat, k ≤ aH d c ∧ i = .int .i64 ((k * c : Nat) : Int) ∧ J (iD b m d c k) wr ∧ eA Bs Bn W wr)
  (λi _=>d+c-(intOf i).toNat)
 case atStart=>exact⟨0,ar _,σ,h0,eA.refl _ _ _⟩
 case round=>
  obtain⟨k,hk,rfl,Q,O⟩:=hrel
  have a4:=O.1.trans hBs
  have a5:=O.2.trans hBn
  have c1:=ag a4 0 rfl
  have c2:=ag a5 0 rfl
  by_cases ak:k<aH d c
  ·have hi:=(aj.out k).1 ak
   have I:=ad (λnq=>hY _ (kA b m d c k) (wr.drewN nq) (hJ _ _ _ Q ⟨rfl,rfl,rfl,al _,λ_ _ _=>rfl⟩) (by rw[rZ];exact ak) (by rw[rZ]))
   have D:=ad (Io b m d c k)
   have ap:Hid (((k+1)*c:Nat)=k*c+c):=by show _=_;rw[be,dC]
   have av:kA b m d c k=⟨some ⟨b,m+k*c,none⟩,min c (d-k*c),min c (d-k*c)⟩:=rfl
   rw[av]at I D
   clear av Q
   generalize a6:k*c=i at *
   clear a6
   have e1:(0:Int)<=(i:Int):=ω
   have e2:(i:Int)<d:=ω
   have e3:(i:Int)<=d:=ω
   have b4:=ax ((i:Int)+c) ω
   have a0:=Ey eB 30 Tryz.underlying30 b m d G i a2 ω
   obtain⟨fa,fc,a0⟩:=a0
   by_cases R:c<=d-i
   ·rw[fI R]at I D
    have a7:¬((d-i:Nat):Int)<(c:Int):=ω
    have aC:(c:Int)<=((d-i:Nat):Int):=ω
    have t1:((i:Int)+c).toNat-i=c:=ω
    have t2:(i:Int)<=(i:Int)+c:=ω
    have t3:(i:Int)+c<=G:=ω
    have t4:¬((i:Int)+c).toNat=i:=ω
    clear R
    gi_wp2
    gi_big_quiet_th (fail)
    obtain⟨fn,tmps,bk,bl,U,K⟩:=I.out nq
    simp only[Hd.v]at U
    have V:=ad K
    clear K
    gi_wp2
    refine V.out.mono ?_
    rintro e L (⟨rfl,X,Y⟩ | ⟨rfl,Z⟩)
    ·have M:eA Bs Bn W L:=O.trans Y
     have c3:L.cell? ⟨Bn,0,none⟩=some (N c):=by rw[aK (M.2.trans hBn)];rfl
     gi_wp2
     go_roundw
     case rel=>exact⟨k+1,ω,by rw[ap.out];simp,by rw[D.out];exact X,M⟩
     case measure=>exact μ
    ·gi_wp2
     refine bFQc (results_none rfl _ _ _) rfl ?_
     exact⟨⟨_,rfl⟩,.inr ⟨_,⟨k+1,ω,D.out.symm⟩,Z⟩⟩
   ·rw[rqQc ω]at I D
    have a7:¬(c:Int)<=((d-i:Nat):Int):=ω
    have aC:((d-i:Nat):Int)<(c:Int):=ω
    have b7:=ax ((i:Int)+((d-i:Nat):Int)) ω
    have t1:((i:Int)+((d-i:Nat):Int)).toNat-i=d-i:=ω
    have t2:(i:Int)<=(i:Int)+((d-i:Nat):Int):=ω
    have t3:(i:Int)+((d-i:Nat):Int)<=G:=ω
    have t4:¬((i:Int)+((d-i:Nat):Int)).toNat=i:=ω
    clear R
    gi_wp2
    gi_big_quiet_th (fail)
    obtain⟨fn,tmps,bk,bl,U,K⟩:=I.out nq
    simp only[Hd.v]at U
    have V:=ad K
    clear K
    gi_wp2
    refine V.out.mono ?_
    rintro e L (⟨rfl,X,Y⟩ | ⟨rfl,Z⟩)
    ·have M:eA Bs Bn W L:=O.trans Y
     have c3:L.cell? ⟨Bn,0,none⟩=some (N c):=by rw[aK (M.2.trans hBn)];rfl
     gi_wp2
     go_roundw
     case rel=>exact⟨k+1,ω,by rw[ap.out];simp,by rw[D.out];exact X,M⟩
     case measure=>exact μ
    ·gi_wp2
     refine bFQc (results_none rfl _ _ _) rfl ?_
     exact⟨⟨_,rfl⟩,.inr ⟨_,⟨k+1,ω,D.out.symm⟩,Z⟩⟩
  ·obtain rfl:k=aH d c:=ω
   have b8:¬((aH d c*c:Nat):Int)<d:=by
    have:=λh=>(aj.out (aH d c)).2 h
    omega
   gi_wp2
   go_end0
   exact⟨⟨_,rfl⟩,.inl Q⟩
def Is(n:Nat)(l Bs Bn:Nat)(J:List Hd->World->Prop)(a:Option Addr)(d:Nat)(W:World)(h:W.cell? ⟨Bs,0,none⟩=some (.slice a 0 d))(m:J [] W):CallsIn Fence.wide n Tryz.prog 80 #[.func (.yield l) #[] #[],.pointer (some ⟨Bs,0,none⟩),.pointer (some ⟨Bn,0,none⟩)] W λe o=>(∃v,e=.returned v)/\J [] o:=by
 refine callsIn_of_wp Tryz.func80 rfl trivial ?_ rfl;simp only[Tryz.ntmps80,ouQb,aL,gS,Nat.reduceAdd,Nat.reduceSub,u9,uz,un,ux,fJ,lm];gi_wp2;gi_loopw [4] (λi wr=>i=.int .i64 0/\J [] wr/\wr.cell? ⟨Bs,0,none⟩=some (.slice a 0 d)) (λ_ _=>0);case atStart=>exact⟨rfl,m,h⟩
 case round=>obtain⟨rfl,z,D⟩:=hrel;gi_wp2;go_end0;exact⟨⟨_,rfl⟩,z⟩
def Ir(a:Option Addr)(d h c:Nat)(m:1<=c)(w:World):Calls Tryz.prog 47 #[.slice a d h,N c] w λe w'=>e=.returned (.func (.func 80) #[] #[.pointer (some ⟨w.heap.size,0,none⟩),.pointer (some ⟨w.heap.size+1,0,none⟩)])/\w'=(w.alloc (.cells #[.slice a d h] 30)).alloc (.cells #[N c] 3):=by
 go_in;go_wp2;go_ret;exact⟨rfl,rfl⟩
def U8(Bs Bn:Nat)(v:Value)(d:Z0)(c:Nat)(V:1<=c)(X:c<=1000000)(Y:d.length<=1000000000)(w:World)(I:w.heap[Bs]?=some (.cells #[v] 30 (0,0)))(Z:w.heap[Bn]?=some (.cells #[N c] 3 (0,0)))(K:ah w eB v d):∃b h,(d=[]\/∃m,v=.slice (some ⟨b,h,none⟩) d.length m)/\∀n,1<=n->SeqStopsK Fence.wide n Tryz.prog 80 #[.pointer (some ⟨Bs,0,none⟩),.pointer (some ⟨Bn,0,none⟩)] (λx:Hd=>#[x.v]) (eA Bs Bn) (λys=>ys=iD b h d.length c (aH d.length c)) (λz=>∃k,k<=aH d.length c/\z=iD b h d.length c k) (aH d.length c) w:=by
 obtain⟨a,m,rfl,A,L,h3⟩:=K.shape;by_cases M:d=[];·subst M;refine⟨0,0,.inl rfl,λn O l J Q W o _ _ R D=>?_⟩;have e0:aH ([]:Z0).length c=0:=(by unfold aH;exact qx (by simp;omega));refine(Is n l Bs Bn J a m W ?_ D).mono λe U ⟨G,hj⟩=>⟨G,.inl ⟨_,by rw[e0];rfl,hj⟩⟩;rw[aK (Fr.heap o I)];rfl
 ·obtain⟨b,h,a0,G,_⟩:=K.cells M;cases G;refine⟨b,h,.inr ⟨m,rfl⟩,λn O l J Q W o hJ _ R D=>?_⟩;exact Iu n O l Bs Bn b h d.length m c V X A Y J Q (λs W U hs hg=>hJ s W U none hs hg (λr e=>by cases e)) (λz x W A L _=>R z x W A L) W (Fr.heap o I) (Fr.heap o Z) D
def U7(n:Nat)(hn:1<=n)(l Bs Bn b m d G c:Nat)(hc:1<=c)(bs:c<=1000000)(a2:d<=G)(bu:d<=1000000000)(J Jx:List Hd->World->Prop)(hJ:∀s W o,J s W->W.grownBy o none->J s o)
  (hY : ∀ z x W, J z W → z.length < aH d c → x = kA b m d c z.length → YieldAt Fence.wide (n - 1) Tryz.prog l #[Hd.v x] W fun e o =>
    (e = .returned (.bool true) ∧ J (z ++ [x]) o ∧ eA Bs Bn W o) ∨ (e = .returned (.bool false) ∧ Jx (z ++ [x]) o))
  (W:World) (hBs:W.heap[Bs]?=some (.cells #[.slice (some ⟨b,m,none⟩) d G] 81 (0,0))) (hBn:W.heap[Bn]?=some (.cells #[N c] 3 (0,0))) (h0:J [] W) :
  CallsIn Fence.wide n Tryz.prog 157 #[.func (.yield l) #[] #[],.pointer (some ⟨Bs,0,none⟩),.pointer (some ⟨Bn,0,none⟩)] W λe o=>(∃v,e=.returned v) /\
   ((∃ys,ys=iD b m d c (aH d c)/\J ys o)\/(∃z,(∃k,k<=aH d c/\z=iD b m d c k)/\Jx z o)):=by
 have ac:=qY d c hc
 refine callsIn_of_wp Tryz.func157 rfl trivial ?_ rfl
 simp only[Tryz.ntmps157,ouQb,aL,gS,Nat.reduceAdd,Nat.reduceSub,u9,uz,un,ux,fJ,lm]
 have aj:=ad ac
 clear ac
 gi_wp2
 gi_loopw [4] (λi wr => ∃k : Nat, k ≤ aH d c ∧ i = .int .i64 ((k * c : Nat) : Int) ∧ J (iD b m d c k) wr ∧ eA Bs Bn W wr)
  (λi _=>d+c-(intOf i).toNat)
 case atStart=>exact⟨0,ar _,σ,h0,eA.refl _ _ _⟩
 case round=>
  obtain⟨k,hk,rfl,Q,O⟩:=hrel
  have a4:=O.1.trans hBs
  have a5:=O.2.trans hBn
  have c1:=ag a4 0 rfl
  have c2:=ag a5 0 rfl
  by_cases ak:k<aH d c
  ·have hi:=(aj.out k).1 ak
   have I:=ad (λnq=>hY _ (kA b m d c k) (wr.drewN nq) (hJ _ _ _ Q ⟨rfl,rfl,rfl,al _,λ_ _ _=>rfl⟩) (by rw[rZ];exact ak) (by rw[rZ]))
   have D:=ad (Io b m d c k)
   have ap:Hid (((k+1)*c:Nat)=k*c+c):=by show _=_;rw[be,dC]
   have av:kA b m d c k=⟨some ⟨b,m+k*c,none⟩,min c (d-k*c),min c (d-k*c)⟩:=rfl
   rw[av]at I D
   clear av Q
   generalize a6:k*c=i at *
   clear a6
   have e1:(0:Int)<=(i:Int):=ω
   have e2:(i:Int)<d:=ω
   have e3:(i:Int)<=d:=ω
   have b4:=ax ((i:Int)+c) ω
   have a0:=Ey eS 81 Tryz.underlying81 b m d G i a2 ω
   obtain⟨fa,fc,a0⟩:=a0
   by_cases R:c<=d-i
   ·rw[fI R]at I D
    have a7:¬((d-i:Nat):Int)<(c:Int):=ω
    have aC:(c:Int)<=((d-i:Nat):Int):=ω
    have t1:((i:Int)+c).toNat-i=c:=ω
    have t2:(i:Int)<=(i:Int)+c:=ω
    have t3:(i:Int)+c<=G:=ω
    have t4:¬((i:Int)+c).toNat=i:=ω
    clear R
    gi_wp2
    gi_big_quiet_th (fail)
    obtain⟨fn,tmps,bk,bl,U,K⟩:=I.out nq
    simp only[Hd.v]at U
    have V:=ad K
    clear K
    gi_wp2
    refine V.out.mono ?_
    rintro e L (⟨rfl,X,Y⟩ | ⟨rfl,Z⟩)
    ·have M:eA Bs Bn W L:=O.trans Y
     have c3:L.cell? ⟨Bn,0,none⟩=some (N c):=by rw[aK (M.2.trans hBn)];rfl
     gi_wp2
     go_roundw
     case rel=>exact⟨k+1,ω,by rw[ap.out];simp,by rw[D.out];exact X,M⟩
     case measure=>exact μ
    ·gi_wp2
     refine bFQc (results_none rfl _ _ _) rfl ?_
     exact⟨⟨_,rfl⟩,.inr ⟨_,⟨k+1,ω,D.out.symm⟩,Z⟩⟩
   ·rw[rqQc ω]at I D
    have a7:¬(c:Int)<=((d-i:Nat):Int):=ω
    have aC:((d-i:Nat):Int)<(c:Int):=ω
    have b7:=ax ((i:Int)+((d-i:Nat):Int)) ω
    have t1:((i:Int)+((d-i:Nat):Int)).toNat-i=d-i:=ω
    have t2:(i:Int)<=(i:Int)+((d-i:Nat):Int):=ω
    have t3:(i:Int)+((d-i:Nat):Int)<=G:=ω
    have t4:¬((i:Int)+((d-i:Nat):Int)).toNat=i:=ω
    clear R
    gi_wp2
    gi_big_quiet_th (fail)
    obtain⟨fn,tmps,bk,bl,U,K⟩:=I.out nq
    simp only[Hd.v]at U
    have V:=ad K
    clear K
    gi_wp2
    refine V.out.mono ?_
    rintro e L (⟨rfl,X,Y⟩ | ⟨rfl,Z⟩)
    ·have M:eA Bs Bn W L:=O.trans Y
     have c3:L.cell? ⟨Bn,0,none⟩=some (N c):=by rw[aK (M.2.trans hBn)];rfl
     gi_wp2
     go_roundw
     case rel=>exact⟨k+1,ω,by rw[ap.out];simp,by rw[D.out];exact X,M⟩
     case measure=>exact μ
    ·gi_wp2
     refine bFQc (results_none rfl _ _ _) rfl ?_
     exact⟨⟨_,rfl⟩,.inr ⟨_,⟨k+1,ω,D.out.symm⟩,Z⟩⟩
  ·obtain rfl:k=aH d c:=ω
   have b8:¬((aH d c*c:Nat):Int)<d:=by
    have:=λh=>(aj.out (aH d c)).2 h
    omega
   gi_wp2
   go_end0
   exact⟨⟨_,rfl⟩,.inl Q⟩
def U6(n:Nat)(l Bs Bn:Nat)(J:List Hd->World->Prop)(a:Option Addr)(d:Nat)(W:World)(h:W.cell? ⟨Bs,0,none⟩=some (.slice a 0 d))(m:J [] W):CallsIn Fence.wide n Tryz.prog 157 #[.func (.yield l) #[] #[],.pointer (some ⟨Bs,0,none⟩),.pointer (some ⟨Bn,0,none⟩)] W λe o=>(∃v,e=.returned v)/\J [] o:=by
 refine callsIn_of_wp Tryz.func157 rfl trivial ?_ rfl;simp only[Tryz.ntmps157,ouQb,aL,gS,Nat.reduceAdd,Nat.reduceSub,u9,uz,un,ux,fJ,lm];gi_wp2;gi_loopw [4] (λi wr=>i=.int .i64 0/\J [] wr/\wr.cell? ⟨Bs,0,none⟩=some (.slice a 0 d)) (λ_ _=>0);case atStart=>exact⟨rfl,m,h⟩
 case round=>obtain⟨rfl,z,D⟩:=hrel;gi_wp2;go_end0;exact⟨⟨_,rfl⟩,z⟩
def U5(a:Option Addr)(d h c:Nat)(m:1<=c)(w:World):Calls Tryz.prog 111 #[.slice a d h,N c] w λe w'=>e=.returned (.func (.func 157) #[] #[.pointer (some ⟨w.heap.size,0,none⟩),.pointer (some ⟨w.heap.size+1,0,none⟩)])/\w'=(w.alloc (.cells #[.slice a d h] 81)).alloc (.cells #[N c] 3):=by
 go_in;go_wp2;go_ret;exact⟨rfl,rfl⟩
attribute [local go_sem] ze
section
variable {P:Program} {α:Type} {w:World} {base:Nat} {v:Value} {l:List α} {F:Fence} {nF:Nat}
theorem CR(E:aw P α){d:Array Oper}{rest:List Oper}{o:Oper}{a:Act}{Q:Exit->Act->World->Prop}(e:o.guard=none)(s x:Operand)(t:TypeId)
  (ho:o.op=.call { callee:=.builtin .append,args:=#[s,x],argTypes:=#[t,t] }) (ht:P.underlying t=some (.slice E.e))
  (base:Nat) (hs:a.eval s=v) (hown:Ow w base E v l) (y:Value) (m:List α) (hx:a.eval x=y) (hsee:ah w E y m) (hn:l.length+m.length<=2147483648) (hbase:base<=w.heap.size)
  (h:∀v' w',dw base E (l++m) w v v' w'->wpListIn F nF P d Q rest (a.put o.dst v') w'):wpListIn F nF P d Q (o::rest) a w:=by
 refine wpListIn_plain e λK z=>?_;obtain⟨v',w',A,D⟩:=xo (P:=P) E w base t o.type ht hown hsee hn hbase;unfold Oper.wpIn;refine⟨?_,?_⟩;·simp[Oper.about,ho,resolve,Target.leads,Sem.run_pure]
 ·rw[Oper.semAt_plain F _ _ (by rw[ho];intro c G;cases G)];simp[execOp,ho,resolve,invoke,builtin,hs,hx,A,Result.andThen];exact z _ _ (h v' w' D)
theorem zF(E:aw P α){d:Array Oper}{rest:List Oper}{o:Oper}{a:Act}{Q:Exit->Act->World->Prop}(e:o.guard=none)(s x:Operand)(t:TypeId)
  (ho:o.op=.call { callee:=.builtin .append,args:=#[s,x],argTypes:=#[t,t] }) (ht:P.underlying t=some (.slice E.e))
  (base:Nat) (hs:a.eval s=v) (hown:Ow w base E v l) (c:List α) (cs:Array Value) (e':TypeId) (n:Nat) (hc:cs.toList=E.cells c) (hcn:n=c.length) (hx:a.eval x=.slice (some ⟨w.heap.size,0,none⟩) n n) (hn:l.length+c.length<=2147483648) (hbase:base<=w.heap.size)
  (h:∀v' w',dw base E (l++c) w v v' w'->wpListIn F nF P d Q rest (a.put o.dst v') w'):wpListIn F nF P d Q (o::rest) a (w.alloc (.cells cs e')):=by
 refine CR E e s x t ho ht base hs (hown.fr ((Fr.refl w).alloc _)) _ c hx (nm E w c cs e' n hcn hc (by unfold maxLen;omega)) hn (by simp;omega) λv' w' m=>h v' w' (m.under ((Fr.refl w).alloc _))
end
def yX(w:World)(B:Nat)(d:List Hd)(W:World):Prop:=(∃v,W.heap[B]?=some (.cells #[v] 75 (0,0))/\Ow W (B+1) aO v d)/\Below B w W
def nw{P:Program}{α:Type}{E:aw P α}{w w':World}{base:Nat}{v:Value}{l:List α}{z:Option Nat}(h:Ow w base E v l)(D:w.grownBy w' z)(G:∀r,z=some r->∃o:Obj,w.heap[r]?=some o/\o.isCells=false):Ow w' base E v l:=by
 refine h.kept D ?_
 cases d:v.ownBlock with
 | none=>exact .inl rfl
 | some g=>
  refine .inr λe=>?_;obtain⟨o,A,I⟩:=G g e.symm;rcases h.2 with⟨m,_⟩ | ⟨q,K,L,m,_,J,_⟩;·rw[m]at d;cases d
  ·rw[m]at d;simp only[Value.ownBlock,mU]at d;subst d;rw[J]at A;cases A;cases I
def tw{P:Program}{α:Type}{E:aw P α}{w:World}{base:Nat}{v:Value}{l:List α}(h:Ow w base E v l){j:Nat}{o:Obj}(d:v.ownBlock=some j)(m:w.heap[j]?=some o):o.isCells=true:=by
 rcases h.2 with⟨e,_⟩ | ⟨q,A,D,e,_,z,_⟩;·rw[e]at d;cases d
 ·rw[e]at d;simp only[Value.ownBlock,mU]at d;subst d;rw[z]at m;cases m;rfl
def yX.own(w:World)(B D:Nat)(I:B<D):OwnFrom D (yX w B):=by
 rintro s W J o ⟨⟨v,d,z⟩,A⟩ h m;have G:some B≠o:=λe=>by have:=(m B e.symm).1;omega
 refine⟨⟨v,?_,nw z h (λr e=>(m r e).2)⟩,?_⟩;·rw[h.block B (aR.1 d).1 G];exact d
 ·exact A.grown h (by have:=(aR.1 d).1;omega) (λk e=>by have:=(m k e).1;omega)
def VH(gf:Nat)(aj:gf=80)(z G:Value)(Bs Bn:Nat)(M:List Hd)(U:Nat)(S:List Hd->Prop)(Sp:List Hd->Prop)(hS:∀O,S O->O=M)(w:World)(aC:Bs<w.heap.size)(ba:Bn<w.heap.size)
  (hN:U<=1000000000)
  (hseq:∀n,1<=n->SeqStopsK Fence.wide n Tryz.prog gf #[z,G] (λx:Hd=>#[x.v]) (eA Bs Bn) S Sp U w) :
  Calls Tryz.prog 79 #[.slice none 0 0,.func (.func gf) #[] #[z,G]] w λe w'=>∃v,e=.returned v/\Ow w' w.heap.size aO v M/\Fr w w':=by
 subst aj;refine(lg (n:=9)).1 ?_;refine callsIn_of_wp_marks Tryz.func79 rfl trivial ?_ rfl;simp only[Tryz.ntmps79,ouQb,aL,gS,Nat.reduceAdd,Nat.reduceSub,u9,uz,un,ux,fJ,lm];gi_wp2;have hW:(w.alloc (.cells #[.slice none 0 0] 75)).heap[w.heap.size]?=some (.cells #[.slice none 0 0] 75 (0,0)):=aB _ _ _ rfl;have V:Below w.heap.size w (w.alloc (.cells #[.slice none 0 0] 75)):=(Below.refl _ w).alloc (al _) _
 refine wpIn_rangeFunc_ownF rfl ω (gf:=80) (lb:=#[z,G]) rfl trivial (enters_of Tryz.func80 (by kernel_rfl) rfl) (hseq _ ω) (λh k=>eA.trans h k) (eA.put (by simp;omega) (by simp;omega)) V (λ_=>rfl)
  (yX w w.heap.size) (λ_ _ _=>False) (yX.own w w.heap.size _ σ) (λ_ _ _ _ _ M _ _=>M) ⟨⟨_,hW,Ow.nil⟩,V⟩ (λx=>{ tmps:=#[.slice none 0 0,.func (.func 80) #[] #[z,G],.pointer (some ⟨w.heap.size,0,none⟩),undef,.slice none 0 0,x.v,.func (.func 80) #[] #[z,G],x.v,undef,undef,undef,undef,undef],defers:=[] }) ?assign ?body ?done ?stop
 case assign=>intro l x W K I;gi_wp2;exact I
 case body=>
  rintro l J x W ⟨⟨v,L,d⟩,Q⟩ a0;have c0:=ag L 0 rfl;have a2:w.heap.size+1<=W.heap.size:=(aR.1 L).1;obtain⟨X,Y,rfl⟩:=d.shape';gi_wp2_with (gi_at_builtin;refine zF aO rfl (.tmp 8) (.tmp 10) 75 rfl Tryz.underlying75 (w.heap.size+1) rfl d [x] _ _ _ rfl rfl rfl (by have Z:=a0;have h2:=hN;simp;omega) a2 ?_);intro v' w4 m;obtain⟨ab,ac,a3⟩:=m.own.shape';subst a3;have a4:some w.heap.size≠(Value.slice X J.length Y).ownBlock:=λe=>(by have:=(d.lt _ e.symm).1;omega);have R:w4.heap[w.heap.size]?=some (.cells #[.slice X J.length Y] 75 (0,0)):=m.chg'.heap L (λe=>a4 e.symm);have e3:=ag R 0 rfl;have e4:w4.frozen? ⟨w.heap.size,0,none⟩=false:=a8 R 0;gi_wp2;have a5:=a9 w4 ⟨w.heap.size,0,none⟩ (.slice ab (J.length+1) ac);refine⟨?_,?_,⟨_,aJ R 0 _,?_⟩,?_⟩;·exact(KeepsOthers.of_grownBy m.chg (λj o e hj=>tw d e hj)).trans (KeepsOthers.setCell _ _ _)
  ·have Z:=eA.of_chg (Bs:=Bs) (Bn:=Bn) m.chg' ω ω (λe=>by have:=(d.lt _ e).1;omega) (λe=>by have:=(d.lt _ e).1;omega);have h2:=eA.of_chg (Bs:=Bs) (Bn:=Bn) a5 (by have:=m.size;omega) (by have:=m.size;omega) (by simp;omega) (by simp;omega);exact Z.trans h2
  ·have:=eu (i:=0) (u:=.slice ab (J.length+1) ac) m.own (show w.heap.size<w.heap.size+1 by omega);simpa using this
  ·exact ep (m.below d Q ω ω) (al _) (by have:=m.size;omega)
 case done=>
  rintro D O W hD a7 ⟨⟨v,L,d⟩,Q⟩ I;obtain rfl:=hS _ a7;have c0:=ag L 0 rfl;gi_wp2;refine⟨σ,.inl ⟨_,_,rfl,zd I,?_⟩⟩;refine⟨_,results_tmp rfl _ _ _,_,rfl,?_,?_⟩;·exact nw (d.rebase (Nat.le_succ _)) (wg W D (.deferred none)) (λr e=>by cases e;exact⟨_,I,rfl⟩)
  ·exact Q.trans (belowK_b (w:=w) (al _) W D _ _ (by simp at hD;omega) I rfl rfl)
 case stop=>rintro D c J W hD _ h _;exact h.elim
def Uq(gf:Nat)(G:gf=80)(d h:Value)(Bs Bn:Nat)(m:List Hd)(o:Nat)(S:List Hd->Prop)(z:List Hd->Prop)(A:∀D,S D->D=m)(w:World)(I:Bs<w.heap.size)(J:Bn<w.heap.size)
  (hN:o<=1000000000)
  (hseq:∀n,1<=n->SeqStopsK Fence.wide n Tryz.prog gf #[d,h] (λx:Hd=>#[x.v]) (eA Bs Bn) S z o w) :
  Calls Tryz.prog 46 #[.func (.func gf) #[] #[d,h]] w λe w'=>∃v,e=.returned v/\Ow w' w.heap.size aO v m/\Fr w w':=by
 subst G;have K:=ad (VH _ rfl d h Bs Bn m o S z A w I J hN hseq);clear hseq A;go_in;go_wp2_with fail;refine K.out.mono ?_;rintro e O ⟨Q,rfl,L,M⟩;go_wp2;go_ret;exact⟨_,rfl,L,M⟩
def Ae{P:Program}{α:Type}{E:aw P α}{w:World}{b d n K:Nat}{l:List α}(h:ah w E (.slice (some ⟨b,d,none⟩) n K) l)(i m o:Nat)(L:i+m<=l.length)(Y:m<=o)(M:o<=maxLen):ah w E (.slice (some ⟨b,d+i*E.k,none⟩) m o) ((l.drop i).take m):=by
 have z:((l.drop i).take m).length=m:=by simp;omega
 refine⟨E.length_cells _,_,o,by rw[z],ω,M,σ,?_⟩;rcases kE m with Z | hp;·exact .inl ω
 ·obtain⟨b',ac,aj,O,_,_,Q⟩:=h.cells (by intro e;simp [e]at L;omega);cases O;refine .inr ⟨b,_,rfl,fun j u A=>?_⟩;have D:=E.pos;have G:=(pD.1 A).1;rw [E.length_cells,z]at G;have hq:j / E.k<m:=(qu D).2 G;have I:j % E.k<E.k:=jB _ D;have R:=ul j E.k;have J:=E.cells_at ((l.drop i).take m) (j / E.k) (by omega) (j % E.k) I;have U:j / E.k*E.k+j % E.k=j:=(by rw [dX];exact R);rw [U,A]at J;have V := Q (i + j / E.k) (by omega) (j % E.k) I u (by
    rw[J];congr 2
    rw[qz, s9])
  have X:d+i*E.k+j=d+((i+j / E.k)*E.k+j%E.k):=(by rw[be];omega);rw[X];exact V
def ek{α:Type}(l:List α)(c:Nat):List (List α):=(List.range (aH l.length c)).map λj=>(l.drop (j*c)).take c
def U0{α:Type}{E:aw Tryz.prog α}(A:E.k=1){m:aw Tryz.prog Hd}{w:World}{b d D:Nat}{l:List α}{v:Value}{c:Nat}(G:0<c)(h:ah w E (.slice (some ⟨b,d,none⟩) l.length D) l)(I:ah w m v (iD b d l.length c (aH l.length c))):cO w m E v (iD b d l.length c (aH l.length c)) (ek l c):=by
 refine⟨I,by simp[ek,iD],λi o O=>?_⟩;rw[rZ]at o;have Q:=(qY l.length c G i).1 o;have J:=h.shape;obtain⟨_,_,K,R,U,_⟩:=J;cases K;have z:=Ae h (i*c) (min c (l.length-i*c)) (min c (l.length-i*c)) ω (al _) ω;rw[A,eo]at z;have L:(iD b d l.length c (aH l.length c))[i]=kA b d l.length c i:=by simp[iD]
 have M:(ek l c)[i]=(l.drop (i*c)).take (min c (l.length-i*c)):=by
  simp only[ek,fK,jd];rcases Nat.le_total c (l.length-i*c)with e | e;·rw[fI e]
  ·rw[rqQc e,cw (by simp;omega),cw σ]
 rw[L,M];exact z
def GS(N k:Nat)(h:k<N):(List.finRange N).take (k+1)=(List.finRange N).take k++[⟨k,h⟩]:=by
 rw[f8 (by simpa using h)];congr 2;simp
def U3(Bs Bn:Nat)(v:Value)(d:List Z0)(c:Nat)(hc:1<=c)(ak:c<=1000000)(K:d.length<=1000000000)(w:World)(U:w.heap[Bs]?=some (.cells #[v] 81 (0,0)))(ap:w.heap[Bn]?=some (.cells #[N c] 3 (0,0)))(V:ah w eS v d):∃b A,(d=[]\/∃D,v=.slice (some ⟨b,A,none⟩) d.length D)/\∀n,1<=n->SeqStopsK Fence.wide n Tryz.prog 157 #[.pointer (some ⟨Bs,0,none⟩),.pointer (some ⟨Bn,0,none⟩)] (λj:Fin (aH d.length c)=>#[(kA b A d.length c j.val).v]) (eA Bs Bn) (λX=>X=List.finRange (aH d.length c)) (λ_=>True) (aH d.length c) w:=by
 obtain⟨a,D,rfl,h1,h2,h3⟩:=V.shape;by_cases Y:d=[]
 ·subst Y;have e0:aH ([]:List Z0).length c=0:=(by unfold aH;exact qx (by simp;omega));refine⟨0,0,.inl rfl,λn Z l J Jx W G _ _ hY L=>?_⟩;have O:=U6 n l Bs Bn (λ(_:List Hd) W=>J [] W) a D W ?_ L;·refine O.mono λe I ⟨m,o⟩=>⟨m,.inl ⟨[],?_,o⟩⟩;have:∀(M:Nat),M=0->([]:List (Fin M))=List.finRange M:=λM hM=>(by subst hM;rfl);exact this _ e0
  ·rw[aK (Fr.heap G U)];rfl
 ·obtain⟨b,A,aC,m,_⟩:=V.cells Y;cases m;refine⟨b,A,.inr ⟨D,rfl⟩,λn Z l J Jx W G O _ hY L=>?_⟩;generalize hN:aH d.length c=M at *
  have h:=U7 n Z l Bs Bn b A d.length D c hc ak h1 K (λz W=>z.length<=M/\J ((List.finRange M).take z.length) W) (λz W=>Jx ((List.finRange M).take z.length) W)
   (fun s W I hs hg => ⟨hs.1, O _ W I none hs.2 hg (fun r e => by cases e)⟩) (fun z x W o Q hx => by
     rw[hN] at Q
     subst hx
     have K : ((List.finRange M).take z.length).length < M := by rw[aA]; simp; omega
     refine (hY _ ⟨z.length, Q⟩ W o.2 K).mono λe I h => ?_
     rw[am, kH, GS M _ Q]
     rcases h with ⟨m, R, hk⟩ | ⟨m, R⟩
     · exact .inl ⟨m, ⟨ω, R⟩, hk⟩
     · exact .inr ⟨m, R⟩) W (Fr.heap G U) (Fr.heap G ap) ⟨ar _, by simpa using L⟩
  refine h.mono λe I ⟨m,hh⟩=>⟨m,?_⟩;rcases hh with⟨X,rfl,_,o⟩ | ⟨z,_,o⟩;·refine .inl ⟨_,rfl,?_⟩;rw[rZ,hN,cw σ]at o;exact o
  ·exact .inr ⟨_,trivial,o⟩
def tE{G:Nat->Prop}{W d:World}(h:ai G W d)(z:∀k o,W.heap[k]?=some o->G k->o.isCells=true):KeepsOthers W d:=
 ⟨h.size,λk o e m=>h.heap e λg=>by rw[z k o e g]at m;cases m⟩
def UA(Bs Bn:Nat)(v:Value)(d:Z0)(c:Nat)(hc:1<=c)(ak:c<=1000000)(K:d.length<=1000000000)(w:World)(U:w.heap[Bs]?=some (.cells #[v] 30 (0,0)))(ap:w.heap[Bn]?=some (.cells #[N c] 3 (0,0)))(V:ah w eB v d):∃b A,(d=[]\/∃D,v=.slice (some ⟨b,A,none⟩) d.length D)/\∀n,1<=n->SeqStopsK Fence.wide n Tryz.prog 80 #[.pointer (some ⟨Bs,0,none⟩),.pointer (some ⟨Bn,0,none⟩)] (λj:Fin (aH d.length c)=>#[(kA b A d.length c j.val).v]) (eA Bs Bn) (λX=>X=List.finRange (aH d.length c)) (λ_=>True) (aH d.length c) w:=by
 obtain⟨a,D,rfl,h1,h2,h3⟩:=V.shape;by_cases Y:d=[]
 ·subst Y;have e0:aH ([]:Z0).length c=0:=(by unfold aH;exact qx (by simp;omega));refine⟨0,0,.inl rfl,λn Z l J Jx W G _ _ hY L=>?_⟩;have O:=Is n l Bs Bn (λ(_:List Hd) W=>J [] W) a D W ?_ L;·refine O.mono λe I ⟨m,o⟩=>⟨m,.inl ⟨[],?_,o⟩⟩;have:∀(M:Nat),M=0->([]:List (Fin M))=List.finRange M:=λM hM=>(by subst hM;rfl);exact this _ e0
  ·rw[aK (Fr.heap G U)];rfl
 ·obtain⟨b,A,aC,m,_⟩:=V.cells Y;cases m;refine⟨b,A,.inr ⟨D,rfl⟩,λn Z l J Jx W G O _ hY L=>?_⟩;generalize hN:aH d.length c=M at *
  have h:=Iu n Z l Bs Bn b A d.length D c hc ak h1 K (λz W=>z.length<=M/\J ((List.finRange M).take z.length) W) (λz W=>Jx ((List.finRange M).take z.length) W)
   (fun s W I hs hg => ⟨hs.1, O _ W I none hs.2 hg (fun r e => by cases e)⟩) (fun z x W o Q hx => by
     rw[hN] at Q
     subst hx
     have K : ((List.finRange M).take z.length).length < M := by rw[aA]; simp; omega
     refine (hY _ ⟨z.length, Q⟩ W o.2 K).mono λe I h => ?_
     rw[am, kH, GS M _ Q]
     rcases h with ⟨m, R, hk⟩ | ⟨m, R⟩
     · exact .inl ⟨m, ⟨ω, R⟩, hk⟩
     · exact .inr ⟨m, R⟩) W (Fr.heap G U) (Fr.heap G ap) ⟨ar _, by simpa using L⟩
  refine h.mono λe I ⟨m,hh⟩=>⟨m,?_⟩;rcases hh with⟨X,rfl,_,o⟩ | ⟨z,_,o⟩;·refine .inl ⟨_,rfl,?_⟩;rw[rZ,hN,cw σ]at o;exact o
  ·exact .inr ⟨_,trivial,o⟩
def U9{w:World}{v:Value}{l:Z0}{b m n:Nat}(z:1<=n)(h:ah w eB v l)(A:l=[]\/∃o,v=.slice (some ⟨b,m,none⟩) l.length o)(j:Nat)(D:j<aH l.length n):ah w eB (kA b m l.length n j).v ((l.drop (j*n)).take n):=by
 have G:=(qY l.length n z j).1 D;rcases A with rfl | ⟨o,rfl⟩;·simp at G
 ·obtain⟨_,_,I,K,L,_⟩:=h.shape;cases I;have d:=Ae h (j*n) (min n (l.length-j*n)) (min n (l.length-j*n)) ω (al _) ω;rw[show(eB:aw Tryz.prog UInt8).k=1 from rfl,eo]at d;have J:(l.drop (j*n)).take (min n (l.length-j*n))=(l.drop (j*n)).take n:=by
   rcases Nat.le_total n (l.length-j*n)with e | e;·rw[fI e]
   ·rw[rqQc e,cw σ,cw (by simp;omega)]
  rw[J]at d;exact d
def GT{β:Type}(M n:Nat)(h:M=n)(f:Nat->β):(List.finRange M).map (λj:Fin M=>f j.val)=(List.range n).map f:=by
 subst h;apply gT;·simp
 ·intro i d e;simp
def Uz(n c:Nat)(d:1<=c):aH (n*c) c=n:=by
 unfold aH;rw[show n*c+c-1=c*n+(c-1) by rw[dX];omega,Nat.mul_add_div d,qx ω,dq]
