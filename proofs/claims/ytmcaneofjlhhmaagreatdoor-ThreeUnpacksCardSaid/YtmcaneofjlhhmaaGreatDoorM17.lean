/- Lemmas. -/
import Derived.RangeFuncNested
import Derived.RangeFuncBound
import Derived.Shelf.RegionOpen
import Derived.OwnWalkIn
import Derived.LoopNIn
import Derived.LoopIn
import Derived.Test.YtmcaneofjlhhmaaGreatDoorM03
import Derived.Test.YtmcaneofjlhhmaaGreatDoorM07
set_option linter.all false
set_option maxHeartbeats 8000000
set_option maxRecDepth 100000
namespace Go.Fk
abbrev aTQb:=@Go.bodyPost_ret
abbrev jlQc:=@List.nil_append
abbrev mDQb:=@List.length_singleton
abbrev lOQb:=@List.size_toArray
abbrev lh:=@Go.callsIn_wide
abbrev qX:=@Array.replicate_zero
abbrev qY:=@Array.replicate_succ
abbrev qS:=@List.append_toArray
abbrev qM:=@List.push_toArray
abbrev sA:=@Go.grownBy_putObj'
abbrev sE:=@Go.Oper.semAt_some
abbrev uQ:=@Go.run_takeDeferred
end Go.Fk
namespace Go.Proofs
open RowKit Fk Tryz
attribute [local go_sem] sE
def kB(b e d c j:Nat):Hd:=⟨some ⟨b,e+j*c,none⟩,min c (d-j*c),min c (d-j*c)⟩
def bK(d c:Nat):Nat:=(d+c-1) / c
def uw(d c:Nat)(h:0<c)(j:Nat):j<bK d c↔j*c<d:=by
 unfold bK;rw[Nat.lt_iff_add_one_le,zr h,bP,gl];omega
def go(b d e c k:Nat):List Hd:=(List.range k).map (kB b d e c)
def Ee(b d e c k:Nat):go b d e c (k+1)=go b d e c k++[kB b d e c k]:=by simp[go,jD]
def qf(b d e c k:Nat):(go b d e c k).length=k:=by simp[go]
def el(Bs Bn:Nat)(W d:World):Prop:=d.heap[Bs]?=W.heap[Bs]? /\ d.heap[Bn]?=W.heap[Bn]?
def el.refl(Bs Bn:Nat)(W:World):el Bs Bn W W:=⟨rfl,rfl⟩
def el.trans{Bs Bn:Nat}{A B C:World}(h:el Bs Bn A B)(k:el Bs Bn B C):el Bs Bn A C:=⟨k.1.trans h.1,k.2.trans h.2⟩
def el.put{Bs Bn B:Nat}(f:Bs<B)(h:Bn<B)(W:World)(l:Nat)(o d:Obj)(m:B<=l)(_:W.heap[l]?=some o)(_:o.isCells=false)(_:o.isWalk=false):el Bs Bn W (W.putObj l d):=
 ⟨(sA W l d).block Bs (by have:=(aX.1 ‹W.heap[l]?=some o›).1;omega) (λe=>by cases e;omega),(sA W l d).block Bn (by have:=(aX.1 ‹W.heap[l]?=some o›).1;omega) (λe=>by cases e;omega)⟩
def el.of_chg{Bs Bn:Nat}{G:Nat->Prop}{W d:World}(h:ag G W d)(e:Bs<W.heap.size)(f:Bn<W.heap.size)(m:¬G Bs)(o:¬G Bn):el Bs Bn W d:=⟨h.block Bs e m,h.block Bn f o⟩
def Bf{P:Program}{α:Type}(E:aJ P α)(t:TypeId)(f:P.underlying t=some (.slice E.e))(b e n d i:Nat)(q:n<=d)(z:i<=n):∃h m,∀W,(Instr.slice t (.slice (some ⟨b,e,none⟩) n d) (some (.int .i64 (i:Int))) none none).run P W=.ok (.slice h (n-i) m) W:=by
 have o:P.underlying t=some (.slice (P.elem t)):=by simp[Program.elem,f]
 have p:P.elem t=E.e:=by simp[Program.elem,f]
 refine⟨if d=i then some ⟨b,e,none⟩else some ((⟨b,e,none⟩:Addr).add (i*E.k)),d-i,λW=>?_⟩;rw[run_slice_l W t _ _ _ o .i64 _ ω ω,p,mI];simp[Result.andThen,sliced]
def Ei(n:Nat)(hn:1<=n)(l Bs Bn b m d z c:Nat)(hc:1<=c)(ba:c<=1000000)(al:d<=z)(bb:d<=1000000000)(J Y:List Hd->World->Prop)(hJ:∀s W o,J s W->W.grownBy o none->J s o)
  (hY : ∀ p x W, J p W → p.length < bK d c → x = kB b m d c p.length → YieldAt Fence.wide (n - 1) prog l #[Hd.v x] W fun e o =>
    (e = .returned (.bool true) ∧ J (p ++ [x]) o ∧ el Bs Bn W o) ∨ (e = .returned (.bool false) ∧ Y (p ++ [x]) o))
  (W:World) (hBs:W.heap[Bs]?=some (.cells #[.slice (some ⟨b,m,none⟩) d z] 22 (0,0))) (hBn:W.heap[Bn]?=some (.cells #[N c] 3 (0,0))) (h0:J [] W) :
  CallsIn Fence.wide n prog 109 #[.func (.yield l) #[] #[],.pointer (some ⟨Bs,0,none⟩),.pointer (some ⟨Bn,0,none⟩)] W λe o=>(∃v,e=.returned v) /\
   ((∃Z,Z=go b m d c (bK d c)/\J Z o)\/(∃p,(∃k,k<=bK d c/\p=go b m d c k)/\Y p o)):=by
 have aa:=uw d c hc
 refine callsIn_of_wp func109 rfl trivial ?_ rfl
 simp only[ntmps109,lOQb,gF,jG,Nat.reduceAdd,Nat.reduceSub,qY,qX,qM,qS,jlQc,lR]
 have ab:=ad aa
 clear aa
 gi_wp2
 gi_loopw [4] (λi wr => ∃k : Nat, k ≤ bK d c ∧ i = .int .i64 ((k * c : Nat) : Int) ∧ J (go b m d c k) wr ∧ el Bs Bn W wr)
  (λi _=>d+c-(intOf i).toNat)
 ·exact⟨0,ax _,σ,h0,el.refl _ _ _⟩
 ·
  obtain⟨k,hk,rfl,M,L⟩:=hrel
  have ap:=L.1.trans hBs
  have av:=L.2.trans hBn
  have c1:=af ap 0 rfl
  have c2:=af av 0 rfl
  by_cases ac:k<bK d c
  ·have hi:=(ab.out k).1 ac
   have D:=ad (λnq=>hY _ (kB b m d c k) (wr.drewN nq) (hJ _ _ _ M ⟨rfl,rfl,rfl,au _,λ_ _ _=>rfl⟩) (by rw[qf];exact ac) (by rw[qf]))
   have q:=ad (Ee b m d c k)
   have ah:Hid (((k+1)*c:Nat)=k*c+c):=by show _=_;rw[bP,gl]
   have ai:kB b m d c k=⟨some ⟨b,m+k*c,none⟩,min c (d-k*c),min c (d-k*c)⟩:=rfl
   rw[ai]at D q
   clear ai M
   generalize az:k*c=i at *
   clear az
   have e1:(0:Int)<=(i:Int):=ω
   have e2:(i:Int)<d:=ω
   have e3:(i:Int)<=d:=ω
   have bm:=aA ((i:Int)+c) ω
   have aj:=Bf eB 22 sJ b m d z i al ω
   obtain⟨fa,fc,aj⟩:=aj
   by_cases O:c<=d-i
   ·rw[kf O]at D q
    have a0:¬((d-i:Nat):Int)<(c:Int):=ω
    have a1:(c:Int)<=((d-i:Nat):Int):=ω
    have t1:((i:Int)+c).toNat-i=c:=ω
    have t2:(i:Int)<=(i:Int)+c:=ω
    have t3:(i:Int)+c<=z:=ω
    have t4:¬((i:Int)+c).toNat=i:=ω
    clear O
    gi_wp2
    gi_big_quiet_th (fail)
    obtain⟨fn,tmps,a7,a8,Q,G⟩:=D.out nq
    simp only[Hd.v]at Q
    have R:=ad G
    clear G
    gi_wp2
    refine R.out.mono ?_
    rintro e I (⟨rfl,U,V⟩ | ⟨rfl,X⟩)
    ·have K:el Bs Bn W I:=L.trans V
     have c3:I.cell? ⟨Bn,0,none⟩=some (N c):=by rw[aG (K.2.trans hBn)];rfl
     gi_wp2
     go_roundw
     ·exact⟨k+1,ω,by rw[ah.out];simp,by rw[q.out];exact U,K⟩
     ·exact μ
    ·gi_wp2
     refine aTQb (results_none rfl _ _ _) rfl ?_
     exact⟨⟨_,rfl⟩,.inr ⟨_,⟨k+1,ω,q.out.symm⟩,X⟩⟩
   ·rw[Nat.min_eq_right ω]at D q
    have a0:¬(c:Int)<=((d-i:Nat):Int):=ω
    have a1:((d-i:Nat):Int)<(c:Int):=ω
    have bt:=aA ((i:Int)+((d-i:Nat):Int)) ω
    have t1:((i:Int)+((d-i:Nat):Int)).toNat-i=d-i:=ω
    have t2:(i:Int)<=(i:Int)+((d-i:Nat):Int):=ω
    have t3:(i:Int)+((d-i:Nat):Int)<=z:=ω
    have t4:¬((i:Int)+((d-i:Nat):Int)).toNat=i:=ω
    clear O
    gi_wp2
    gi_big_quiet_th (fail)
    obtain⟨fn,tmps,a7,a8,Q,G⟩:=D.out nq
    simp only[Hd.v]at Q
    have R:=ad G
    clear G
    gi_wp2
    refine R.out.mono ?_
    rintro e I (⟨rfl,U,V⟩ | ⟨rfl,X⟩)
    ·have K:el Bs Bn W I:=L.trans V
     have c3:I.cell? ⟨Bn,0,none⟩=some (N c):=by rw[aG (K.2.trans hBn)];rfl
     gi_wp2
     go_roundw
     ·exact⟨k+1,ω,by rw[ah.out];simp,by rw[q.out];exact U,K⟩
     ·exact μ
    ·gi_wp2
     refine aTQb (results_none rfl _ _ _) rfl ?_
     exact⟨⟨_,rfl⟩,.inr ⟨_,⟨k+1,ω,q.out.symm⟩,X⟩⟩
  ·obtain rfl:k=bK d c:=ω
   have bu:¬((bK d c*c:Nat):Int)<d:=by
    have:=λh=>(ab.out (bK d c)).2 h
    omega
   gi_wp2
   go_end0
   exact⟨⟨_,rfl⟩,.inl M⟩
def Eh(n:Nat)(l Bs Bn:Nat)(J:List Hd->World->Prop)(a:Option Addr)(d:Nat)(W:World)(h:W.cell? ⟨Bs,0,none⟩=some (.slice a 0 d))(m:J [] W):CallsIn Fence.wide n prog 109 #[.func (.yield l) #[] #[],.pointer (some ⟨Bs,0,none⟩),.pointer (some ⟨Bn,0,none⟩)] W λe o=>(∃v,e=.returned v)/\J [] o:=by
 refine callsIn_of_wp func109 rfl trivial ?_ rfl;simp only[ntmps109,lOQb,gF,jG,Nat.reduceAdd,Nat.reduceSub,qY,qX,qM,qS,jlQc,lR];gi_wp2;gi_loopw [4] (λi wr=>i=.int .i64 0/\J [] wr/\wr.cell? ⟨Bs,0,none⟩=some (.slice a 0 d)) (λ_ _=>0);·exact⟨rfl,m,h⟩
 ·obtain⟨rfl,p,q⟩:=hrel;gi_wp2;go_end0;exact⟨⟨_,rfl⟩,p⟩
def Eg(a:Option Addr)(d h c:Nat)(m:1<=c)(w:World):Calls prog 51 #[.slice a d h,N c] w λe w'=>e=.returned (.func (.func 109) #[] #[.pointer (some ⟨w.heap.size,0,none⟩),.pointer (some ⟨w.heap.size+1,0,none⟩)])/\w'=(w.alloc (.cells #[.slice a d h] 22)).alloc (.cells #[N c] 3):=by
 go_in;go_wp2;go_ret;exact⟨rfl,rfl⟩
def Nr(Bs Bn:Nat)(v:Value)(d:U0)(c:Nat)(R:1<=c)(U:c<=1000000)(V:d.length<=1000000000)(w:World)(D:w.heap[Bs]?=some (.cells #[v] 22 (0,0)))(X:w.heap[Bn]?=some (.cells #[N c] 3 (0,0)))(G:ao w eB v d):∃b h,(d=[]\/∃m,v=.slice (some ⟨b,h,none⟩) d.length m)/\∀n,1<=n->SeqStopsK Fence.wide n prog 109 #[.pointer (some ⟨Bs,0,none⟩),.pointer (some ⟨Bn,0,none⟩)] (λx:Hd=>#[x.v]) (el Bs Bn) (λY=>Y=go b h d.length c (bK d.length c)) (λp=>∃k,k<=bK d.length c/\p=go b h d.length c k) (bK d.length c) w:=by
 obtain⟨a,m,rfl,q,I,h3⟩:=G.shape;by_cases K:d=[];·subst K;refine⟨0,0,.inl rfl,λn L l J M W o _ _ O z=>?_⟩;have Z:bK ([]:U0).length c=0:=(by unfold bK;exact oh (by simp;omega));refine(Eh n l Bs Bn J a m W ?_ z).mono λe Q ⟨A,hj⟩=>⟨A,.inl ⟨_,by rw[Z];rfl,hj⟩⟩;rw[aG (Fr.heap o D)];rfl
 ·obtain⟨b,h,aj,A,_⟩:=G.cells K;cases A;refine⟨b,h,.inr ⟨m,rfl⟩,λn L l J M W o hJ _ O z=>?_⟩;exact Ei n L l Bs Bn b h d.length m c R U q V J M (λs W Q hs hg=>hJ s W Q none hs hg (λr e=>by cases e)) (λp x W q I _=>O p x W q I) W (Fr.heap o D) (Fr.heap o X) z
def Nq(n:Nat)(hn:1<=n)(l Bs Bn b m d z c:Nat)(hc:1<=c)(ba:c<=1000000)(al:d<=z)(bb:d<=1000000000)(J Y:List Hd->World->Prop)(hJ:∀s W o,J s W->W.grownBy o none->J s o)
  (hY : ∀ p x W, J p W → p.length < bK d c → x = kB b m d c p.length → YieldAt Fence.wide (n - 1) prog l #[Hd.v x] W fun e o =>
    (e = .returned (.bool true) ∧ J (p ++ [x]) o ∧ el Bs Bn W o) ∨ (e = .returned (.bool false) ∧ Y (p ++ [x]) o))
  (W:World) (hBs:W.heap[Bs]?=some (.cells #[.slice (some ⟨b,m,none⟩) d z] 44 (0,0))) (hBn:W.heap[Bn]?=some (.cells #[N c] 3 (0,0))) (h0:J [] W) :
  CallsIn Fence.wide n prog 233 #[.func (.yield l) #[] #[],.pointer (some ⟨Bs,0,none⟩),.pointer (some ⟨Bn,0,none⟩)] W λe o=>(∃v,e=.returned v) /\
   ((∃Z,Z=go b m d c (bK d c)/\J Z o)\/(∃p,(∃k,k<=bK d c/\p=go b m d c k)/\Y p o)):=by
 have aa:=uw d c hc
 refine callsIn_of_wp func233 rfl trivial ?_ rfl
 simp only[ntmps233,lOQb,gF,jG,Nat.reduceAdd,Nat.reduceSub,qY,qX,qM,qS,jlQc,lR]
 have ab:=ad aa
 clear aa
 gi_wp2
 gi_loopw [4] (λi wr => ∃k : Nat, k ≤ bK d c ∧ i = .int .i64 ((k * c : Nat) : Int) ∧ J (go b m d c k) wr ∧ el Bs Bn W wr)
  (λi _=>d+c-(intOf i).toNat)
 ·exact⟨0,ax _,σ,h0,el.refl _ _ _⟩
 ·
  obtain⟨k,hk,rfl,M,L⟩:=hrel
  have ap:=L.1.trans hBs
  have av:=L.2.trans hBn
  have c1:=af ap 0 rfl
  have c2:=af av 0 rfl
  by_cases ac:k<bK d c
  ·have hi:=(ab.out k).1 ac
   have D:=ad (λnq=>hY _ (kB b m d c k) (wr.drewN nq) (hJ _ _ _ M ⟨rfl,rfl,rfl,au _,λ_ _ _=>rfl⟩) (by rw[qf];exact ac) (by rw[qf]))
   have q:=ad (Ee b m d c k)
   have ah:Hid (((k+1)*c:Nat)=k*c+c):=by show _=_;rw[bP,gl]
   have ai:kB b m d c k=⟨some ⟨b,m+k*c,none⟩,min c (d-k*c),min c (d-k*c)⟩:=rfl
   rw[ai]at D q
   clear ai M
   generalize az:k*c=i at *
   clear az
   have e1:(0:Int)<=(i:Int):=ω
   have e2:(i:Int)<d:=ω
   have e3:(i:Int)<=d:=ω
   have bm:=aA ((i:Int)+c) ω
   have aj:=Bf eS 44 uAB b m d z i al ω
   obtain⟨fa,fc,aj⟩:=aj
   by_cases O:c<=d-i
   ·rw[kf O]at D q
    have a0:¬((d-i:Nat):Int)<(c:Int):=ω
    have a1:(c:Int)<=((d-i:Nat):Int):=ω
    have t1:((i:Int)+c).toNat-i=c:=ω
    have t2:(i:Int)<=(i:Int)+c:=ω
    have t3:(i:Int)+c<=z:=ω
    have t4:¬((i:Int)+c).toNat=i:=ω
    clear O
    gi_wp2
    gi_big_quiet_th (fail)
    obtain⟨fn,tmps,a7,a8,Q,G⟩:=D.out nq
    simp only[Hd.v]at Q
    have R:=ad G
    clear G
    gi_wp2
    refine R.out.mono ?_
    rintro e I (⟨rfl,U,V⟩ | ⟨rfl,X⟩)
    ·have K:el Bs Bn W I:=L.trans V
     have c3:I.cell? ⟨Bn,0,none⟩=some (N c):=by rw[aG (K.2.trans hBn)];rfl
     gi_wp2
     go_roundw
     ·exact⟨k+1,ω,by rw[ah.out];simp,by rw[q.out];exact U,K⟩
     ·exact μ
    ·gi_wp2
     refine aTQb (results_none rfl _ _ _) rfl ?_
     exact⟨⟨_,rfl⟩,.inr ⟨_,⟨k+1,ω,q.out.symm⟩,X⟩⟩
   ·rw[Nat.min_eq_right ω]at D q
    have a0:¬(c:Int)<=((d-i:Nat):Int):=ω
    have a1:((d-i:Nat):Int)<(c:Int):=ω
    have bt:=aA ((i:Int)+((d-i:Nat):Int)) ω
    have t1:((i:Int)+((d-i:Nat):Int)).toNat-i=d-i:=ω
    have t2:(i:Int)<=(i:Int)+((d-i:Nat):Int):=ω
    have t3:(i:Int)+((d-i:Nat):Int)<=z:=ω
    have t4:¬((i:Int)+((d-i:Nat):Int)).toNat=i:=ω
    clear O
    gi_wp2
    gi_big_quiet_th (fail)
    obtain⟨fn,tmps,a7,a8,Q,G⟩:=D.out nq
    simp only[Hd.v]at Q
    have R:=ad G
    clear G
    gi_wp2
    refine R.out.mono ?_
    rintro e I (⟨rfl,U,V⟩ | ⟨rfl,X⟩)
    ·have K:el Bs Bn W I:=L.trans V
     have c3:I.cell? ⟨Bn,0,none⟩=some (N c):=by rw[aG (K.2.trans hBn)];rfl
     gi_wp2
     go_roundw
     ·exact⟨k+1,ω,by rw[ah.out];simp,by rw[q.out];exact U,K⟩
     ·exact μ
    ·gi_wp2
     refine aTQb (results_none rfl _ _ _) rfl ?_
     exact⟨⟨_,rfl⟩,.inr ⟨_,⟨k+1,ω,q.out.symm⟩,X⟩⟩
  ·obtain rfl:k=bK d c:=ω
   have bu:¬((bK d c*c:Nat):Int)<d:=by
    have:=λh=>(ab.out (bK d c)).2 h
    omega
   gi_wp2
   go_end0
   exact⟨⟨_,rfl⟩,.inl M⟩
def No(n:Nat)(l Bs Bn:Nat)(J:List Hd->World->Prop)(a:Option Addr)(d:Nat)(W:World)(h:W.cell? ⟨Bs,0,none⟩=some (.slice a 0 d))(m:J [] W):CallsIn Fence.wide n prog 233 #[.func (.yield l) #[] #[],.pointer (some ⟨Bs,0,none⟩),.pointer (some ⟨Bn,0,none⟩)] W λe o=>(∃v,e=.returned v)/\J [] o:=by
 refine callsIn_of_wp func233 rfl trivial ?_ rfl;simp only[ntmps233,lOQb,gF,jG,Nat.reduceAdd,Nat.reduceSub,qY,qX,qM,qS,jlQc,lR];gi_wp2;gi_loopw [4] (λi wr=>i=.int .i64 0/\J [] wr/\wr.cell? ⟨Bs,0,none⟩=some (.slice a 0 d)) (λ_ _=>0);·exact⟨rfl,m,h⟩
 ·obtain⟨rfl,p,q⟩:=hrel;gi_wp2;go_end0;exact⟨⟨_,rfl⟩,p⟩
def Nn(a:Option Addr)(d h c:Nat)(m:1<=c)(w:World):Calls prog 161 #[.slice a d h,N c] w λe w'=>e=.returned (.func (.func 233) #[] #[.pointer (some ⟨w.heap.size,0,none⟩),.pointer (some ⟨w.heap.size+1,0,none⟩)])/\w'=(w.alloc (.cells #[.slice a d h] 44)).alloc (.cells #[N c] 3):=by
 go_in;go_wp2;go_ret;exact⟨rfl,rfl⟩
def Nm(Bs Bn:Nat)(v:Value)(d:List U0)(c:Nat)(R:1<=c)(U:c<=1000000)(V:d.length<=1000000000)(w:World)(D:w.heap[Bs]?=some (.cells #[v] 44 (0,0)))(X:w.heap[Bn]?=some (.cells #[N c] 3 (0,0)))(G:ao w eS v d):∃b h,(d=[]\/∃m,v=.slice (some ⟨b,h,none⟩) d.length m)/\∀n,1<=n->SeqStopsK Fence.wide n prog 233 #[.pointer (some ⟨Bs,0,none⟩),.pointer (some ⟨Bn,0,none⟩)] (λx:Hd=>#[x.v]) (el Bs Bn) (λY=>Y=go b h d.length c (bK d.length c)) (λp=>∃k,k<=bK d.length c/\p=go b h d.length c k) (bK d.length c) w:=by
 obtain⟨a,m,rfl,q,I,h3⟩:=G.shape;by_cases K:d=[];·subst K;refine⟨0,0,.inl rfl,λn L l J M W o _ _ O z=>?_⟩;have Z:bK ([]:List U0).length c=0:=(by unfold bK;exact oh (by simp;omega));refine(No n l Bs Bn J a m W ?_ z).mono λe Q ⟨A,hj⟩=>⟨A,.inl ⟨_,by rw[Z];rfl,hj⟩⟩;rw[aG (Fr.heap o D)];rfl
 ·obtain⟨b,h,aj,A,_⟩:=G.cells K;cases A;refine⟨b,h,.inr ⟨m,rfl⟩,λn L l J M W o hJ _ O z=>?_⟩;exact Nq n L l Bs Bn b h d.length m c R U q V J M (λs W Q hs hg=>hJ s W Q none hs hg (λr e=>by cases e)) (λp x W q I _=>O p x W q I) W (Fr.heap o D) (Fr.heap o X) z
attribute [local go_sem] sE
section
variable {P:Program} {α:Type} {w:World} {base:Nat} {v:Value} {l:List α} {F:Fence} {nF:Nat}
theorem FY(E:aJ P α){d:Array Oper}{rest:List Oper}{o:Oper}{a:Act}{Q:Exit->Act->World->Prop}(e:o.guard=none)(s x:Operand)(t:TypeId)
  (ho:o.op=.call { callee:=.builtin .append,args:=#[s,x],argTypes:=#[t,t] }) (ht:P.underlying t=some (.slice E.e))
  (base:Nat) (hs:a.eval s=v) (hown:Ow w base E v l) (y:Value) (m:List α) (hx:a.eval x=y) (hsee:ao w E y m) (hn:l.length+m.length<=2147483648) (hbase:base<=w.heap.size)
  (h:∀v' w',dF base E (l++m) w v v' w'->wpListIn F nF P d Q rest (a.put o.dst v') w'):wpListIn F nF P d Q (o::rest) a w:=by
 refine wpListIn_plain e λK f=>?_;obtain⟨v',w',p,q⟩:=vY (P:=P) E w base t o.type ht hown hsee hn hbase;unfold Oper.wpIn;refine⟨?_,?_⟩;·simp[Oper.about,ho,resolve,Target.leads,Sem.run_pure]
 ·rw[Oper.semAt_plain F _ _ (by rw[ho];intro c z;cases z)];simp[execOp,ho,resolve,invoke,builtin,hs,hx,p,Result.andThen];exact f _ _ (h v' w' q)
theorem vB(E:aJ P α){d:Array Oper}{rest:List Oper}{o:Oper}{a:Act}{Q:Exit->Act->World->Prop}(e:o.guard=none)(s x:Operand)(t:TypeId)
  (ho:o.op=.call { callee:=.builtin .append,args:=#[s,x],argTypes:=#[t,t] }) (ht:P.underlying t=some (.slice E.e))
  (base:Nat) (hs:a.eval s=v) (hown:Ow w base E v l) (c:List α) (cs:Array Value) (e':TypeId) (n:Nat) (hc:cs.toList=E.cells c) (hcn:n=c.length) (hx:a.eval x=.slice (some ⟨w.heap.size,0,none⟩) n n) (hn:l.length+c.length<=2147483648) (hbase:base<=w.heap.size)
  (h:∀v' w',dF base E (l++c) w v v' w'->wpListIn F nF P d Q rest (a.put o.dst v') w'):wpListIn F nF P d Q (o::rest) a (w.alloc (.cells cs e')):=by
 refine FY E e s x t ho ht base hs (hown.fr ((Fr.refl w).alloc _)) _ c hx (lV E w c cs e' n hcn hc (by unfold maxLen;omega)) hn (by simp;omega) λv' w' f=>h v' w' (f.under ((Fr.refl w).alloc _))
end
def uN(w:World)(B:Nat)(d:List Hd)(W:World):Prop:=(∃v,W.heap[B]?=some (.cells #[v] 42 (0,0))/\Ow W (B+1) aS v d)/\Below B w W
def lF{P:Program}{α:Type}{E:aJ P α}{w w':World}{base:Nat}{v:Value}{l:List α}{m:Option Nat}(h:Ow w base E v l)(z:w.grownBy w' m)(A:∀r,m=some r->∃o:Obj,w.heap[r]?=some o/\o.isCells=false):Ow w' base E v l:=by
 refine h.kept z ?_
 cases d:v.ownBlock with
 | none=>exact .inl rfl
 | some g=>
  refine .inr λe=>?_;obtain⟨o,p,D⟩:=A g e.symm;rcases h.2 with⟨f,_⟩ | ⟨q,I,J,f,_,G,_⟩;·rw[f]at d;cases d
  ·rw[f]at d;simp only[Value.ownBlock,ji]at d;subst d;rw[G]at p;cases p;cases D
def tK{P:Program}{α:Type}{E:aJ P α}{w:World}{base:Nat}{v:Value}{l:List α}(h:Ow w base E v l){j:Nat}{o:Obj}(d:v.ownBlock=some j)(f:w.heap[j]?=some o):o.isCells=true:=by
 rcases h.2 with⟨e,_⟩ | ⟨q,p,z,e,_,m,_⟩;·rw[e]at d;cases d
 ·rw[e]at d;simp only[Value.ownBlock,ji]at d;subst d;rw[m]at f;cases f;rfl
def uN.own(w:World)(B D:Nat)(z:B<D):OwnFrom D (uN w B):=by
 rintro s W A m ⟨⟨v,d,o⟩,p⟩ f h;have q:some B≠m:=λe=>by grind
 refine⟨⟨v,?_,lF o f (λr e=>(h r e).2)⟩,?_⟩;·rw[f.block B (aX.1 d).1 q];exact d
 ·exact p.grown f (by have:=(aX.1 d).1;omega) (λk e=>by have:=(h k e).1;omega)
def Ot(gf:Nat)(ab:gf=109)(p q:Value)(Bs Bn:Nat)(I:List Hd)(Q:Nat)(S:List Hd->Prop)(Sp:List Hd->Prop)(hS:∀L,S L->L=I)(w:World)(a1:Bs<w.heap.size)(a2:Bn<w.heap.size)
  (hN:Q<=1000000000)
  (hseq:∀n,1<=n->SeqStopsK Fence.wide n prog gf #[p,q] (λx:Hd=>#[x.v]) (el Bs Bn) S Sp Q w) :
  Calls prog 108 #[.slice none 0 0,.func (.func gf) #[] #[p,q]] w λe w'=>∃v,e=.returned v/\Ow w' w.heap.size aS v I/\Fr w w':=by
 subst ab;refine(lh (n:=9)).1 ?_;refine callsIn_of_wp_marks func108 rfl trivial ?_ rfl;simp only[ntmps108,lOQb,gF,jG,Nat.reduceAdd,Nat.reduceSub,qY,qX,qM,qS,jlQc,lR];gi_wp2;have hW:(w.alloc (.cells #[.slice none 0 0] 42)).heap[w.heap.size]?=some (.cells #[.slice none 0 0] 42 (0,0)):=aD _ _ _ rfl;have R:Below w.heap.size w (w.alloc (.cells #[.slice none 0 0] 42)):=(Below.refl _ w).alloc (au _) _
 refine wpIn_rangeFunc_ownF rfl ω (gf:=109) (lb:=#[p,q]) rfl trivial (enters_of func109 (by kernel_rfl) rfl) (hseq _ ω) (λh k=>el.trans h k) (el.put (by simp;omega) (by simp;omega)) R (λ_=>rfl)
  (uN w w.heap.size) (λ_ _ _=>False) (uN.own w w.heap.size _ σ) (λ_ _ _ _ _ I _ _=>I) ⟨⟨_,hW,Ow.nil⟩,R⟩ (λx=>{ tmps:=#[.slice none 0 0,.func (.func 109) #[] #[p,q],.pointer (some ⟨w.heap.size,0,none⟩),undef,.slice none 0 0,x.v,.func (.func 109) #[] #[p,q],x.v,undef,undef,undef,undef,undef],defers:=[] }) ?assign ?body ?done ?stop
 case assign=>intro l x W K z;gi_wp2;exact z
 case body=>
  rintro l J x W ⟨⟨v,G,d⟩,M⟩ aj;have c0:=af G 0 rfl;have al:w.heap.size+1<=W.heap.size:=(aX.1 G).1;obtain⟨U,V,rfl⟩:=d.shape';gi_wp2_with (gi_at_builtin;refine vB aS rfl (.tmp 8) (.tmp 10) 42 rfl uAE (w.heap.size+1) rfl d [x] _ _ _ rfl rfl rfl (by have X:=aj;have Y:=hN;simp;omega) al ?_);intro v' w4 m;obtain⟨Z,aa,am⟩:=m.own.shape';subst am;have ap:some w.heap.size≠(Value.slice U J.length V).ownBlock:=λe=>(by have:=(d.lt _ e.symm).1;omega);have O:w4.heap[w.heap.size]?=some (.cells #[.slice U J.length V] 42 (0,0)):=m.chg'.heap G (λe=>ap e.symm);have e3:=af O 0 rfl;have e4:w4.frozen? ⟨w.heap.size,0,none⟩=false:=aB O 0;gi_wp2;have av:=ay w4 ⟨w.heap.size,0,none⟩ (.slice Z (J.length+1) aa);refine⟨?_,?_,⟨_,aI O 0 _,?_⟩,?_⟩;·exact(KeepsOthers.of_grownBy m.chg (λj o e hj=>tK d e hj)).trans (KeepsOthers.setCell _ _ _)
  ·have X:=el.of_chg (Bs:=Bs) (Bn:=Bn) m.chg' ω ω (d.nO ω) (d.nO ω);have Y:=el.of_chg (Bs:=Bs) (Bn:=Bn) av (by have:=m.size;omega) (by have:=m.size;omega) (by simp;omega) (by simp;omega);exact X.trans Y
  ·have:=de (i:=0) (u:=.slice Z (J.length+1) aa) m.own (show w.heap.size<w.heap.size+1 by omega);simpa using this
  ·exact eP (m.below d M ω ω) (au _) (by have:=m.size;omega)
 case done=>
  rintro D L W hD a0 ⟨⟨v,G,d⟩,M⟩ z;obtain rfl:=hS _ a0;have c0:=af G 0 rfl;gi_wp2;refine⟨σ,.inl ⟨_,_,rfl,uQ z,?_⟩⟩;refine⟨_,results_tmp rfl _ _ _,_,rfl,?_,?_⟩;·exact lF (d.rebase (Nat.le_succ _)) (sA W D (.deferred none)) (λr e=>by cases e;exact⟨_,z,rfl⟩)
  ·exact M.trans (belowK_b (w:=w) (au _) W D _ _ (by simp at hD;omega) z rfl rfl)
 simp
def Nc(gf:Nat)(A:gf=109)(d h:Value)(Bs Bn:Nat)(m:List Hd)(o:Nat)(S:List Hd->Prop)(p:List Hd->Prop)(q:∀z,S z->z=m)(w:World)(D:Bs<w.heap.size)(G:Bn<w.heap.size)
  (hN:o<=1000000000)
  (hseq:∀n,1<=n->SeqStopsK Fence.wide n prog gf #[d,h] (λx:Hd=>#[x.v]) (el Bs Bn) S p o w) :
  Calls prog 50 #[.func (.func gf) #[] #[d,h]] w λe w'=>∃v,e=.returned v/\Ow w' w.heap.size aS v m/\Fr w w':=by
 subst A;have I:=ad (Ot _ rfl d h Bs Bn m o S p q w D G hN hseq);clear hseq q;go_in;go_wp2_with fail;refine I.out.mono ?_;rintro e L ⟨M,rfl,J,K⟩;go_wp2;go_ret;exact⟨_,rfl,J,K⟩
def AV{P:Program}{α:Type}{E:aJ P α}{w:World}{b f n G:Nat}{l:List α}(h:ao w E (.slice (some ⟨b,f,none⟩) n G) l)(i m d:Nat)(I:i+m<=l.length)(Q:m<=d)(J:d<=maxLen):ao w E (.slice (some ⟨b,f+i*E.k,none⟩) m d) ((l.drop i).take m):=by
 have o:((l.drop i).take m).length=m:=by simp;omega
 refine⟨E.length_cells _,_,d,by rw[o],ω,J,σ,?_⟩;rcases kJ m with R | U;·omega
 ·obtain⟨V,W,X,K,_,_,L⟩:=h.cells (by intro e;simp [e]at I;omega);cases K;refine .inr ⟨b,_,rfl,fun j u p=>?_⟩;have q:=E.pos;have z:=(List.getElem?_eq_some_iff.1 p).1;rw [E.length_cells,o]at z;have Y:j / E.k<m:=(pB q).2 z;have A:j % E.k<E.k:=jB _ q;have M:=sH j E.k;have D:=E.cells_at ((l.drop i).take m) (j / E.k) (by omega) (j % E.k) A;have O:j / E.k*E.k+j % E.k=j:=(by rw [g7];exact M);rw [O,p]at D;have Z := L (i + j / E.k) (by omega) (j % E.k) A u (by
    rw[D];congr 2
    rw[n5, pD])
  grind
def ml{α:Type}(l:List α)(c:Nat):List (List α):=(List.range (bK l.length c)).map λj=>(l.drop (j*c)).take c
def Nl{α:Type}{E:aJ prog α}(o:E.k=1){e:aJ prog Hd}{w:World}{b d p:Nat}{l:List α}{v:Value}{c:Nat}(q:0<c)(h:ao w E (.slice (some ⟨b,d,none⟩) l.length p) l)(z:ao w e v (go b d l.length c (bK l.length c))):cV w e E v (go b d l.length c (bK l.length c)) (ml l c):=by
 refine⟨z,by simp[ml,go],λi f J=>?_⟩;rw[qf]at f;have K:=(uw l.length c q i).1 f;have A:=h.shape;obtain⟨_,_,D,L,M,_⟩:=A;cases D;have m:=AV h (i*c) (min c (l.length-i*c)) (min c (l.length-i*c)) ω (au _) ω;rw[o,eo]at m;have G:(go b d l.length c (bK l.length c))[i]=kB b d l.length c i:=by simp[go]
 have I:(ml l c)[i]=(l.drop (i*c)).take (min c (l.length-i*c)):=by simp only[ml,jm,lq];simp
 rw[G,I];exact m
def Mg(N k:Nat)(h:k<N):(List.finRange N).take (k+1)=(List.finRange N).take k++[⟨k,h⟩]:=by
 rw[ea (by simpa using h)];congr 2;simp
def xP{G:Nat->Prop}{W d:World}(h:ag G W d)(m:∀k o,W.heap[k]?=some o->G k->o.isCells=true):KeepsOthers W d:=
 ⟨h.size,λk o e f=>h.heap e λg=>by rw[m k o e g]at f;cases f⟩
def Nt(Bs Bn:Nat)(v:Value)(d:U0)(c:Nat)(hc:1<=c)(ac:c<=1000000)(G:d.length<=1000000000)(w:World)(Q:w.heap[Bs]?=some (.cells #[v] 22 (0,0)))(ah:w.heap[Bn]?=some (.cells #[N c] 3 (0,0)))(R:ao w eB v d):∃b q,(d=[]\/∃z,v=.slice (some ⟨b,q,none⟩) d.length z)/\∀n,1<=n->SeqStopsK Fence.wide n prog 109 #[.pointer (some ⟨Bs,0,none⟩),.pointer (some ⟨Bn,0,none⟩)] (λj:Fin (bK d.length c)=>#[(kB b q d.length c j.val).v]) (el Bs Bn) (λU=>U=List.finRange (bK d.length c)) (λ_=>True) (bK d.length c) w:=by
 obtain⟨a,z,rfl,h1,h2,h3⟩:=R.shape;by_cases V:d=[]
 ·subst V;have e0:bK ([]:U0).length c=0:=(by unfold bK;exact oh (by simp;omega));refine⟨0,0,.inl rfl,λn X l J Y W A _ _ Z I=>?_⟩;have K:=Eh n l Bs Bn (λ(_:List Hd) W=>J [] W) a z W ?_ I;·refine K.mono λe D ⟨m,o⟩=>⟨m,.inl ⟨[],?_,o⟩⟩;have:∀(M:Nat),M=0->([]:List (Fin M))=List.finRange M:=λM hM=>(by subst hM;rfl);exact this _ e0
  ·rw[aG (Fr.heap A Q)];rfl
 ·obtain⟨b,q,a1,m,_⟩:=R.cells V;cases m;refine⟨b,q,.inr ⟨z,rfl⟩,λn X l J Y W A K _ Z I=>?_⟩;generalize hN:bK d.length c=M at *
  have h:=Ei n X l Bs Bn b q d.length z c hc ac h1 G (λp W=>p.length<=M/\J ((List.finRange M).take p.length) W) (λp W=>Y ((List.finRange M).take p.length) W)
   (fun s W D hs hg => ⟨hs.1, K _ W D none hs.2 hg (fun r e => by cases e)⟩) (fun p x W o L hx => by
     rw[hN] at L
     subst hx
     have G : ((List.finRange M).take p.length).length < M := by rw[aP]; simp; omega
     refine (Z _ ⟨p.length, L⟩ W o.2 G).mono λe D h => ?_
     rw[aM, mDQb, Mg M _ L]
     rcases h with ⟨m, O, hk⟩ | ⟨m, O⟩
     · exact .inl ⟨m, ⟨ω, O⟩, hk⟩
     · exact .inr ⟨m, O⟩) W (Fr.heap A Q) (Fr.heap A ah) ⟨ax _, by simpa using I⟩
  refine h.mono λe D ⟨m,hh⟩=>⟨m,?_⟩;rcases hh with⟨U,rfl,_,o⟩ | ⟨p,_,o⟩;·refine .inl ⟨_,rfl,?_⟩;rw[qf,hN,dN σ]at o;exact o
  ·exact .inr ⟨_,trivial,o⟩
def Ns{w:World}{v:Value}{l:U0}{b f n:Nat}(o:1<=n)(h:ao w eB v l)(p:l=[]\/∃m,v=.slice (some ⟨b,f,none⟩) l.length m)(j:Nat)(q:j<bK l.length n):ao w eB (kB b f l.length n j).v ((l.drop (j*n)).take n):=by
 have z:=(uw l.length n o j).1 q;rcases p with rfl | ⟨m,rfl⟩;·simp at z
 ·obtain⟨_,_,A,G,I,_⟩:=h.shape;cases A;have d:=AV h (j*n) (min n (l.length-j*n)) (min n (l.length-j*n)) ω (au _) ω;rw[show(eB:aJ prog UInt8).k=1 from rfl,eo]at d;have D:(l.drop (j*n)).take (min n (l.length-j*n))=(l.drop (j*n)).take n:=by
   rcases Nat.le_total n (l.length-j*n)with e | e;·rw[kf e]
   ·rw[Nat.min_eq_right e,dN σ,dN (by simp;omega)]
  rw[D]at d;exact d
def Dx{β:Type}(M n:Nat)(h:M=n)(f:Nat->β):(List.finRange M).map (λj:Fin M=>f j.val)=(List.range n).map f:=by
 subst h;apply jI;·simp
 ·intro i d e;simp
def Nk(n c:Nat)(d:1<=c):bK (n*c) c=n:=by
 unfold bK;rw[show n*c+c-1=c*n+(c-1) by rw[g7];omega,uT d,oh ω,g8]
