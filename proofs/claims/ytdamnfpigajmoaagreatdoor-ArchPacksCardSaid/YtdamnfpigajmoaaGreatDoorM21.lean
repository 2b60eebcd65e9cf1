/- Parts of the proof of ArchPacks: I1 I2 I3 I4. -/
import Derived.RangeFuncBox
import Derived.RangeFuncLeaves
import Derived.RangeFuncNested
import Derived.RangeFuncBound
import Derived.RangeFuncCalls
import Derived.Shelf.Abstract
import Derived.Shelf.RegionOpen
import Derived.OwnWalkIn
import Derived.TacticsInMore
import Derived.LoopNIn
import Derived.LoopIn
import Derived.Sort.BigQuietIn
import Derived.Test.YtdamnfpigajmoaaGreatDoorM09
import Derived.Test.YtdamnfpigajmoaaGreatDoorM04
set_option linter.unusedVariables false
set_option linter.unusedSectionVars false
set_option linter.unusedSimpArgs false
set_option maxHeartbeats 8000000
set_option maxRecDepth 100000
namespace Go.Fk
abbrev b6Qd:=@Go.bodyPost_ret
abbrev jr:=@Go.callsIn_wide
abbrev ojQb:=@List.size_toArray
abbrev qb:=@Array.replicate_zero
abbrev qd:=@Array.replicate_succ
abbrev pW:=@List.append_toArray
abbrev pQ:=@List.push_toArray
abbrev pOQb:=@Nat.min_eq_right
end Go.Fk
namespace Go.Proofs.YtdamnfpigajmoaaGreatDoor
open Go.RowKit Go.Fk
attribute [local go_sem] Oper.semAt_some
def iJ(b e d c j:Nat):Hd:=⟨some ⟨b,e+j*c,none⟩,min c (d - j*c),min c (d - j*c)⟩
def aC(d c:Nat):Nat:=(d+c - 1) / c
theorem nS(d c:Nat)(h:0<c)(j:Nat):j<aC d c↔j*c<d:=by
 unfold aC;rw [Nat.lt_iff_add_one_le,vI h,cr,fJ];omega
def eO(b d e c k:Nat):List Hd:=(List.range k).map (iJ b d e c)
theorem Ad(b d e c k:Nat):eO b d e c (k+1)=eO b d e c k++[iJ b d e c k]:=by simp [eO,jt]
theorem nR(b d e c k:Nat):(eO b d e c k).length=k:=by simp [eO]
def dw(Bs Bn:Nat)(W d:World):Prop:=d.heap[Bs]? = W.heap[Bs]? /\ d.heap[Bn]? = W.heap[Bn]?
theorem dw.refl(Bs Bn:Nat)(W:World):dw Bs Bn W W:=⟨rfl,rfl⟩
theorem dw.trans{Bs Bn:Nat}{A B C:World}(h:dw Bs Bn A B)(k:dw Bs Bn B C):dw Bs Bn A C:=⟨k.1.trans h.1,k.2.trans h.2⟩
theorem dw.put{Bs Bn B:Nat}(h:Bs<B)(m:Bn<B)(W:World)(l:Nat)(o d:Obj)(q:B<=l)(_:W.heap[l]? = some o)(_:o.isCells=false)(_:o.isWalk=false):dw Bs Bn W (W.putObj l d):=
 ⟨(grownBy_putObj' W l d).block Bs (by have:=(aR.1 ‹W.heap[l]? = some o›).1;omega) (fun e=>by cases e;omega),(grownBy_putObj' W l d).block Bn (by have:=(aR.1 ‹W.heap[l]? = some o›).1;omega) (fun e=>by cases e;omega)⟩
theorem dw.of_chg{Bs Bn:Nat}{G:Nat->Prop}{W d:World}(h:ak G W d)(e:Bs<W.heap.size)(m:Bn<W.heap.size)(o:¬G Bs)(q:¬G Bn):dw Bs Bn W d:=⟨h.block Bs e o,h.block Bn m q⟩
theorem xO{P:Program}{α:Type}(E:al P α)(t:TypeId)(h:P.underlying t=some (.slice E.e))(b e n d i:Nat)(z:n<=d)(A:i<=n) :
  ∃ m o,∀ W,(Instr.slice t (.slice (some ⟨b,e,none⟩) n d) (some (.int .i64 (i:Int))) none none).run P W=.ok (.slice m (n - i) o) W:=by
 have q:P.underlying t=some (.slice (P.elem t)):=by simp [Program.elem,h]
 have y:P.elem t=E.e:=by simp [Program.elem,h]
 refine⟨if d=i then some ⟨b,e,none⟩else some ((⟨b,e,none⟩:Addr).add (i*E.k)),d - i,fun W=>?_⟩;rw [run_slice_l W t _ _ _ q .i64 _ (by omega) (by omega),y,mn];simp [Result.andThen,sliced]
theorem Ic (n : Nat) (hn : 1 ≤ n) (l Bs Bn b m d z c : Nat) (hc : 1 ≤ c) (bu : c ≤ 1000000) (a1 : d ≤ z) (bv : d ≤ 1000000000) (J X : List Hd → World → Prop) (hJ : ∀ s W o, J s W → W.grownBy o none → J s o)
    (hY : ∀ q x W, J q W → q.length < aC d c → x = iJ b m d c q.length → YieldAt Fence.wide (n - 1) Tryz.prog l #[Hd.v x] W fun e o =>
      (e = .returned (.bool true) ∧ J (q ++ [x]) o ∧ dw Bs Bn W o) ∨ (e = .returned (.bool false) ∧ X (q ++ [x]) o))
    (W:World) (hBs:W.heap[Bs]? = some (.cells #[.slice (some ⟨b,m,none⟩) d z] 29 (0,0))) (hBn:W.heap[Bn]? = some (.cells #[N c] 3 (0,0))) (h0:J [] W) :
    CallsIn Fence.wide n Tryz.prog 113 #[.func (.yield l) #[] #[],.pointer (some ⟨Bs,0,none⟩),.pointer (some ⟨Bn,0,none⟩)] W fun e o=>(∃ v,e=.returned v) /\
      ((∃ Y,Y=eO b m d c (aC d c)/\J Y o)\/(∃ q,(∃ k,k<=aC d c/\q=eO b m d c k)/\X q o)):=by
  have Z:=nS d c hc
  refine callsIn_of_wp Tryz.func113 rfl trivial ?_ rfl
  simp only [Tryz.ntmps113,ojQb,bg,fz,Nat.reduceAdd,Nat.reduceSub,qd,qb,pQ,pW,gI,lY]
  have aa:=ad Z
  clear Z
  gi_wp2
  gi_loopw [4] (fun i wr => ∃ k : Nat, k ≤ aC d c ∧ i = .int .i64 ((k * c : Nat) : Int) ∧ J (eO b m d c k) wr ∧ dw Bs Bn W wr)
    (fun i _=>d+c - (intOf i).toNat)
  case atStart=>exact⟨0,ap _,by simp,h0,dw.refl _ _ _⟩
  case round=>
    obtain⟨k,hk,rfl,M,L⟩:=hrel
    have a3:=L.1.trans hBs
    have a4:=L.2.trans hBn
    have c1:=ae a3 0 rfl
    have c2:=ae a4 0 rfl
    by_cases ab:k<aC d c
    · have hi:=(aa.out k).1 ab
      have D:=ad (fun nq=>hY _ (iJ b m d c k) (wr.drewN nq) (hJ _ _ _ M ⟨rfl,rfl,rfl,ag _,fun _ _ _=>rfl⟩) (by rw [nR];exact ab) (by rw [nR]))
      have y:=ad (Ad b m d c k)
      have ac:Hid (((k+1)*c:Nat)=k*c+c):=by show _=_;rw [cr,fJ]
      have aj:iJ b m d c k=⟨some ⟨b,m+k*c,none⟩,min c (d - k*c),min c (d - k*c)⟩:=rfl
      rw [aj]at D y
      clear aj M
      generalize a5:k*c=i at *
      clear a5
      have e1:(0:Int)<=(i:Int):=by omega
      have e2:(i:Int)<d:=by omega
      have e3:(i:Int)<=d:=by omega
      have b4:IntKind.i64.wrap ((i:Int)+c)=(i:Int)+c:=ar _ (by omega)
      have av:=xO eB 29 Tryz.underlying29 b m d z i a1 (by omega)
      obtain⟨fa,fc,av⟩:=av
      by_cases O:c<=d - i
      · rw [gr O]at D y
        have a6:¬((d - i:Nat):Int)<(c:Int):=by omega
        have a7:(c:Int)<=((d - i:Nat):Int):=by omega
        have t1:((i:Int)+c).toNat - i=c:=by omega
        have t2:(i:Int)<=(i:Int)+c:=by omega
        have t3:(i:Int)+c<=z:=by omega
        have t4:¬((i:Int)+c).toNat=i:=by omega
        clear O
        gi_wp2
        gi_big_quiet_th (fail)
        obtain⟨fn,tmps,bk,bm,Q,G⟩:=D.out nq
        simp only [Hd.v]at Q
        have R:=ad G
        clear G
        gi_wp2
        refine R.out.mono ?_
        rintro e I (⟨rfl,T,U⟩ | ⟨rfl,V⟩)
        · have K:dw Bs Bn W I:=L.trans U
          have c3:I.cell? ⟨Bn,0,none⟩=some (N c):=by rw [aL (K.2.trans hBn)];rfl
          gi_wp2
          go_roundw
          case rel=>exact⟨k+1,by omega,by rw [ac.out];simp,by rw [y.out];exact T,K⟩
          case measure=>simp [intOf];omega
        · gi_wp2
          refine b6Qd (results_none rfl _ _ _) rfl ?_
          exact⟨⟨_,rfl⟩,.inr ⟨_,⟨k+1,by omega,y.out.symm⟩,V⟩⟩
      · rw [pOQb (by omega)]at D y
        have a6:¬(c:Int)<=((d - i:Nat):Int):=by omega
        have a7:((d - i:Nat):Int)<(c:Int):=by omega
        have bA:IntKind.i64.wrap ((i:Int)+((d - i:Nat):Int))=(i:Int)+((d - i:Nat):Int):=ar _ (by omega)
        have t1:((i:Int)+((d - i:Nat):Int)).toNat - i=d - i:=by omega
        have t2:(i:Int)<=(i:Int)+((d - i:Nat):Int):=by omega
        have t3:(i:Int)+((d - i:Nat):Int)<=z:=by omega
        have t4:¬((i:Int)+((d - i:Nat):Int)).toNat=i:=by omega
        clear O
        gi_wp2
        gi_big_quiet_th (fail)
        obtain⟨fn,tmps,bk,bm,Q,G⟩:=D.out nq
        simp only [Hd.v]at Q
        have R:=ad G
        clear G
        gi_wp2
        refine R.out.mono ?_
        rintro e I (⟨rfl,T,U⟩ | ⟨rfl,V⟩)
        · have K:dw Bs Bn W I:=L.trans U
          have c3:I.cell? ⟨Bn,0,none⟩=some (N c):=by rw [aL (K.2.trans hBn)];rfl
          gi_wp2
          go_roundw
          case rel=>exact⟨k+1,by omega,by rw [ac.out];simp,by rw [y.out];exact T,K⟩
          case measure=>simp [intOf];omega
        · gi_wp2
          refine b6Qd (results_none rfl _ _ _) rfl ?_
          exact⟨⟨_,rfl⟩,.inr ⟨_,⟨k+1,by omega,y.out.symm⟩,V⟩⟩
    · obtain rfl:k=aC d c:=by omega
      have bB:¬((aC d c*c:Nat):Int)<d:=by
        have:=fun h=>(aa.out (aC d c)).2 h
        omega
      gi_wp2
      go_end0
      exact⟨⟨_,rfl⟩,.inl M⟩
theorem Ib(n:Nat)(l Bs Bn:Nat)(J:List Hd->World->Prop)(a:Option Addr)(d:Nat)(W:World)(h:W.cell? ⟨Bs,0,none⟩=some (.slice a 0 d))(m:J [] W) :
  CallsIn Fence.wide n Tryz.prog 113 #[.func (.yield l) #[] #[],.pointer (some ⟨Bs,0,none⟩),.pointer (some ⟨Bn,0,none⟩)] W fun e o=>(∃ v,e=.returned v)/\J [] o:=by
 refine callsIn_of_wp Tryz.func113 rfl trivial ?_ rfl;simp only [Tryz.ntmps113,ojQb,bg,fz,Nat.reduceAdd,Nat.reduceSub,qd,qb,pQ,pW,gI,lY];gi_wp2;gi_loopw [4] (fun i wr=>i=.int .i64 0/\J [] wr/\wr.cell? ⟨Bs,0,none⟩=some (.slice a 0 d)) (fun _ _=>0);case atStart=>exact⟨rfl,m,h⟩
 case round=>obtain⟨rfl,q,y⟩:=hrel;gi_wp2;go_end0;exact⟨⟨_,rfl⟩,q⟩
theorem Ia(a:Option Addr)(h d c:Nat)(o:1<=c)(w:World) :
  Calls Tryz.prog 71 #[.slice a h d,N c] w fun e w'=>e=.returned (.func (.func 113) #[] #[.pointer (some ⟨w.heap.size,0,none⟩),.pointer (some ⟨w.heap.size+1,0,none⟩)])/\w'=(w.alloc (.cells #[.slice a h d] 29)).alloc (.cells #[N c] 3):=by
 have q:¬(c:Int)<1:=by omega
 have y:∀ (m:Fn) (first d:Array Value) (w:World),(Instr.makeFunc m first d).run Tryz.prog w=.ok (.func m first d) w:=fun _ _ _ _=>rfl;go_enter Tryz.func71, Tryz.ntmps71;go_wp2_with fail;go_ret;exact⟨rfl,rfl⟩
theorem H8(Bs Bn:Nat)(v:Value)(d:List UInt8)(c:Nat)(R:1<=c)(T:c<=1000000)(U:d.length<=1000000000)(w:World)(D:w.heap[Bs]? = some (.cells #[v] 29 (0,0)))(V:w.heap[Bn]? = some (.cells #[N c] 3 (0,0)))(G:af w eB v d) :
  ∃ b h,(d=[]\/∃ m,v=.slice (some ⟨b,h,none⟩) d.length m)/\∀ n,1<=n->SeqStopsK Fence.wide n Tryz.prog 113 #[.pointer (some ⟨Bs,0,none⟩),.pointer (some ⟨Bn,0,none⟩)] (fun x:Hd=>#[x.v]) (dw Bs Bn) (fun X=>X=eO b h d.length c (aC d.length c)) (fun q=>∃ k,k<=aC d.length c/\q=eO b h d.length c k) (aC d.length c) w:=by
 obtain⟨a,m,rfl,y,I,h3⟩:=G.shape;by_cases K:d=[];· subst K;refine⟨0,0,.inl rfl,fun n L l J M W o _ _ O z=>?_⟩;have Y:aC ([]:List UInt8).length c=0:=(by unfold aC;exact lq (by simp;omega));refine(Ib n l Bs Bn J a m W ?_ z).mono fun e Q ⟨A,Z⟩=>⟨A,.inl ⟨_,by rw [Y];rfl,Z⟩⟩;rw [aL (Fr.heap o D)];rfl
 · obtain⟨b,h,av,A,_⟩:=G.cells K;cases A;refine⟨b,h,.inr ⟨m,rfl⟩,fun n L l J M W o hJ _ O z=>?_⟩;exact Ic n L l Bs Bn b h d.length m c R T y U J M (fun s W Q hs hg=>hJ s W Q none hs hg (fun r e=>by cases e)) (fun q x W y I _=>O q x W y I) W (Fr.heap o D) (Fr.heap o V) z
theorem H7 (n : Nat) (hn : 1 ≤ n) (l Bs Bn b m d z c : Nat) (hc : 1 ≤ c) (bu : c ≤ 1000000) (a1 : d ≤ z) (bv : d ≤ 1000000000) (J X : List Hd → World → Prop) (hJ : ∀ s W o, J s W → W.grownBy o none → J s o)
    (hY : ∀ q x W, J q W → q.length < aC d c → x = iJ b m d c q.length → YieldAt Fence.wide (n - 1) Tryz.prog l #[Hd.v x] W fun e o =>
      (e = .returned (.bool true) ∧ J (q ++ [x]) o ∧ dw Bs Bn W o) ∨ (e = .returned (.bool false) ∧ X (q ++ [x]) o))
    (W:World) (hBs:W.heap[Bs]? = some (.cells #[.slice (some ⟨b,m,none⟩) d z] 98 (0,0))) (hBn:W.heap[Bn]? = some (.cells #[N c] 3 (0,0))) (h0:J [] W) :
    CallsIn Fence.wide n Tryz.prog 221 #[.func (.yield l) #[] #[],.pointer (some ⟨Bs,0,none⟩),.pointer (some ⟨Bn,0,none⟩)] W fun e o=>(∃ v,e=.returned v) /\
      ((∃ Y,Y=eO b m d c (aC d c)/\J Y o)\/(∃ q,(∃ k,k<=aC d c/\q=eO b m d c k)/\X q o)):=by
  have Z:=nS d c hc
  refine callsIn_of_wp Tryz.func221 rfl trivial ?_ rfl
  simp only [Tryz.ntmps221,ojQb,bg,fz,Nat.reduceAdd,Nat.reduceSub,qd,qb,pQ,pW,gI,lY]
  have aa:=ad Z
  clear Z
  gi_wp2
  gi_loopw [4] (fun i wr => ∃ k : Nat, k ≤ aC d c ∧ i = .int .i64 ((k * c : Nat) : Int) ∧ J (eO b m d c k) wr ∧ dw Bs Bn W wr)
    (fun i _=>d+c - (intOf i).toNat)
  case atStart=>exact⟨0,ap _,by simp,h0,dw.refl _ _ _⟩
  case round=>
    obtain⟨k,hk,rfl,M,L⟩:=hrel
    have a3:=L.1.trans hBs
    have a4:=L.2.trans hBn
    have c1:=ae a3 0 rfl
    have c2:=ae a4 0 rfl
    by_cases ab:k<aC d c
    · have hi:=(aa.out k).1 ab
      have D:=ad (fun nq=>hY _ (iJ b m d c k) (wr.drewN nq) (hJ _ _ _ M ⟨rfl,rfl,rfl,ag _,fun _ _ _=>rfl⟩) (by rw [nR];exact ab) (by rw [nR]))
      have y:=ad (Ad b m d c k)
      have ac:Hid (((k+1)*c:Nat)=k*c+c):=by show _=_;rw [cr,fJ]
      have aj:iJ b m d c k=⟨some ⟨b,m+k*c,none⟩,min c (d - k*c),min c (d - k*c)⟩:=rfl
      rw [aj]at D y
      clear aj M
      generalize a5:k*c=i at *
      clear a5
      have e1:(0:Int)<=(i:Int):=by omega
      have e2:(i:Int)<d:=by omega
      have e3:(i:Int)<=d:=by omega
      have b4:IntKind.i64.wrap ((i:Int)+c)=(i:Int)+c:=ar _ (by omega)
      have av:=xO eS 98 Tryz.underlying98 b m d z i a1 (by omega)
      obtain⟨fa,fc,av⟩:=av
      by_cases O:c<=d - i
      · rw [gr O]at D y
        have a6:¬((d - i:Nat):Int)<(c:Int):=by omega
        have a7:(c:Int)<=((d - i:Nat):Int):=by omega
        have t1:((i:Int)+c).toNat - i=c:=by omega
        have t2:(i:Int)<=(i:Int)+c:=by omega
        have t3:(i:Int)+c<=z:=by omega
        have t4:¬((i:Int)+c).toNat=i:=by omega
        clear O
        gi_wp2
        gi_big_quiet_th (fail)
        obtain⟨fn,tmps,bk,bm,Q,G⟩:=D.out nq
        simp only [Hd.v]at Q
        have R:=ad G
        clear G
        gi_wp2
        refine R.out.mono ?_
        rintro e I (⟨rfl,T,U⟩ | ⟨rfl,V⟩)
        · have K:dw Bs Bn W I:=L.trans U
          have c3:I.cell? ⟨Bn,0,none⟩=some (N c):=by rw [aL (K.2.trans hBn)];rfl
          gi_wp2
          go_roundw
          case rel=>exact⟨k+1,by omega,by rw [ac.out];simp,by rw [y.out];exact T,K⟩
          case measure=>simp [intOf];omega
        · gi_wp2
          refine b6Qd (results_none rfl _ _ _) rfl ?_
          exact⟨⟨_,rfl⟩,.inr ⟨_,⟨k+1,by omega,y.out.symm⟩,V⟩⟩
      · rw [pOQb (by omega)]at D y
        have a6:¬(c:Int)<=((d - i:Nat):Int):=by omega
        have a7:((d - i:Nat):Int)<(c:Int):=by omega
        have bA:IntKind.i64.wrap ((i:Int)+((d - i:Nat):Int))=(i:Int)+((d - i:Nat):Int):=ar _ (by omega)
        have t1:((i:Int)+((d - i:Nat):Int)).toNat - i=d - i:=by omega
        have t2:(i:Int)<=(i:Int)+((d - i:Nat):Int):=by omega
        have t3:(i:Int)+((d - i:Nat):Int)<=z:=by omega
        have t4:¬((i:Int)+((d - i:Nat):Int)).toNat=i:=by omega
        clear O
        gi_wp2
        gi_big_quiet_th (fail)
        obtain⟨fn,tmps,bk,bm,Q,G⟩:=D.out nq
        simp only [Hd.v]at Q
        have R:=ad G
        clear G
        gi_wp2
        refine R.out.mono ?_
        rintro e I (⟨rfl,T,U⟩ | ⟨rfl,V⟩)
        · have K:dw Bs Bn W I:=L.trans U
          have c3:I.cell? ⟨Bn,0,none⟩=some (N c):=by rw [aL (K.2.trans hBn)];rfl
          gi_wp2
          go_roundw
          case rel=>exact⟨k+1,by omega,by rw [ac.out];simp,by rw [y.out];exact T,K⟩
          case measure=>simp [intOf];omega
        · gi_wp2
          refine b6Qd (results_none rfl _ _ _) rfl ?_
          exact⟨⟨_,rfl⟩,.inr ⟨_,⟨k+1,by omega,y.out.symm⟩,V⟩⟩
    · obtain rfl:k=aC d c:=by omega
      have bB:¬((aC d c*c:Nat):Int)<d:=by
        have:=fun h=>(aa.out (aC d c)).2 h
        omega
      gi_wp2
      go_end0
      exact⟨⟨_,rfl⟩,.inl M⟩
theorem H0(n:Nat)(l Bs Bn:Nat)(J:List Hd->World->Prop)(a:Option Addr)(d:Nat)(W:World)(h:W.cell? ⟨Bs,0,none⟩=some (.slice a 0 d))(m:J [] W) :
  CallsIn Fence.wide n Tryz.prog 221 #[.func (.yield l) #[] #[],.pointer (some ⟨Bs,0,none⟩),.pointer (some ⟨Bn,0,none⟩)] W fun e o=>(∃ v,e=.returned v)/\J [] o:=by
 refine callsIn_of_wp Tryz.func221 rfl trivial ?_ rfl;simp only [Tryz.ntmps221,ojQb,bg,fz,Nat.reduceAdd,Nat.reduceSub,qd,qb,pQ,pW,gI,lY];gi_wp2;gi_loopw [4] (fun i wr=>i=.int .i64 0/\J [] wr/\wr.cell? ⟨Bs,0,none⟩=some (.slice a 0 d)) (fun _ _=>0);case atStart=>exact⟨rfl,m,h⟩
 case round=>obtain⟨rfl,q,y⟩:=hrel;gi_wp2;go_end0;exact⟨⟨_,rfl⟩,q⟩
theorem Hz(a:Option Addr)(h d c:Nat)(o:1<=c)(w:World) :
  Calls Tryz.prog 153 #[.slice a h d,N c] w fun e w'=>e=.returned (.func (.func 221) #[] #[.pointer (some ⟨w.heap.size,0,none⟩),.pointer (some ⟨w.heap.size+1,0,none⟩)])/\w'=(w.alloc (.cells #[.slice a h d] 98)).alloc (.cells #[N c] 3):=by
 have q:¬(c:Int)<1:=by omega
 have y:∀ (m:Fn) (first d:Array Value) (w:World),(Instr.makeFunc m first d).run Tryz.prog w=.ok (.func m first d) w:=fun _ _ _ _=>rfl;go_enter Tryz.func153, Tryz.ntmps153;go_wp2_with fail;go_ret;exact⟨rfl,rfl⟩
attribute [local go_sem] Oper.semAt_some
section
variable {P:Program} {α:Type} {w:World} {base:Nat} {v:Value} {l:List α} {F:Fence} {nF:Nat}
theorem wy(E:al P α){d:Array Oper}{rest:List Oper}{o:Oper}{a:Act}{Q:Exit->Act->World->Prop}(e:o.guard=none)(s x:Operand)(t:TypeId)
  (ho:o.op=.call { callee:=.builtin .append,args:=#[s,x],argTypes:=#[t,t] }) (ht:P.underlying t=some (.slice E.e))
  (base:Nat) (hs:a.eval s=v) (hown:Ow w base E v l) (y:Value) (m:List α) (hx:a.eval x=y) (hsee:af w E y m) (hn:l.length+m.length<=2147483648) (hbase:base<=w.heap.size)
  (h:∀ v' w',cQ base E (l++m) w v v' w'->wpListIn F nF P d Q rest (a.put o.dst v') w'):wpListIn F nF P d Q (o::rest) a w:=by
 refine wpListIn_plain e fun K q=>?_;obtain⟨v',w',z,A⟩:=qF (P:=P) E w base t o.type ht hown hsee hn hbase;unfold Oper.wpIn;refine⟨?_,?_⟩;· simp [Oper.about,ho,resolve,Target.leads,Sem.run_pure]
 · rw [Oper.semAt_plain F _ _ (by rw [ho];intro c D;cases D)];simp [execOp,ho,resolve,invoke,builtin,hs,hx,z,Result.andThen];exact q _ _ (h v' w' A)
theorem BE(E:al P α){d:Array Oper}{rest:List Oper}{o:Oper}{a:Act}{Q:Exit->Act->World->Prop}(e:o.guard=none)(s x:Operand)(t:TypeId)
  (ho:o.op=.call { callee:=.builtin .append,args:=#[s,x],argTypes:=#[t,t] }) (ht:P.underlying t=some (.slice E.e))
  (base:Nat) (hs:a.eval s=v) (hown:Ow w base E v l) (c:List α) (cs:Array Value) (e':TypeId) (n:Nat) (hc:cs.toList=E.cells c) (hcn:n=c.length) (hx:a.eval x=.slice (some ⟨w.heap.size,0,none⟩) n n) (hn:l.length+c.length<=2147483648) (hbase:base<=w.heap.size)
  (h:∀ v' w',cQ base E (l++c) w v v' w'->wpListIn F nF P d Q rest (a.put o.dst v') w'):wpListIn F nF P d Q (o::rest) a (w.alloc (.cells cs e')):=by
 refine wy E e s x t ho ht base hs (hown.fr ((Fr.refl w).alloc _)) _ c hx (iY E w c cs e' n hcn hc (by unfold maxLen;omega)) hn (by simp;omega) fun v' w' m=>h v' w' (m.under ((Fr.refl w).alloc _))
end
def rT(w:World)(B:Nat)(d:List Hd)(W:World):Prop:=(∃ v,W.heap[B]? = some (.cells #[v] 72 (0,0))/\Ow W (B+1) aP v d)/\Below B w W
theorem oK{P:Program}{α:Type}{E:al P α}{w w':World}{base:Nat}{v:Value}{l:List α}{y:Option Nat}(h:Ow w base E v l)(A:w.grownBy w' y)(D:∀ r,y=some r->∃ o:Obj,w.heap[r]? = some o/\o.isCells=false):Ow w' base E v l:=by
 refine h.kept A ?_
 cases d:v.ownBlock with
 | none=>exact .inl rfl
 | some g=>
  refine .inr fun e=>?_;obtain⟨o,z,G⟩:=D g e.symm;rcases h.2 with⟨m,_⟩ | ⟨q,J,K,m,_,I,_⟩;· rw [m]at d;cases d
  · rw [m]at d;simp only [Value.ownBlock,iS]at d;subst d;rw [I]at z;cases z;cases G
theorem tJ{P:Program}{α:Type}{E:al P α}{w:World}{base:Nat}{v:Value}{l:List α}(h:Ow w base E v l){j:Nat}{o:Obj}(d:v.ownBlock=some j)(m:w.heap[j]? = some o):o.isCells=true:=by
 rcases h.2 with⟨e,_⟩ | ⟨q,z,A,e,_,y,_⟩;· rw [e]at d;cases d
 · rw [e]at d;simp only [Value.ownBlock,iS]at d;subst d;rw [y]at m;cases m;rfl
theorem rT.own(w:World)(B D:Nat)(A:B<D):OwnFrom D (rT w B):=by
 rintro s W G o ⟨⟨v,d,q⟩,y⟩ h m;have z:some B≠o:=fun e=>by have:=(m B e.symm).1;omega
 refine⟨⟨v,?_,oK q h (fun r e=>(m r e).2)⟩,?_⟩;· rw [h.block B (aR.1 d).1 z];exact d
 · exact y.grown h (by have:=(aR.1 d).1;omega) (fun k e=>by have:=(m k e).1;omega)
theorem IM(gf:Nat)(ab:gf=113)(q y:Value)(Bs Bn:Nat)(J:List Hd)(Q:Nat)(S:List Hd->Prop)(Sp:List Hd->Prop)(hS:∀ L,S L->L=J)(w:World)(ba:Bs<w.heap.size)(bb:Bn<w.heap.size)
  (hN:Q<=1000000000)
  (hseq:∀ n,1<=n->SeqStopsK Fence.wide n Tryz.prog gf #[q,y] (fun x:Hd=>#[x.v]) (dw Bs Bn) S Sp Q w) :
  Calls Tryz.prog 112 #[.slice none 0 0,.func (.func gf) #[] #[q,y]] w fun e w'=>∃ v,e=.returned v/\Ow w' w.heap.size aP v J/\Fr w w':=by
 subst ab;refine(jr (n:=9)).1 ?_;refine callsIn_of_wp_marks Tryz.func112 rfl trivial ?_ rfl;simp only [Tryz.ntmps112,ojQb,bg,fz,Nat.reduceAdd,Nat.reduceSub,qd,qb,pQ,pW,gI,lY];gi_wp2;have hW:(w.alloc (.cells #[.slice none 0 0] 72)).heap[w.heap.size]? = some (.cells #[.slice none 0 0] 72 (0,0)):=au _ _ _ rfl;have R:Below w.heap.size w (w.alloc (.cells #[.slice none 0 0] 72)):=(Below.refl _ w).alloc (ag _) _
 refine wpIn_rangeFunc_ownF rfl (by omega) (gf:=113) (lb:=#[q,y]) rfl trivial (enters_of Tryz.func113 (by kernel_rfl) rfl) (hseq _ (by omega)) (fun h k=>dw.trans h k) (dw.put (by simp;omega) (by simp;omega)) R (fun _=>rfl)
  (rT w w.heap.size) (fun _ _ _=>False) (rT.own w w.heap.size _ (by simp)) (fun _ _ _ _ _ J _ _=>J) ⟨⟨_,hW,Ow.nil⟩,R⟩ (fun x=>{ tmps:=#[.slice none 0 0,.func (.func 113) #[] #[q,y],.pointer (some ⟨w.heap.size,0,none⟩),undef,.slice none 0 0,x.v,.func (.func 113) #[] #[q,y],x.v,undef,undef,undef,undef,undef],defers:=[] }) ?assign ?body ?done ?stop
 case assign=>intro l x W K z;gi_wp2;exact z
 case body=>
  rintro l G x W ⟨⟨v,I,d⟩,M⟩ a0;have c0:=ae I 0 rfl;have a2:w.heap.size+1<=W.heap.size:=(aR.1 I).1;obtain⟨T,U,rfl⟩:=d.shape';gi_wp2_with (gi_at_builtin;refine BE aP rfl (.tmp 8) (.tmp 10) 72 rfl Tryz.underlying72 (w.heap.size+1) rfl d [x] _ _ _ rfl rfl rfl (by have V:=a0;have X:=hN;simp;omega) a2 ?_);intro v' w4 m;obtain⟨Y,Z,a3⟩:=m.own.shape';subst a3;have a4:some w.heap.size≠(Value.slice T G.length U).ownBlock:=fun e=>(by have:=(d.lt _ e.symm).1;omega);have O:w4.heap[w.heap.size]? = some (.cells #[.slice T G.length U] 72 (0,0)):=m.chg'.heap I (fun e=>a4 e.symm);have e3:=ae O 0 rfl;have e4:w4.frozen? ⟨w.heap.size,0,none⟩=false:=az O 0;gi_wp2;have a5:=aw w4 ⟨w.heap.size,0,none⟩ (.slice Y (G.length+1) Z);refine⟨?_,?_,⟨_,aB O 0 _,?_⟩,?_⟩;· exact(KeepsOthers.of_grownBy m.chg (fun j o e hj=>tJ d e hj)).trans (KeepsOthers.setCell _ _ _)
  · have V:=dw.of_chg (Bs:=Bs) (Bn:=Bn) m.chg' (by omega) (by omega) (fun e=>by have:=(d.lt _ e).1;omega) (fun e=>by have:=(d.lt _ e).1;omega);have X:=dw.of_chg (Bs:=Bs) (Bn:=Bn) a5 (by have:=m.size;omega) (by have:=m.size;omega) (by simp;omega) (by simp;omega);exact V.trans X
  · have:=et (i:=0) (u:=.slice Y (G.length+1) Z) m.own (show w.heap.size<w.heap.size+1 by omega);simpa using this
  · exact db (m.below d M (by omega) (by omega)) (ag _) (by have:=m.size;omega)
 case done=>
  rintro D L W hD a7 ⟨⟨v,I,d⟩,M⟩ z;obtain rfl:=hS _ a7;have c0:=ae I 0 rfl;gi_wp2;refine⟨by simp,.inl ⟨_,_,rfl,run_takeDeferred z,?_⟩⟩;refine⟨_,results_tmp rfl _ _ _,_,rfl,?_,?_⟩;· exact oK (d.rebase (Nat.le_succ _)) (grownBy_putObj' W D (.deferred none)) (fun r e=>by cases e;exact⟨_,z,rfl⟩)
  · exact M.trans (belowK_b (w:=w) (ag _) W D _ _ (by simp at hD;omega) z rfl rfl)
 case stop=>rintro D c G W hD _ h _;exact h.elim
theorem Ht(gf:Nat)(A:gf=113)(d h:Value)(Bs Bn:Nat)(m:List Hd)(o:Nat)(S:List Hd->Prop)(q:List Hd->Prop)(y:∀ z,S z->z=m)(w:World)(D:Bs<w.heap.size)(G:Bn<w.heap.size)
  (hN:o<=1000000000)
  (hseq:∀ n,1<=n->SeqStopsK Fence.wide n Tryz.prog gf #[d,h] (fun x:Hd=>#[x.v]) (dw Bs Bn) S q o w) :
  Calls Tryz.prog 70 #[.func (.func gf) #[] #[d,h]] w fun e w'=>∃ v,e=.returned v/\Ow w' w.heap.size aP v m/\Fr w w':=by
 subst A;have I:=ad (IM _ rfl d h Bs Bn m o S q y w D G hN hseq);clear hseq y;go_enter Tryz.func70, Tryz.ntmps70;go_wp2_with fail;refine I.out.mono ?_;rintro e L ⟨M,rfl,J,K⟩;go_wp2_with fail;go_ret;exact⟨_,rfl,J,K⟩
theorem xK{P:Program}{α:Type}{E:al P α}{w:World}{b d n I:Nat}{l:List α}(h:af w E (.slice (some ⟨b,d,none⟩) n I) l)(i m o:Nat)(J:i+m<=l.length)(U:m<=o)(K:o<=maxLen) :
  af w E (.slice (some ⟨b,d+i*E.k,none⟩) m o) ((l.drop i).take m):=by
 have q:((l.drop i).take m).length=m:=by simp;omega
 refine⟨E.length_cells _,_,o,by rw [q],by omega,K,by simp,?_⟩;rcases lU m with V | X;· exact .inl (by omega)
 · obtain⟨Y,Z,aa,L,_,_,M⟩:=h.cells (by intro e;simp [e]at J;omega);cases L;refine .inr ⟨b,_,rfl,fun j u y=>?_⟩;have z:=E.pos;have A:=(pS.1 y).1;rw [E.length_cells,q]at A;have hq:j / E.k<m:=(vJ z).2 A;have D:j % E.k<E.k:=jM _ z;have O:=Nat.div_add_mod j E.k;have G:=E.cells_at ((l.drop i).take m) (j / E.k) (by omega) (j % E.k) D;have Q:j / E.k*E.k+j % E.k=j:=(by rw [fK];exact O);rw [Q,y]at G;have R := M (i + j / E.k) (by omega) (j % E.k) D u (by
    rw [G];congr 2
    rw [rX, rY])
   have T:d+i*E.k+j=d+((i+j / E.k)*E.k+j % E.k):=(by rw [cr];omega);rw [T];exact R
def cK{α:Type}(l:List α)(c:Nat):List (List α):=(List.range (aC l.length c)).map fun j=>(l.drop (j*c)).take c
theorem Hw{α:Type}{E:al Tryz.prog α}(y:E.k=1){m:al Tryz.prog Hd}{w:World}{b d z:Nat}{l:List α}{v:Value}{c:Nat}(A:0<c)(h:af w E (.slice (some ⟨b,d,none⟩) l.length z) l)(D:af w m v (eO b d l.length c (aC l.length c))) :
  bY w m E v (eO b d l.length c (aC l.length c)) (cK l c):=by
 refine⟨D,by simp [cK,eO],fun i o L=>?_⟩;rw [nR]at o;have M:=(nS l.length c A i).1 o;have G:=h.shape;obtain⟨_,_,I,O,Q,_⟩:=G;cases I;have q:=xK h (i*c) (min c (l.length - i*c)) (min c (l.length - i*c)) (by omega) (ag _) (by omega);rw [y,gY]at q;have J:(eO b d l.length c (aC l.length c))[i]=iJ b d l.length c i:=by simp [eO]
 have K:(cK l c)[i]=(l.drop (i*c)).take (min c (l.length - i*c)):=by
  simp only [cK,jw,kh];rcases Nat.le_total c (l.length - i*c)with e | e;· rw [gr e]
  · rw [pOQb e,eo (by simp;omega),eo (by simp)]
 rw [J,K];exact q
theorem GH(N k:Nat)(h:k<N):(List.finRange N).take (k+1)=(List.finRange N).take k++[⟨k,h⟩]:=by
 rw [cL (by simpa using h)];congr 2;simp
theorem Hy(Bs Bn:Nat)(v:Value)(d:List (List UInt8))(c:Nat)(hc:1<=c)(ac:c<=1000000)(G:d.length<=1000000000)(w:World)(Q:w.heap[Bs]? = some (.cells #[v] 98 (0,0)))(aj:w.heap[Bn]? = some (.cells #[N c] 3 (0,0)))(R:af w eS v d) :
  ∃ b y,(d=[]\/∃ z,v=.slice (some ⟨b,y,none⟩) d.length z)/\∀ n,1<=n->SeqStopsK Fence.wide n Tryz.prog 221 #[.pointer (some ⟨Bs,0,none⟩),.pointer (some ⟨Bn,0,none⟩)] (fun j:Fin (aC d.length c)=>#[(iJ b y d.length c j.val).v]) (dw Bs Bn) (fun T=>T=List.finRange (aC d.length c)) (fun _=>True) (aC d.length c) w:=by
 obtain⟨a,z,rfl,h1,h2,h3⟩:=R.shape;by_cases U:d=[]
 · subst U;have e0:aC ([]:List (List UInt8)).length c=0:=(by unfold aC;exact lq (by simp;omega));refine⟨0,0,.inl rfl,fun n V l J X W A _ _ Y I=>?_⟩;have K:=H0 n l Bs Bn (fun(_:List Hd) W=>J [] W) a z W ?_ I;· refine K.mono fun e D ⟨m,o⟩=>⟨m,.inl ⟨[],?_,o⟩⟩;have:∀ (M:Nat),M=0->([]:List (Fin M))=List.finRange M:=fun M hM=>(by subst hM;rfl);exact this _ e0
   · rw [aL (Fr.heap A Q)];rfl
 · obtain⟨b,y,ba,m,_⟩:=R.cells U;cases m;refine⟨b,y,.inr ⟨z,rfl⟩,fun n V l J X W A K _ Y I=>?_⟩;generalize Z:aC d.length c=M at *
   have h:=H7 n V l Bs Bn b y d.length z c hc ac h1 G (fun q W=>q.length<=M/\J ((List.finRange M).take q.length) W) (fun q W=>X ((List.finRange M).take q.length) W)
    (fun s W D hs hg => ⟨hs.1, K _ W D none hs.2 hg (fun r e => by cases e)⟩) (fun q x W o L hx => by
     rw [Z] at L
     subst hx
     have G : ((List.finRange M).take q.length).length < M := by rw [aV]; simp; omega
     refine (Y _ ⟨q.length, L⟩ W o.2 G).mono fun e D h => ?_
     rw [an, mN, GH M _ L]
     rcases h with ⟨m, O, hk⟩ | ⟨m, O⟩
     · exact .inl ⟨m, ⟨by omega, O⟩, hk⟩
     · exact .inr ⟨m, O⟩) W (Fr.heap A Q) (Fr.heap A aj) ⟨ap _, by simpa using I⟩
   refine h.mono fun e D ⟨m,hh⟩=>⟨m,?_⟩;rcases hh with⟨T,rfl,_,o⟩ | ⟨q,_,o⟩;· refine .inl ⟨_,rfl,?_⟩;rw [nR,Z,eo (by simp)]at o;exact o
   · exact .inr ⟨_,trivial,o⟩
theorem ug{G:Nat->Prop}{W d:World}(h:ak G W d)(q:∀ k o,W.heap[k]? = some o->G k->o.isCells=true):KeepsOthers W d:=
 ⟨h.size,fun k o e m=>h.heap e fun g=>by rw [q k o e g]at m;cases m⟩
end Go.Proofs.YtdamnfpigajmoaaGreatDoor
