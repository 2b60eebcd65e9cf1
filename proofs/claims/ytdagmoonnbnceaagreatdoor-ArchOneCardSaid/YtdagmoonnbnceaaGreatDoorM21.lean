/- Parts of the proof of ArchOne: I1 I2 I3 I4. -/
import Derived.RangeFuncBox
import Derived.RangeFuncLeaves
import Derived.RangeFuncNested
import Derived.RangeFuncBound
import Derived.RangeFuncCalls
import Derived.Shelf.Abstract
import Derived.Shelf.RegionOpen
import Derived.OwnWalkIn
import Derived.TacticsInMore
import Derived.LoopNIn
import Derived.LoopIn
import Derived.Sort.BigQuietIn
import Derived.Test.YtdagmoonnbnceaaGreatDoorM10
import Derived.Test.YtdagmoonnbnceaaGreatDoorM04
set_option linter.unusedVariables false
set_option linter.unusedSectionVars false
set_option linter.unusedSimpArgs false
set_option maxHeartbeats 8000000
set_option maxRecDepth 100000
namespace Go.Proofs.YtdagmoonnbnceaaGreatDoor
open Go.RowKit Go.Fk
attribute [local go_sem] Oper.semAt_some
def ckHd(b off len c j:Nat):Hd:=⟨some ⟨b,off+j*c,none⟩,min c (len - j*c),min c (len - j*c)⟩
def ckN(len c:Nat):Nat:=(len+c - 1) / c
theorem ckN_lt(len c:Nat)(h:0<c)(j:Nat):j<ckN len c↔j*c<len:=by
 unfold ckN
 rw [Nat.lt_iff_add_one_le,Nat.le_div_iff_mul_le h,Nat.add_mul,Nat.one_mul]
 omega
def ckUp(b off len c k:Nat):List Hd:=(List.range k).map (ckHd b off len c)
theorem ckUp_succ(b off len c k:Nat):ckUp b off len c (k+1)=ckUp b off len c k++[ckHd b off len c k]:=by simp [ckUp,List.range_succ]
theorem ckUp_len(b off len c k:Nat):(ckUp b off len c k).length=k:=by simp [ckUp]
def KeepB(Bs Bn:Nat)(W W':World):Prop:=W'.heap[Bs]? = W.heap[Bs]? /\ W'.heap[Bn]? = W.heap[Bn]?
theorem KeepB.refl(Bs Bn:Nat)(W:World):KeepB Bs Bn W W:=⟨rfl,rfl⟩
theorem KeepB.trans{Bs Bn:Nat}{A B C:World}(h:KeepB Bs Bn A B)(k:KeepB Bs Bn B C):KeepB Bs Bn A C:=⟨k.1.trans h.1,k.2.trans h.2⟩
theorem KeepB.put{Bs Bn B:Nat}(h1:Bs<B)(h2:Bn<B)(W:World)(l:Nat)(o o':Obj)(hl:B<=l)(_:W.heap[l]? = some o)(_:o.isCells=false)(_:o.isWalk=false):KeepB Bs Bn W (W.putObj l o'):=
 ⟨(grownBy_putObj' W l o').block Bs (by have:=(Array.getElem?_eq_some_iff.1 ‹W.heap[l]? = some o›).1;omega) (fun e=>by cases e;omega),(grownBy_putObj' W l o').block Bn (by have:=(Array.getElem?_eq_some_iff.1 ‹W.heap[l]? = some o›).1;omega) (fun e=>by cases e;omega)⟩
theorem KeepB.of_chg{Bs Bn:Nat}{G:Nat->Prop}{W W':World}(h:Chg G W W')(h1:Bs<W.heap.size)(h2:Bn<W.heap.size)(g1:¬G Bs)(g2:¬G Bn):KeepB Bs Bn W W':=⟨h.block Bs h1 g1,h.block Bn h2 g2⟩
theorem run_from_len{P:Program}{α:Type}(E:Elt P α)(t:TypeId)(ht:P.underlying t=some (.slice E.e))(b off n cap i:Nat)(hc:n<=cap)(hi:i<=n) :
  ∃ a' cap',∀ W,(Instr.slice t (.slice (some ⟨b,off,none⟩) n cap) (some (.int .i64 (i:Int))) none none).run P W=.ok (.slice a' (n - i) cap') W:=by
 have ht':P.underlying t=some (.slice (P.elem t)):=by simp [Program.elem,ht]
 have he:P.elem t=E.e:=by simp [Program.elem,ht]
 refine⟨if cap=i then some ⟨b,off,none⟩else some ((⟨b,off,none⟩:Addr).add (i*E.k)),cap - i,fun W=>?_⟩
 rw [run_slice_l W t _ _ _ ht' .i64 _ (by omega) (by omega),he,sizeOf_elt]
 simp [Result.andThen,sliced]
theorem chunkB1_in (n : Nat) (hn : 1 ≤ n) (l Bs Bn b off len cap c : Nat) (hc : 1 ≤ c) (hcm : c ≤ 1000000) (hlc : len ≤ cap) (hlen : len ≤ 1000000000) (J Jx : List Hd → World → Prop) (hJ : ∀ s W W', J s W → W.grownBy W' none → J s W')
    (hY : ∀ pre x W, J pre W → pre.length < ckN len c → x = ckHd b off len c pre.length → YieldAt Fence.wide (n - 1) Tryz.prog l #[Hd.v x] W fun e W' =>
      (e = .returned (.bool true) ∧ J (pre ++ [x]) W' ∧ KeepB Bs Bn W W') ∨ (e = .returned (.bool false) ∧ Jx (pre ++ [x]) W'))
    (W:World) (hBs:W.heap[Bs]? = some (.cells #[.slice (some ⟨b,off,none⟩) len cap] 27 (0,0))) (hBn:W.heap[Bn]? = some (.cells #[N c] 3 (0,0))) (h0:J [] W) :
    CallsIn Fence.wide n Tryz.prog 90 #[.func (.yield l) #[] #[],.pointer (some ⟨Bs,0,none⟩),.pointer (some ⟨Bn,0,none⟩)] W fun e W'=>(∃ v,e=.returned v) /\
      ((∃ ys,ys=ckUp b off len c (ckN len c)/\J ys W')\/(∃ pre,(∃ k,k<=ckN len c/\pre=ckUp b off len c k)/\Jx pre W')):=by
  have hlt0:=ckN_lt len c hc
  refine callsIn_of_wp Tryz.func90 rfl trivial ?_ rfl
  simp only [Tryz.ntmps90,List.size_toArray,List.length_cons,List.length_nil,Nat.reduceAdd,Nat.reduceSub,Array.replicate_succ,Array.replicate_zero,List.push_toArray,List.append_toArray,List.nil_append,List.cons_append]
  have HLT:=hid hlt0
  clear hlt0
  gi_wp2
  gi_loopw [4] (fun i wr => ∃ k : Nat, k ≤ ckN len c ∧ i = .int .i64 ((k * c : Nat) : Int) ∧ J (ckUp b off len c k) wr ∧ KeepB Bs Bn W wr)
    (fun i _=>len+c - (intOf i).toNat)
  case atStart=>exact⟨0,Nat.zero_le _,by simp,h0,KeepB.refl _ _ _⟩
  case round=>
    obtain⟨k,hk,rfl,hJs,hnx⟩:=hrel
    have hH1:=hnx.1.trans hBs
    have hH2:=hnx.2.trans hBn
    have c1:=cellx hH1 0 rfl
    have c2:=cellx hH2 0 rfl
    by_cases hlt:k<ckN len c
    · have hi:=(HLT.out k).1 hlt
      have HY:=hid (fun nq=>hY _ (ckHd b off len c k) (wr.drewN nq) (hJ _ _ _ hJs ⟨rfl,rfl,rfl,Nat.le_refl _,fun _ _ _=>rfl⟩) (by rw [ckUp_len];exact hlt) (by rw [ckUp_len]))
      have HUp:=hid (ckUp_succ b off len c k)
      have HNx:Hid (((k+1)*c:Nat)=k*c+c):=by show _=_;rw [Nat.add_mul,Nat.one_mul]
      have hsz:ckHd b off len c k=⟨some ⟨b,off+k*c,none⟩,min c (len - k*c),min c (len - k*c)⟩:=rfl
      rw [hsz]at HY HUp
      clear hsz hJs
      generalize hie:k*c=i at *
      clear hie
      have e1:(0:Int)<=(i:Int):=by omega
      have e2:(i:Int)<len:=by omega
      have e3:(i:Int)<=len:=by omega
      have hw2:IntKind.i64.wrap ((i:Int)+c)=(i:Int)+c:=IntWalk.i64_in _ (by omega)
      have hrs:=run_from_len eB 27 Tryz.underlying27 b off len cap i hlc (by omega)
      obtain⟨fa,fc,hrs⟩:=hrs
      by_cases hmc:c<=len - i
      · rw [Nat.min_eq_left hmc]at HY HUp
        have hmin:¬((len - i:Nat):Int)<(c:Int):=by omega
        have hmin2:(c:Int)<=((len - i:Nat):Int):=by omega
        have t1:((i:Int)+c).toNat - i=c:=by omega
        have t2:(i:Int)<=(i:Int)+c:=by omega
        have t3:(i:Int)+c<=cap:=by omega
        have t4:¬((i:Int)+c).toNat=i:=by omega
        clear hmc
        gi_wp2
        gi_big_quiet_th (fail)
        obtain⟨fn,tmps,assign,body,hy,hR⟩:=HY.out nq
        simp only [Hd.v]at hy
        have HR:=hid hR
        clear hR
        gi_wp2
        refine HR.out.mono ?_
        rintro e W3 (⟨rfl,hJ3,hk3⟩ | ⟨rfl,hJx3⟩)
        · have hkk:KeepB Bs Bn W W3:=hnx.trans hk3
          have c3:W3.cell? ⟨Bn,0,none⟩=some (N c):=by rw [cell_of_heap (hkk.2.trans hBn)];rfl
          gi_wp2
          go_roundw
          case rel=>exact⟨k+1,by omega,by rw [HNx.out];simp,by rw [HUp.out];exact hJ3,hkk⟩
          case measure=>simp [intOf];omega
        · gi_wp2
          refine bodyPost_ret (results_none rfl _ _ _) rfl ?_
          exact⟨⟨_,rfl⟩,.inr ⟨_,⟨k+1,by omega,HUp.out.symm⟩,hJx3⟩⟩
      · rw [Nat.min_eq_right (by omega)]at HY HUp
        have hmin:¬(c:Int)<=((len - i:Nat):Int):=by omega
        have hmin2:((len - i:Nat):Int)<(c:Int):=by omega
        have hw1:IntKind.i64.wrap ((i:Int)+((len - i:Nat):Int))=(i:Int)+((len - i:Nat):Int):=IntWalk.i64_in _ (by omega)
        have t1:((i:Int)+((len - i:Nat):Int)).toNat - i=len - i:=by omega
        have t2:(i:Int)<=(i:Int)+((len - i:Nat):Int):=by omega
        have t3:(i:Int)+((len - i:Nat):Int)<=cap:=by omega
        have t4:¬((i:Int)+((len - i:Nat):Int)).toNat=i:=by omega
        clear hmc
        gi_wp2
        gi_big_quiet_th (fail)
        obtain⟨fn,tmps,assign,body,hy,hR⟩:=HY.out nq
        simp only [Hd.v]at hy
        have HR:=hid hR
        clear hR
        gi_wp2
        refine HR.out.mono ?_
        rintro e W3 (⟨rfl,hJ3,hk3⟩ | ⟨rfl,hJx3⟩)
        · have hkk:KeepB Bs Bn W W3:=hnx.trans hk3
          have c3:W3.cell? ⟨Bn,0,none⟩=some (N c):=by rw [cell_of_heap (hkk.2.trans hBn)];rfl
          gi_wp2
          go_roundw
          case rel=>exact⟨k+1,by omega,by rw [HNx.out];simp,by rw [HUp.out];exact hJ3,hkk⟩
          case measure=>simp [intOf];omega
        · gi_wp2
          refine bodyPost_ret (results_none rfl _ _ _) rfl ?_
          exact⟨⟨_,rfl⟩,.inr ⟨_,⟨k+1,by omega,HUp.out.symm⟩,hJx3⟩⟩
    · obtain rfl:k=ckN len c:=by omega
      have hnl:¬((ckN len c*c:Nat):Int)<len:=by
        have:=fun h=>(HLT.out (ckN len c)).2 h
        omega
      gi_wp2
      go_end0
      exact⟨⟨_,rfl⟩,.inl hJs⟩
theorem chunkB1_nil_in(n:Nat)(l Bs Bn:Nat)(J:List Hd->World->Prop)(a:Option Addr)(cap:Nat)(W:World)(hBs:W.cell? ⟨Bs,0,none⟩=some (.slice a 0 cap))(h0:J [] W) :
  CallsIn Fence.wide n Tryz.prog 90 #[.func (.yield l) #[] #[],.pointer (some ⟨Bs,0,none⟩),.pointer (some ⟨Bn,0,none⟩)] W fun e W'=>(∃ v,e=.returned v)/\J [] W':=by
 refine callsIn_of_wp Tryz.func90 rfl trivial ?_ rfl
 simp only [Tryz.ntmps90,List.size_toArray,List.length_cons,List.length_nil,Nat.reduceAdd,Nat.reduceSub,Array.replicate_succ,Array.replicate_zero,List.push_toArray,List.append_toArray,List.nil_append,List.cons_append]
 gi_wp2
 gi_loopw [4] (fun i wr=>i=.int .i64 0/\J [] wr/\wr.cell? ⟨Bs,0,none⟩=some (.slice a 0 cap)) (fun _ _=>0)
 case atStart=>exact⟨rfl,h0,hBs⟩
 case round=>
  obtain⟨rfl,hJs,hB⟩:=hrel
  gi_wp2
  go_end0
  exact⟨⟨_,rfl⟩,hJs⟩
theorem chunkB_any(a:Option Addr)(len cap c:Nat)(hc:1<=c)(w:World) :
  Calls Tryz.prog 61 #[.slice a len cap,N c] w fun e w'=>e=.returned (.func (.func 90) #[] #[.pointer (some ⟨w.heap.size,0,none⟩),.pointer (some ⟨w.heap.size+1,0,none⟩)])/\w'=(w.alloc (.cells #[.slice a len cap] 27)).alloc (.cells #[N c] 3):=by
 have h1:¬(c:Int)<1:=by omega
 have hmf:∀ (fn:Fn) (first cap:Array Value) (w:World),(Instr.makeFunc fn first cap).run Tryz.prog w=.ok (.func fn first cap) w:=fun _ _ _ _=>rfl
 go_enter Tryz.func61, Tryz.ntmps61
 go_wp2_with fail
 go_ret
 exact⟨rfl,rfl⟩
theorem chunkB_stops(Bs Bn:Nat)(v:Value)(ls:List UInt8)(c:Nat)(hc:1<=c)(hcm:c<=1000000)(hlen:ls.length<=1000000000)(w:World)(hBs:w.heap[Bs]? = some (.cells #[v] 27 (0,0)))(hBn:w.heap[Bn]? = some (.cells #[N c] 3 (0,0)))(hv:See w eB v ls) :
  ∃ b off,(ls=[]\/∃ cap,v=.slice (some ⟨b,off,none⟩) ls.length cap)/\∀ n,1<=n->SeqStopsK Fence.wide n Tryz.prog 90 #[.pointer (some ⟨Bs,0,none⟩),.pointer (some ⟨Bn,0,none⟩)] (fun x:Hd=>#[x.v]) (KeepB Bs Bn) (fun ys=>ys=ckUp b off ls.length c (ckN ls.length c)) (fun pre=>∃ k,k<=ckN ls.length c/\pre=ckUp b off ls.length c k) (ckN ls.length c) w:=by
 obtain⟨a,cap,rfl,h1,h2,h3⟩:=hv.shape
 by_cases hl:ls=[]
 · subst hl
   refine⟨0,0,.inl rfl,fun n hn l J Jx W hW _ _ hY h0=>?_⟩
   have e0:ckN ([]:List UInt8).length c=0:=by unfold ckN;exact Nat.div_eq_of_lt (by simp;omega)
   refine(chunkB1_nil_in n l Bs Bn J a cap W ?_ h0).mono fun e W' ⟨he,hj⟩=>⟨he,.inl ⟨_,by rw [e0];rfl,hj⟩⟩
   rw [cell_of_heap (Fr.heap hW hBs)];rfl
 · obtain⟨b,off,cap',he,_⟩:=hv.cells hl
   cases he
   refine⟨b,off,.inr ⟨cap,rfl⟩,fun n hn l J Jx W hW hJ _ hY h0=>?_⟩
   exact chunkB1_in n hn l Bs Bn b off ls.length cap c hc hcm h1 hlen J Jx (fun s W W' hs hg=>hJ s W W' none hs hg (fun r e=>by cases e)) (fun pre x W h1 h2 _=>hY pre x W h1 h2) W (Fr.heap hW hBs) (Fr.heap hW hBn) h0
theorem chunkS1_in (n : Nat) (hn : 1 ≤ n) (l Bs Bn b off len cap c : Nat) (hc : 1 ≤ c) (hcm : c ≤ 1000000) (hlc : len ≤ cap) (hlen : len ≤ 1000000000) (J Jx : List Hd → World → Prop) (hJ : ∀ s W W', J s W → W.grownBy W' none → J s W')
    (hY : ∀ pre x W, J pre W → pre.length < ckN len c → x = ckHd b off len c pre.length → YieldAt Fence.wide (n - 1) Tryz.prog l #[Hd.v x] W fun e W' =>
      (e = .returned (.bool true) ∧ J (pre ++ [x]) W' ∧ KeepB Bs Bn W W') ∨ (e = .returned (.bool false) ∧ Jx (pre ++ [x]) W'))
    (W:World) (hBs:W.heap[Bs]? = some (.cells #[.slice (some ⟨b,off,none⟩) len cap] 92 (0,0))) (hBn:W.heap[Bn]? = some (.cells #[N c] 3 (0,0))) (h0:J [] W) :
    CallsIn Fence.wide n Tryz.prog 164 #[.func (.yield l) #[] #[],.pointer (some ⟨Bs,0,none⟩),.pointer (some ⟨Bn,0,none⟩)] W fun e W'=>(∃ v,e=.returned v) /\
      ((∃ ys,ys=ckUp b off len c (ckN len c)/\J ys W')\/(∃ pre,(∃ k,k<=ckN len c/\pre=ckUp b off len c k)/\Jx pre W')):=by
  have hlt0:=ckN_lt len c hc
  refine callsIn_of_wp Tryz.func164 rfl trivial ?_ rfl
  simp only [Tryz.ntmps164,List.size_toArray,List.length_cons,List.length_nil,Nat.reduceAdd,Nat.reduceSub,Array.replicate_succ,Array.replicate_zero,List.push_toArray,List.append_toArray,List.nil_append,List.cons_append]
  have HLT:=hid hlt0
  clear hlt0
  gi_wp2
  gi_loopw [4] (fun i wr => ∃ k : Nat, k ≤ ckN len c ∧ i = .int .i64 ((k * c : Nat) : Int) ∧ J (ckUp b off len c k) wr ∧ KeepB Bs Bn W wr)
    (fun i _=>len+c - (intOf i).toNat)
  case atStart=>exact⟨0,Nat.zero_le _,by simp,h0,KeepB.refl _ _ _⟩
  case round=>
    obtain⟨k,hk,rfl,hJs,hnx⟩:=hrel
    have hH1:=hnx.1.trans hBs
    have hH2:=hnx.2.trans hBn
    have c1:=cellx hH1 0 rfl
    have c2:=cellx hH2 0 rfl
    by_cases hlt:k<ckN len c
    · have hi:=(HLT.out k).1 hlt
      have HY:=hid (fun nq=>hY _ (ckHd b off len c k) (wr.drewN nq) (hJ _ _ _ hJs ⟨rfl,rfl,rfl,Nat.le_refl _,fun _ _ _=>rfl⟩) (by rw [ckUp_len];exact hlt) (by rw [ckUp_len]))
      have HUp:=hid (ckUp_succ b off len c k)
      have HNx:Hid (((k+1)*c:Nat)=k*c+c):=by show _=_;rw [Nat.add_mul,Nat.one_mul]
      have hsz:ckHd b off len c k=⟨some ⟨b,off+k*c,none⟩,min c (len - k*c),min c (len - k*c)⟩:=rfl
      rw [hsz]at HY HUp
      clear hsz hJs
      generalize hie:k*c=i at *
      clear hie
      have e1:(0:Int)<=(i:Int):=by omega
      have e2:(i:Int)<len:=by omega
      have e3:(i:Int)<=len:=by omega
      have hw2:IntKind.i64.wrap ((i:Int)+c)=(i:Int)+c:=IntWalk.i64_in _ (by omega)
      have hrs:=run_from_len eS 92 Tryz.underlying92 b off len cap i hlc (by omega)
      obtain⟨fa,fc,hrs⟩:=hrs
      by_cases hmc:c<=len - i
      · rw [Nat.min_eq_left hmc]at HY HUp
        have hmin:¬((len - i:Nat):Int)<(c:Int):=by omega
        have hmin2:(c:Int)<=((len - i:Nat):Int):=by omega
        have t1:((i:Int)+c).toNat - i=c:=by omega
        have t2:(i:Int)<=(i:Int)+c:=by omega
        have t3:(i:Int)+c<=cap:=by omega
        have t4:¬((i:Int)+c).toNat=i:=by omega
        clear hmc
        gi_wp2
        gi_big_quiet_th (fail)
        obtain⟨fn,tmps,assign,body,hy,hR⟩:=HY.out nq
        simp only [Hd.v]at hy
        have HR:=hid hR
        clear hR
        gi_wp2
        refine HR.out.mono ?_
        rintro e W3 (⟨rfl,hJ3,hk3⟩ | ⟨rfl,hJx3⟩)
        · have hkk:KeepB Bs Bn W W3:=hnx.trans hk3
          have c3:W3.cell? ⟨Bn,0,none⟩=some (N c):=by rw [cell_of_heap (hkk.2.trans hBn)];rfl
          gi_wp2
          go_roundw
          case rel=>exact⟨k+1,by omega,by rw [HNx.out];simp,by rw [HUp.out];exact hJ3,hkk⟩
          case measure=>simp [intOf];omega
        · gi_wp2
          refine bodyPost_ret (results_none rfl _ _ _) rfl ?_
          exact⟨⟨_,rfl⟩,.inr ⟨_,⟨k+1,by omega,HUp.out.symm⟩,hJx3⟩⟩
      · rw [Nat.min_eq_right (by omega)]at HY HUp
        have hmin:¬(c:Int)<=((len - i:Nat):Int):=by omega
        have hmin2:((len - i:Nat):Int)<(c:Int):=by omega
        have hw1:IntKind.i64.wrap ((i:Int)+((len - i:Nat):Int))=(i:Int)+((len - i:Nat):Int):=IntWalk.i64_in _ (by omega)
        have t1:((i:Int)+((len - i:Nat):Int)).toNat - i=len - i:=by omega
        have t2:(i:Int)<=(i:Int)+((len - i:Nat):Int):=by omega
        have t3:(i:Int)+((len - i:Nat):Int)<=cap:=by omega
        have t4:¬((i:Int)+((len - i:Nat):Int)).toNat=i:=by omega
        clear hmc
        gi_wp2
        gi_big_quiet_th (fail)
        obtain⟨fn,tmps,assign,body,hy,hR⟩:=HY.out nq
        simp only [Hd.v]at hy
        have HR:=hid hR
        clear hR
        gi_wp2
        refine HR.out.mono ?_
        rintro e W3 (⟨rfl,hJ3,hk3⟩ | ⟨rfl,hJx3⟩)
        · have hkk:KeepB Bs Bn W W3:=hnx.trans hk3
          have c3:W3.cell? ⟨Bn,0,none⟩=some (N c):=by rw [cell_of_heap (hkk.2.trans hBn)];rfl
          gi_wp2
          go_roundw
          case rel=>exact⟨k+1,by omega,by rw [HNx.out];simp,by rw [HUp.out];exact hJ3,hkk⟩
          case measure=>simp [intOf];omega
        · gi_wp2
          refine bodyPost_ret (results_none rfl _ _ _) rfl ?_
          exact⟨⟨_,rfl⟩,.inr ⟨_,⟨k+1,by omega,HUp.out.symm⟩,hJx3⟩⟩
    · obtain rfl:k=ckN len c:=by omega
      have hnl:¬((ckN len c*c:Nat):Int)<len:=by
        have:=fun h=>(HLT.out (ckN len c)).2 h
        omega
      gi_wp2
      go_end0
      exact⟨⟨_,rfl⟩,.inl hJs⟩
theorem chunkS1_nil_in(n:Nat)(l Bs Bn:Nat)(J:List Hd->World->Prop)(a:Option Addr)(cap:Nat)(W:World)(hBs:W.cell? ⟨Bs,0,none⟩=some (.slice a 0 cap))(h0:J [] W) :
  CallsIn Fence.wide n Tryz.prog 164 #[.func (.yield l) #[] #[],.pointer (some ⟨Bs,0,none⟩),.pointer (some ⟨Bn,0,none⟩)] W fun e W'=>(∃ v,e=.returned v)/\J [] W':=by
 refine callsIn_of_wp Tryz.func164 rfl trivial ?_ rfl
 simp only [Tryz.ntmps164,List.size_toArray,List.length_cons,List.length_nil,Nat.reduceAdd,Nat.reduceSub,Array.replicate_succ,Array.replicate_zero,List.push_toArray,List.append_toArray,List.nil_append,List.cons_append]
 gi_wp2
 gi_loopw [4] (fun i wr=>i=.int .i64 0/\J [] wr/\wr.cell? ⟨Bs,0,none⟩=some (.slice a 0 cap)) (fun _ _=>0)
 case atStart=>exact⟨rfl,h0,hBs⟩
 case round=>
  obtain⟨rfl,hJs,hB⟩:=hrel
  gi_wp2
  go_end0
  exact⟨⟨_,rfl⟩,hJs⟩
theorem chunkS_any(a:Option Addr)(len cap c:Nat)(hc:1<=c)(w:World) :
  Calls Tryz.prog 116 #[.slice a len cap,N c] w fun e w'=>e=.returned (.func (.func 164) #[] #[.pointer (some ⟨w.heap.size,0,none⟩),.pointer (some ⟨w.heap.size+1,0,none⟩)])/\w'=(w.alloc (.cells #[.slice a len cap] 92)).alloc (.cells #[N c] 3):=by
 have h1:¬(c:Int)<1:=by omega
 have hmf:∀ (fn:Fn) (first cap:Array Value) (w:World),(Instr.makeFunc fn first cap).run Tryz.prog w=.ok (.func fn first cap) w:=fun _ _ _ _=>rfl
 go_enter Tryz.func116, Tryz.ntmps116
 go_wp2_with fail
 go_ret
 exact⟨rfl,rfl⟩
attribute [local go_sem] Oper.semAt_some
section
variable {P:Program} {α:Type} {w:World} {base:Nat} {v:Value} {l:List α} {F:Fence} {nF:Nat}
theorem wpListIn_app(E:Elt P α){ops:Array Oper}{rest:List Oper}{o:Oper}{a:Act}{Q:Exit->Act->World->Prop}(hgd:o.guard=none)(s x:Operand)(t:TypeId)
  (ho:o.op=.call { callee:=.builtin .append,args:=#[s,x],argTypes:=#[t,t] }) (ht:P.underlying t=some (.slice E.e))
  (base:Nat) (hs:a.eval s=v) (hown:Ow w base E v l) (y:Value) (m:List α) (hx:a.eval x=y) (hsee:See w E y m) (hn:l.length+m.length<=2147483648) (hbase:base<=w.heap.size)
  (h:∀ v' w',App base E (l++m) w v v' w'->wpListIn F nF P ops Q rest (a.put o.dst v') w'):wpListIn F nF P ops Q (o::rest) a w:=by
 refine wpListIn_plain hgd fun K hK=>?_
 obtain⟨v',w',hr,h2⟩:=run_app (P:=P) E w base t o.type ht hown hsee hn hbase
 unfold Oper.wpIn
 refine⟨?_,?_⟩
 · simp [Oper.about,ho,resolve,Target.leads,Sem.run_pure]
 · rw [Oper.semAt_plain F _ _ (by rw [ho];intro c hc';cases hc')]
   simp [execOp,ho,resolve,invoke,builtin,hs,hx,hr,Result.andThen]
   exact hK _ _ (h v' w' h2)
theorem wpListIn_app1(E:Elt P α){ops:Array Oper}{rest:List Oper}{o:Oper}{a:Act}{Q:Exit->Act->World->Prop}(hgd:o.guard=none)(s x:Operand)(t:TypeId)
  (ho:o.op=.call { callee:=.builtin .append,args:=#[s,x],argTypes:=#[t,t] }) (ht:P.underlying t=some (.slice E.e))
  (base:Nat) (hs:a.eval s=v) (hown:Ow w base E v l) (c:List α) (cs:Array Value) (e':TypeId) (n:Nat) (hc:cs.toList=E.cells c) (hcn:n=c.length) (hx:a.eval x=.slice (some ⟨w.heap.size,0,none⟩) n n) (hn:l.length+c.length<=2147483648) (hbase:base<=w.heap.size)
  (h:∀ v' w',App base E (l++c) w v v' w'->wpListIn F nF P ops Q rest (a.put o.dst v') w'):wpListIn F nF P ops Q (o::rest) a (w.alloc (.cells cs e')):=by
 refine wpListIn_app E hgd s x t ho ht base hs (hown.fr ((Fr.refl w).alloc _)) _ c hx (see_new E w c cs e' n hcn hc (by unfold maxLen;omega)) hn (by simp;omega) fun v' w' ha=>h v' w' (ha.under ((Fr.refl w).alloc _))
end
def CollI(w:World)(B:Nat)(pre:List Hd)(W:World):Prop:=(∃ v,W.heap[B]? = some (.cells #[v] 80 (0,0))/\Ow W (B+1) eHB v pre)/\Below B w W
theorem ow_keptG{P:Program}{α:Type}{E:Elt P α}{w w':World}{base:Nat}{v:Value}{l:List α}{row:Option Nat}(h:Ow w base E v l)(hg:w.grownBy w' row)(hr:∀ r,row=some r->∃ o:Obj,w.heap[r]? = some o/\o.isCells=false):Ow w' base E v l:=by
 refine h.kept hg ?_
 cases hv:v.ownBlock with
 | none=>exact .inl rfl
 | some g=>
  refine .inr fun e=>?_
  obtain⟨o,ho,hc⟩:=hr g e.symm
  rcases h.2 with⟨h1,_⟩ | ⟨q,cap,cur,h1,_,h2,_⟩
  · rw [h1]at hv;cases hv
  · rw [h1]at hv
    simp only [Value.ownBlock,Option.some.injEq]at hv
    subst hv
    rw [h2]at ho
    cases ho
    cases hc
theorem ow_cells{P:Program}{α:Type}{E:Elt P α}{w:World}{base:Nat}{v:Value}{l:List α}(h:Ow w base E v l){j:Nat}{o:Obj}(hv:v.ownBlock=some j)(hj:w.heap[j]? = some o):o.isCells=true:=by
 rcases h.2 with⟨h1,_⟩ | ⟨q,cap,cur,h1,_,h2,_⟩
 · rw [h1]at hv;cases hv
 · rw [h1]at hv
   simp only [Value.ownBlock,Option.some.injEq]at hv
   subst hv
   rw [h2]at hj
   cases hj
   rfl
theorem CollI.own(w:World)(B D:Nat)(hBD:B<D):OwnFrom D (CollI w B):=by
 rintro s W W' row ⟨⟨v,hh,ho⟩,hb⟩ hg hr
 have hne:some B≠row:=fun e=>by
  have:=(hr B e.symm).1;omega
 refine⟨⟨v,?_,ow_keptG ho hg (fun r e=>(hr r e).2)⟩,?_⟩
 · rw [hg.block B (Array.getElem?_eq_some_iff.1 hh).1 hne];exact hh
 · exact hb.grown hg (by have:=(Array.getElem?_eq_some_iff.1 hh).1;omega) (fun k e=>by have:=(hr k e).1;omega)
theorem appendSeq_any(gf:Nat)(hgf:gf=90)(b1 b2:Value)(Bs Bn:Nat)(hs:List Hd)(Np:Nat)(S:List Hd->Prop)(Sp:List Hd->Prop)(hS:∀ ys,S ys->ys=hs)(w:World)(hB1:Bs<w.heap.size)(hB2:Bn<w.heap.size)
  (hN:Np<=1000000000)
  (hseq:∀ n,1<=n->SeqStopsK Fence.wide n Tryz.prog gf #[b1,b2] (fun x:Hd=>#[x.v]) (KeepB Bs Bn) S Sp Np w) :
  Calls Tryz.prog 89 #[.slice none 0 0,.func (.func gf) #[] #[b1,b2]] w fun e w'=>∃ v,e=.returned v/\Ow w' w.heap.size eHB v hs/\Fr w w':=by
 subst hgf
 refine(callsIn_wide (n:=9)).1 ?_
 refine callsIn_of_wp_marks Tryz.func89 rfl trivial ?_ rfl
 simp only [Tryz.ntmps89,List.size_toArray,List.length_cons,List.length_nil,Nat.reduceAdd,Nat.reduceSub,Array.replicate_succ,Array.replicate_zero,List.push_toArray,List.append_toArray,List.nil_append,List.cons_append]
 gi_wp2
 have hW:(w.alloc (.cells #[.slice none 0 0] 80)).heap[w.heap.size]? = some (.cells #[.slice none 0 0] 80 (0,0)):=heap_new _ _ _ rfl
 have hW2:Below w.heap.size w (w.alloc (.cells #[.slice none 0 0] 80)):=(Below.refl _ w).alloc (Nat.le_refl _) _
 refine wpIn_rangeFunc_ownF rfl (by omega) (gf:=90) (lb:=#[b1,b2]) rfl trivial (enters_of Tryz.func90 (by kernel_rfl) rfl) (hseq _ (by omega)) (fun h k=>KeepB.trans h k) (KeepB.put (by simp;omega) (by simp;omega)) hW2 (fun _=>rfl)
  (CollI w w.heap.size) (fun _ _ _=>False) (CollI.own w w.heap.size _ (by simp)) (fun _ _ _ _ _ hs _ _=>hs) ⟨⟨_,hW,Ow.nil⟩,hW2⟩ (fun x=>{ tmps:=#[.slice none 0 0,.func (.func 90) #[] #[b1,b2],.pointer (some ⟨w.heap.size,0,none⟩),undef,.slice none 0 0,x.v,.func (.func 90) #[] #[b1,b2],x.v,undef,undef,undef,undef,undef],defers:=[] }) ?assign ?body ?done ?stop
 case assign=>
  intro l x W K hK
  gi_wp2
  exact hK
 case body=>
  rintro l pre x W ⟨⟨v,hh,ho⟩,hb⟩ hpl
  have c0:=cellx hh 0 rfl
  have hsz:w.heap.size+1<=W.heap.size:=(Array.getElem?_eq_some_iff.1 hh).1
  obtain⟨va,vc,rfl⟩:=ho.shape'
  gi_wp2_with (gi_at_builtin;refine wpListIn_app1 eHB rfl (.tmp 8) (.tmp 10) 80 rfl Tryz.underlying80 (w.heap.size+1) rfl ho [x] _ _ _ rfl rfl rfl (by have h1:=hpl;have h2:=hN;simp;omega) hsz ?_)
  intro v' w4 hap
  obtain⟨va',vc',hv'⟩:=hap.own.shape'
  subst hv'
  have hne:some w.heap.size≠(Value.slice va pre.length vc).ownBlock:=fun e=>by have:=(ho.lt _ e.symm).1;omega
  have k0:w4.heap[w.heap.size]? = some (.cells #[.slice va pre.length vc] 80 (0,0)):=hap.chg'.heap hh (fun e=>hne e.symm)
  have e3:=cellx k0 0 rfl
  have e4:w4.frozen? ⟨w.heap.size,0,none⟩=false:=frozen_of_heap k0 0
  gi_wp2
  have hst:=setCell_chg w4 ⟨w.heap.size,0,none⟩ (.slice va' (pre.length+1) vc')
  refine⟨?_,?_,⟨_,heap_setCell_own k0 0 _,?_⟩,?_⟩
  · exact(KeepsOthers.of_grownBy hap.chg (fun j o e hj=>ow_cells ho e hj)).trans (KeepsOthers.setCell _ _ _)
  · have h1:=KeepB.of_chg (Bs:=Bs) (Bn:=Bn) hap.chg' (by omega) (by omega) (fun e=>by have:=(ho.lt _ e).1;omega) (fun e=>by have:=(ho.lt _ e).1;omega)
    have h2:=KeepB.of_chg (Bs:=Bs) (Bn:=Bn) hst (by have:=hap.size;omega) (by have:=hap.size;omega) (by simp;omega) (by simp;omega)
    exact h1.trans h2
  · have:=own_set_other (i:=0) (u:=.slice va' (pre.length+1) vc') hap.own (show w.heap.size<w.heap.size+1 by omega)
    simpa using this
  · exact set_below (hap.below ho hb (by omega) (by omega)) (Nat.le_refl _) (by have:=hap.size;omega)
 case done=>
  rintro D ys W hD hys ⟨⟨v,hh,ho⟩,hb⟩ hK
  obtain rfl:=hS _ hys
  have c0:=cellx hh 0 rfl
  gi_wp2
  refine⟨by simp,.inl ⟨_,_,rfl,run_takeDeferred hK,?_⟩⟩
  refine⟨_,results_tmp rfl _ _ _,_,rfl,?_,?_⟩
  · exact ow_keptG (ho.rebase (Nat.le_succ _)) (grownBy_putObj' W D (.deferred none)) (fun r e=>by cases e;exact⟨_,hK,rfl⟩)
  · exact hb.trans (belowK_b (w:=w) (Nat.le_refl _) W D _ _ (by simp at hD;omega) hK rfl rfl)
 case stop=>
  rintro D c pre W hD _ h _
  exact h.elim
theorem collect_any(gf:Nat)(hgf:gf=90)(b1 b2:Value)(Bs Bn:Nat)(hs:List Hd)(Np:Nat)(S:List Hd->Prop)(Sp:List Hd->Prop)(hS:∀ ys,S ys->ys=hs)(w:World)(hB1:Bs<w.heap.size)(hB2:Bn<w.heap.size)
  (hN:Np<=1000000000)
  (hseq:∀ n,1<=n->SeqStopsK Fence.wide n Tryz.prog gf #[b1,b2] (fun x:Hd=>#[x.v]) (KeepB Bs Bn) S Sp Np w) :
  Calls Tryz.prog 60 #[.func (.func gf) #[] #[b1,b2]] w fun e w'=>∃ v,e=.returned v/\Ow w' w.heap.size eHB v hs/\Fr w w':=by
 subst hgf
 have HC:=hid (appendSeq_any _ rfl b1 b2 Bs Bn hs Np S Sp hS w hB1 hB2 hN hseq)
 clear hseq hS
 go_enter Tryz.func60, Tryz.ntmps60
 go_wp2_with fail
 refine HC.out.mono ?_
 rintro e w1 ⟨v1,rfl,hown1,hf1⟩
 go_wp2_with fail
 go_ret
 exact⟨_,rfl,hown1,hf1⟩
theorem see_part{P:Program}{α:Type}{E:Elt P α}{w:World}{b off n cap:Nat}{l:List α}(h:See w E (.slice (some ⟨b,off,none⟩) n cap) l)(i m c':Nat)(hm:i+m<=l.length)(hc:m<=c')(hc2:c'<=maxLen) :
  See w E (.slice (some ⟨b,off+i*E.k,none⟩) m c') ((l.drop i).take m):=by
 have hl:((l.drop i).take m).length=m:=by simp;omega
 refine⟨E.length_cells _,_,c',by rw [hl],by omega,hc2,by simp,?_⟩
 rcases Nat.eq_zero_or_pos m with h0 | hp
 · exact .inl (by omega)
 · obtain⟨b',off',cap',he,_,_,hcell⟩:=h.cells (by intro e;simp [e]at hm;omega)
   cases he
   refine .inr ⟨b,_,rfl,fun j u hj=>?_⟩
   have hk:=E.pos
   have hjl:=(List.getElem?_eq_some_iff.1 hj).1
   rw [E.length_cells,hl]at hjl
   have hq:j / E.k<m:=(Nat.div_lt_iff_lt_mul hk).2 hjl
   have hr:j % E.k<E.k:=Nat.mod_lt _ hk
   have hdm:=Nat.div_add_mod j E.k
   have e1:=E.cells_at ((l.drop i).take m) (j / E.k) (by omega) (j % E.k) hr
   have e2:j / E.k*E.k+j % E.k=j:=by rw [Nat.mul_comm];exact hdm
   rw [e2,hj]at e1
   have e3 := hcell (i + j / E.k) (by omega) (j % E.k) hr u (by
    rw [e1]
    congr 2
    rw [List.getElem_take, List.getElem_drop])
   have e4:off+i*E.k+j=off+((i+j / E.k)*E.k+j % E.k):=by rw [Nat.add_mul];omega
   rw [e4];exact e3
def chunksL{α:Type}(l:List α)(c:Nat):List (List α):=(List.range (ckN l.length c)).map fun j=>(l.drop (j*c)).take c
theorem chunks_see{α:Type}{E:Elt Tryz.prog α}(hk:E.k=1){EH:Elt Tryz.prog Hd}{w:World}{b off cap:Nat}{l:List α}{v:Value}{c:Nat}(hc:0<c)(h:See w E (.slice (some ⟨b,off,none⟩) l.length cap) l)(hv:See w EH v (ckUp b off l.length c (ckN l.length c))) :
  Sees2 w EH E v (ckUp b off l.length c (ckN l.length c)) (chunksL l c):=by
 refine⟨hv,by simp [chunksL,ckUp],fun i h1 h2=>?_⟩
 rw [ckUp_len]at h1
 have hlt:=(ckN_lt l.length c hc i).1 h1
 have hcm:=h.shape
 obtain⟨_,_,hsv,hc1,hc2,_⟩:=hcm
 cases hsv
 have hp:=see_part h (i*c) (min c (l.length - i*c)) (min c (l.length - i*c)) (by omega) (Nat.le_refl _) (by omega)
 rw [hk,Nat.mul_one]at hp
 have e1:(ckUp b off l.length c (ckN l.length c))[i]=ckHd b off l.length c i:=by simp [ckUp]
 have e2:(chunksL l c)[i]=(l.drop (i*c)).take (min c (l.length - i*c)):=by
  simp only [chunksL,List.getElem_map,List.getElem_range]
  rcases Nat.le_total c (l.length - i*c)with hh | hh
  · rw [Nat.min_eq_left hh]
  · rw [Nat.min_eq_right hh,List.take_of_length_le (by simp;omega),List.take_of_length_le (by simp)]
 rw [e1,e2]
 exact hp
theorem fin_take(N k:Nat)(h:k<N):(List.finRange N).take (k+1)=(List.finRange N).take k++[⟨k,h⟩]:=by
 rw [List.take_succ_eq_append_getElem (by simpa using h)]
 congr 2
 simp
theorem chunkS_fin(Bs Bn:Nat)(v:Value)(ls:List (List UInt8))(c:Nat)(hc:1<=c)(hcm:c<=1000000)(hlen:ls.length<=1000000000)(w:World)(hBs:w.heap[Bs]? = some (.cells #[v] 92 (0,0)))(hBn:w.heap[Bn]? = some (.cells #[N c] 3 (0,0)))(hv:See w eS v ls) :
  ∃ b off,(ls=[]\/∃ cap,v=.slice (some ⟨b,off,none⟩) ls.length cap)/\∀ n,1<=n->SeqStopsK Fence.wide n Tryz.prog 164 #[.pointer (some ⟨Bs,0,none⟩),.pointer (some ⟨Bn,0,none⟩)] (fun j:Fin (ckN ls.length c)=>#[(ckHd b off ls.length c j.val).v]) (KeepB Bs Bn) (fun ys=>ys=List.finRange (ckN ls.length c)) (fun _=>True) (ckN ls.length c) w:=by
 obtain⟨a,cap,rfl,h1,h2,h3⟩:=hv.shape
 by_cases hl:ls=[]
 · subst hl
   have e0:ckN ([]:List (List UInt8)).length c=0:=by unfold ckN;exact Nat.div_eq_of_lt (by simp;omega)
   refine⟨0,0,.inl rfl,fun n hn l J Jx W hW _ _ hY h0=>?_⟩
   have hJ:=chunkS1_nil_in n l Bs Bn (fun(_:List Hd) W=>J [] W) a cap W ?_ h0
   · refine hJ.mono fun e W' ⟨he,hj⟩=>⟨he,.inl ⟨[],?_,hj⟩⟩
     have:∀ (M:Nat),M=0->([]:List (Fin M))=List.finRange M:=fun M hM=>by subst hM;rfl
     exact this _ e0
   · rw [cell_of_heap (Fr.heap hW hBs)];rfl
 · obtain⟨b,off,cap',he,_⟩:=hv.cells hl
   cases he
   refine⟨b,off,.inr ⟨cap,rfl⟩,fun n hn l J Jx W hW hJ _ hY h0=>?_⟩
   generalize hN:ckN ls.length c=M at *
   have h:=chunkS1_in n hn l Bs Bn b off ls.length cap c hc hcm h1 hlen (fun pre W=>pre.length<=M/\J ((List.finRange M).take pre.length) W) (fun pre W=>Jx ((List.finRange M).take pre.length) W)
    (fun s W W' hs hg => ⟨hs.1, hJ _ W W' none hs.2 hg (fun r e => by cases e)⟩) (fun pre x W hj hlt hx => by
     rw [hN] at hlt
     subst hx
     have hlen : ((List.finRange M).take pre.length).length < M := by rw [List.length_take]; simp; omega
     refine (hY _ ⟨pre.length, hlt⟩ W hj.2 hlen).mono fun e W' h => ?_
     rw [List.length_append, List.length_singleton, fin_take M _ hlt]
     rcases h with ⟨he, hj', hk⟩ | ⟨he, hj'⟩
     · exact .inl ⟨he, ⟨by omega, hj'⟩, hk⟩
     · exact .inr ⟨he, hj'⟩) W (Fr.heap hW hBs) (Fr.heap hW hBn) ⟨Nat.zero_le _, by simpa using h0⟩
   refine h.mono fun e W' ⟨he,hh⟩=>⟨he,?_⟩
   rcases hh with⟨ys,rfl,_,hj⟩ | ⟨pre,_,hj⟩
   · refine .inl ⟨_,rfl,?_⟩
     rw [ckUp_len,hN,List.take_of_length_le (by simp)]at hj
     exact hj
   · exact .inr ⟨_,trivial,hj⟩
theorem keeps_chg{G:Nat->Prop}{W W':World}(h:Chg G W W')(hG:∀ k o,W.heap[k]? = some o->G k->o.isCells=true):KeepsOthers W W':=
 ⟨h.size,fun k o ho hc=>h.heap ho fun g=>by rw [hG k o ho g]at hc;cases hc⟩
end Go.Proofs.YtdagmoonnbnceaaGreatDoor
