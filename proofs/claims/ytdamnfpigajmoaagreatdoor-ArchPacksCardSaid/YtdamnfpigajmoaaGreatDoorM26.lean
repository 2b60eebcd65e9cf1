/- Parts of the proof of ArchPacks: K1 K2 K4 Z1 Z2. -/
import Derived.Test.YtdamnfpigajmoaaGreatDoorM17
import Derived.Test.YtdamnfpigajmoaaGreatDoorM11
import Derived.Test.YtdamnfpigajmoaaGreatDoorM25
set_option linter.unusedVariables false
set_option linter.unusedSectionVars false
set_option linter.unusedSimpArgs false
set_option maxHeartbeats 8000000
set_option maxRecDepth 100000
namespace Go.Proofs.YtdamnfpigajmoaaGreatDoor
open Go.RowKit Go.Fk
theorem lC{P:Program}{o:Func}{p q:Tmp}{e:TypeId}(h:o.results=#[.cell p e,.tmp q])(tmps:Array Value)(w:World)(g:Nat)(t:TypeId)(m:Array Value)(y:Nat × Nat)(d:TypeDesc)(v:Value)
  (hp:tmps.getD p undef=.pointer (some ⟨g,0,none⟩)) (hq:tmps.getD q undef=v) (hg:w.heap[g]? = some (.cells m t y))
  (hu:P.underlying e=some d) (hd:(match d with | .struct _ | .array _ _=>true | _=>false)=true) (hi:(P.info? e).map (·.size)=some m.size) :
  (results o tmps).run P w=.ok (.tuple #[.agg m,v]) w:=by
 have z:tmps[p]?.getD undef=.pointer (some ⟨g,0,none⟩):=by simpa using hp
 have A:tmps[q]?.getD undef=v:=by simpa using hq
 simp [results,h,z,A,asAddr,run_loadVar_row w g t e m y d hg hu hd hi]
abbrev rC(d:List UInt8)(k:Nat):Nat->Int:=fun l=>((aF (d.take k) l:Nat):Int)
abbrev dt(d:List UInt8):Nat->Int:=fun l=>if l=0 then 0 else((aF d l:Nat):Int)
theorem si:(#[.int .i64 0,.int .i64 0,.int .i64 0,.int .i64 0,.int .i64 0,.int .i64 0,.int .i64 0,.int .i64 0,.int .i64 0,.int .i64 0,.int .i64 0,.int .i64 0,.int .i64 0,.int .i64 0,.int .i64 0,.int .i64 0]:Array Value)=bC 16 (fun _=>0):=rfl
theorem zS (v : Value) (d : List UInt8) (w : World) (O : af w eB v d) (hn : d.length ≤ 300) (V : ∀ c ∈ d, c.toNat ≤ 15) :
    Calls Tryz.prog 293 #[v] w fun e w'=>e=.returned (.tuple #[.agg (bC 16 (dt d)),.bool true])/\Fr w w':=by
  obtain⟨a,a1,rfl,a2,X,a3⟩:=O.shape;unfold maxLen at X;have a4:¬(300:Int)<d.length:=(by omega);have Q:(w.alloc (.cells (bC 16 (fun _=>0)) 379)).heap[w.heap.size]? = some (.cells (bC 16 (fun _=>0)) 379 (0,0)):=au _ _ _ rfl;have D:Fr w (w.alloc (.cells (bC 16 (fun _=>0)) 379)):=(Fr.refl w).alloc _;have F:cq (w.alloc (.cells (bC 16 (fun _=>0)) 379)) w.heap.size 379 16 (rC d 0):=(by unfold cq;rw [Q,uN (f':=rC d 0) fun i _=>by show(0:Int)=((aF (d.take 0) i:Nat):Int);rw [gH];rfl]);rw [<- si]at D F;clear Q;go_enter Tryz.func293, Tryz.ntmps293;go_wp2_with fail;generalize Y:w.alloc (.cells _ 379)=W0 at *;clear Y;go_loopw [12] (fun G wr=>∃ k:Nat,k<=d.length/\G=N k/\cq wr w.heap.size 379 16 (rC d k)/\Fr w wr) (fun G _=>d.length - (intOf G).toNat);case atStart=>exact⟨0,ap _,rfl,F,D⟩
  case round=>
    clear F D;obtain⟨k,R,rfl,o,y⟩:=hrel;by_cases I:k<d.length
    · obtain⟨b,a6,a7,Z,c0⟩:=(O.fr y).cell1 (fun c=>Fk.u8 c) rfl k I;have bb:=V _ (aH I);have T:=ad (fun l=>m8 d k l I);generalize d[k]=c at *;cases Z;generalize bc:c.toNat=m at *;have bd:=lM (d.take k) m;have bf:(d.take k).length<=300:=(by rw [aV];omega);have e1:wr.cell? ⟨w.heap.size,m,none⟩=some (.int .i64 ((aF (d.take k) m:Nat):Int)):=o.cell m (by omega);have e2:=o.frozen m;have z:=ad (o.set m (((aF (d.take k) m:Nat):Int)+1));have J:Hid (cq (wr.setCell ⟨w.heap.size,m,none⟩ (.int .i64 (((aF (d.take k) m:Nat):Int)+1))) w.heap.size 379 16 (rC d (k+1))):=z.out.congr fun i hi=>by
        show(if i=m then _ else _)=((aF (d.take (k+1)) i:Nat):Int);rw [T.out i];by_cases h:i=m;· subst h;simp
        · rw [ah h,ah (eT h)];simp
      clear z T;have i1:(0:Int)<=k:=(by omega);have i2:(k:Int)<d.length:=(by omega);have i3:(0:Int)<=m:=(by omega);have i4:(m:Int)<16:=(by omega);have i5:¬(15:Int)<m:=(by omega);have i6:m<16:=(by omega);generalize aF (d.take k) m=q at *;go_wp2_with fail;go_roundw;case rel=>exact⟨k+1,by omega,by go_num,J.out,db y (ag _) y.size⟩
      case measure=>simp [intOf];omega
    · obtain rfl:k=d.length:=(by omega);have bx:¬((d.length:Int)<d.length):=(by omega);have e2:=o.frozen 0;have e1:wr.cell? ⟨w.heap.size,0,none⟩=some (.int .i64 ((aF (d.take d.length) 0:Nat):Int)):=o.cell 0 (by omega);have z:=ad (o.set 0 0);have J:Hid (cq (wr.setCell ⟨w.heap.size,0,none⟩ (.int .i64 0)) w.heap.size 379 16 (dt d)):=z.out.congr fun i hi=>(by show(if i=0 then(0:Int)else((aF (d.take d.length) i:Nat):Int))=if i=0 then 0 else((aF d i:Nat):Int);rw [cu]);have U:Hid (Fr w (wr.setCell ⟨w.heap.size,0,none⟩ (.int .i64 0))):=db y (ag _) y.size;clear z o;go_upto_region 11 with fail;generalize wr.setCell ⟨w.heap.size,0,none⟩ (.int .i64 0)=K at *;have L:K.heap[w.heap.size]? = some (.cells (bC 16 (dt d)) 379 (0,0)):=J.out;have M:(Tryz.prog.info? 379).map (·.size)=some (bC 16 (dt d)).size:=(by rw [mD];kernel_rfl);go_wp2_with (first | (refine iQ rfl 379 (.tmp 2) rfl w.heap.size rfl 379 (bC 16 (dt d)) (0,0) _ L Tryz.underlying379 rfl M ?_) | (refine gG rfl 379 (.tmp 2) (.tmp 26) rfl w.heap.size (bC 16 (dt d)) rfl rfl 379 (bC 16 (dt d)) L M rfl (uM _ _) ?_));have h1:=kG K w.heap.size (bC 16 (dt d)) (bC 16 (dt d)) 379 (0,0) L;have h2:=fP K w.heap.size (bC 16 (dt d));exact b6Qb (v:=.tuple #[.agg (bC 16 (dt d)),.bool true]) (lC Tryz.results293 _ _ w.heap.size 379 _ (0,0) _ _ rfl rfl h1 Tryz.underlying379 rfl M) rfl ⟨rfl,ak.below U.out h2 U.out.size (fun k R=>gZ R.symm)⟩
theorem xq(f:Nat->Nat)(b:Nat)(h:∀ k,f k<=b):∀ l,bV f l<=l*b:=by
 intro l
 induction l with
 | zero=>simp [bV]
 | succ l d=>rw [bV,cr];have:=h (l+1);omega
theorem BS (d : List UInt8) (w : World) (hn : d.length ≤ 300) :
    Calls Tryz.prog 294 #[.agg (bC 16 (dt d))] w fun e w'=>e=.returned (.tuple #[N (bV (fun k=>aF d k*2 ^ (15 - k)) 15),N (bV (aF d) 15)])/\Fr w w':=by
  have O:cq (w.alloc (.cells (bC 16 (dt d)) 379)) w.heap.size 379 16 (dt d):=au _ _ _ rfl;have Q:Fr w (w.alloc (.cells (bC 16 (dt d)) 379)):=(Fr.refl w).alloc _;have a2:(bC 16 (dt d)).size=16:=mD _ _;have y:=ad (fun k=>lM d k);generalize T:bC 16 (dt d)=R at *;go_enter Tryz.func294, Tryz.ntmps294;go_wp2_with fail;generalize U:w.alloc (.cells R 379)=A at *;clear U T;go_loopw [2,3,4] (fun V X z wr=>∃ l:Nat,l<=15/\z=N (l+1)/\Hid (V=N (bV (fun k=>aF d k*2 ^ (15 - k)) l))/\Hid (X=N (bV (aF d) l))/\A=wr) (fun _ _ z _=>16 - (intOf z).toNat);case atStart=>exact⟨0,by omega,rfl,rfl,rfl,by first | rfl | trivial⟩
  case round=>
    obtain⟨l,D,rfl,F,G,rfl⟩:=hrel;have I:=F.out;have J:=G.out;have a3 : bV (fun k => aF d k * 2 ^ (15 - k)) l ≤ 15 * (300 * 32768) := aq (xq _ (300 * 32768) (fun k => by
      have h1 := y.out k;have h : (2 : Nat) ^ (15 - k) ≤ 32768 := aq (eC (by omega) (show 15 - k ≤ 15 by omega)) (by decide)
      exact b7 (by omega) h) l) (cW _ D)
    have a5:bV (aF d) l<=15*300:=aq (xq _ 300 (fun k=>by have:=y.out k;omega) l) (cW _ D);have K:Hid (bV (fun k=>aF d k*2 ^ (15 - k)) (l+1)=bV (fun k=>aF d k*2 ^ (15 - k)) l+aF d (l+1)*2 ^ (14 - l)):=(by show _=_;rw [bV,show 15 - (l+1)=14 - l by omega]);have L:Hid (bV (aF d) (l+1)=bV (aF d) l+aF d (l+1)):=rfl;by_cases a6:l<15
    · have a7:((l+1:Nat):Int)<16:=(by omega);have e1:A.cell? ⟨w.heap.size,l+1,none⟩=some (.int .i64 ((aF d (l+1):Nat):Int)):=O.cell' (l+1) (by omega) (by simp [dt]);have bb:=y.out (l+1);have h:(2:Nat) ^ (14 - l)<=32768:=aq (eC (by omega) (show 14 - l<=15 by omega)) (by decide);have bc:aF d (l+1)*2 ^ (14 - l)<=300*32768:=b7 (by omega) h;have bd:IntKind.i64.wrap (15 - ((l+1:Nat):Int))=((14 - l:Nat):Int):=(by rw [ar _ (by omega)];omega);have M:IntKind.i64.wrap (((aF d (l+1):Nat):Int)*2 ^ (14 - l))=((aF d (l+1)*2 ^ (14 - l):Nat):Int):=(by have e:((aF d (l+1):Nat):Int)*2 ^ (14 - l)=((aF d (l+1)*2 ^ (14 - l):Nat):Int):=(by simp);rw [e];exact ar _ (by omega));have Y:=ad K.out;have Z:=ad M;clear M;generalize aa:aF d (l+1)*2 ^ (14 - l)=mu at *;generalize m:bV (fun k=>aF d k*2 ^ (15 - k)) l=sx at *;generalize o:bV (aF d) l=mx at *;generalize aF d (l+1)=q at *;have bk:(0:Int)<=((14 - l:Nat):Int):=(by omega);have i1:(0:Int)<=((l+1:Nat):Int):=(by omega);have i2:l+1<16:=(by omega);subst I J;clear F G m o aa h;go_wp2_with fail;go_roundw
      case rel=>
        refine⟨l+1,by omega,by go_num,?_,?_,by first | rfl | trivial⟩;· show _=_;rw [Y.out];have h9:=Z.out;rw [<- IntWalk.i64_left,<- IntWalk.i64_left,h9,ar _ (by omega)];show Value.int _ _=Value.int _ _;congr 1
        · show _=_;rw [L.out];show Value.int _ _=Value.int _ _;congr 1
      case measure=>simp [intOf];omega
    · obtain rfl:l=15:=(by omega);subst I J;clear K L;generalize m:bV (fun k=>aF d k*2 ^ (15 - k)) 15=sx at *;generalize o:bV (aF d) 15=mx at *;have av:=ad m;have a0:=ad o;clear m o;have bt:¬((15+1:Nat):Int)<16:=(by omega);go_wp2_with fail;go_ret2;exact⟨by rw [av.out,a0.out];rfl,Q⟩
theorem vw(v:Value)(d:List UInt8)(w:World)(T:af w eB v d)(U:d.length<=300)(L:∀ c∈d,c.toNat<=15) :
  Calls Tryz.prog 258 #[v] w fun e w'=>e=.returned (.int .i64 (if cH d then 0 else 7))/\Fr w w':=by
 obtain⟨a,ba,rfl,bb,ac,bc⟩:=T.shape;unfold maxLen at ac;have aj:=ad (zS _ d w T U L);have V:=ad (fun W=>BS d W U);rw [xj d L,CX d L]at V;have X:(bC 16 (dt d)).size=16:=mD _ _;have Y:=uM 16 (dt d);have bd:=BH d;have bf:=FW d;have y:Hid (cH d=(decide (ee d=0) || decide (dH d=32768) || (decide (ee d=1) && decide (aF d 1=1)))):=rfl;have av:(bC 16 (dt d))[1]? = some (.int .i64 ((aF d 1:Nat):Int)):=by rw [pF 16 _ 1 (by omega)];rfl
 have bk:=lM d 1;generalize bC 16 (dt d)=R at *;generalize dH d=z at *;generalize ee d=o at *;generalize aF d 1=A at *;generalize cH d=D at *;have M:(Tryz.prog.info? 379).map (·.size)=some R.size:=by rw [X];kernel_rfl
 go_enter Tryz.func258, Tryz.ntmps258;go_wp2_with fail;refine aj.out.mono ?_;rintro e h ⟨rfl,a0⟩;have G:(h.alloc (.cells (bC 16 (fun _=>0)) 379)).heap[h.heap.size]? = some (.cells (bC 16 (fun _=>0)) 379 (0,0)):=au _ _ _ rfl;have I:Fr h (h.alloc (.cells (bC 16 (fun _=>0)) 379)):=(Fr.refl h).alloc _;have hz:(bC 16 (fun _=>0)).size=16:=rfl;rw [<- si]at G I hz;go_upto_region 2 with(refine gG rfl 379 (.tmp 3) (.tmp 10) rfl h.heap.size R rfl rfl 379 _ G M (by rw [X];rfl) Y ?_);have O:=kG _ h.heap.size _ R 379 (0,0) G;have a2:Fr h (World.setRow _ h.heap.size R):=ak.below I (fP _ h.heap.size R) I.size (fun k q=>gZ q.symm);generalize a3:World.setRow _ h.heap.size R=w2 at *;clear a3 G I;go_wp2_with (first | (refine iQ rfl 379 (.tmp 3) rfl h.heap.size rfl 379 R (0,0) _ O Tryz.underlying379 rfl M ?_));refine(V.out w2).mono ?_;rintro e w3 ⟨rfl,Z⟩;have h3:=Z.heap O;have e1:w3.cell? ⟨h.heap.size,1,none⟩=some (.int .i64 (A:Int)):=by rw [aL h3];exact av
 have F:=(a0.trans a2).trans Z;clear O h3 Y M;by_cases J:o=0;· have m:D=true:=(by rw [y.out,J];rfl);subst m J;go_wp2_with fail;go_ret;exact⟨rfl,F⟩
 · have bn:(0:Int)<o:=(by omega);have bt:decide (0<o)=true:=bs (by omega);have bu:0<o:=(by omega);by_cases q:z=32768;· have m:D=true:=(by rw [y.out,q];simp);have ab:((z:Int) == 32768)=true:=(by simp;omega);subst m q;go_wp2_with fail;go_ret;exact⟨rfl,F⟩
   · have ab:((z:Int) == 32768)=false:=(by simp;omega);have bv:¬(z:Int)=32768:=(by omega);have bx:((z:Int) != 32768)=true:=(by rw [bne,ab];rfl);by_cases K:o=1
     · by_cases Q:A=1;· have m:D=true:=(by rw [y.out,K,Q];simp);subst m K Q;go_wp2_with fail;go_ret;exact⟨rfl,F⟩
       · have m:D=false:=(by rw [y.out];simp [J,q,Q]);have a6:((A:Int) == 1)=false:=(by simp;omega);have bz:¬(A:Int)=1:=(by omega);have b0:((A:Int) != 1)=true:=(by rw [bne,a6];rfl);subst m K;go_wp2_with fail;go_ret;exact⟨rfl,F⟩
     · have m:D=false:=(by rw [y.out];simp [J,q,K]);have a7:((o:Int) == 1)=false:=(by simp;omega);have b1:¬(o:Int)=1:=(by omega);have b2:((o:Int) != 1)=true:=(by rw [bne,a7];rfl);subst m;go_wp2_with fail;go_ret;exact⟨rfl,F⟩
theorem gE{w:World}{v:Value}{l:List UInt8}(h:af w eB v l)(k:Nat)(e:k<l.length) :
  ∃ b d m,v=.slice (some ⟨b,d,none⟩) l.length m/\w.cell? ⟨b,d+k,none⟩=some (Fk.u8 l[k]):=h.cell1 (fun c=>Fk.u8 c) rfl k e
theorem kM(c:UInt8):c=0↔c.toNat=0:=⟨fun e=>by rw [e];rfl,fun e=>gq.1 (by simpa using e)⟩
theorem JS(v:Value)(d:List UInt8)(w:World)(J:af w eB v d)(hn:d.length<=300)(Q:∀ c∈d,c.toNat<=15) :
  Calls Tryz.prog 274 #[v] w fun e w'=>e=.returned (.tuple #[N (dH d),.int .i64 0])/\Fr w w':=by
 obtain⟨a,a0,rfl,a1,R,a2⟩:=J.shape;unfold maxLen at R;have a3:¬(300:Int)<d.length:=by omega
 go_enter Tryz.func274, Tryz.ntmps274;go_wp2_with fail;go_loopw [4,5] (fun T A wr=>∃ (k q:Nat),k<=d.length/\A=N k/\T=N q/\q<=k*16384/\Hid (q=dH (d.take k))/\w=wr) (fun _ A _=>d.length - (intOf A).toNat);case atStart=>exact⟨0,0,ap _,rfl,rfl,by omega,by first | rfl | (show _=_;rfl),by first | rfl | trivial⟩
 case round=>
  obtain⟨k,q,hk,rfl,rfl,hq,m,rfl⟩:=hrel;by_cases D:k<d.length
  · obtain⟨b,U,a6,V,K⟩:=gE J k D;have a7:=Q _ (aH D);have y:=ad (FV d k D);have L:=kM d[k];generalize d[k]=c at *;cases V;replace K:w.cell? ⟨b,U+k,none⟩=some (.int .u8 ((c.toNat:Nat):Int)):=K;have F:=ad L;clear L;generalize X:c.toNat=h at *;have i1:(0:Int)<=k:=(by omega);have i2:(k:Int)<d.length:=(by omega);have i3:¬(15:Int)<h:=(by omega);by_cases G:h=0
    · have o:Hid (q=dH (d.take (k+1))):=(by show _=_;rw [y.out,ai (F.out.2 G),cX];exact m.out);subst G;clear y m;go_wp2_with fail;go_roundw;case rel=>exact⟨k+1,q,by omega,by go_num,rfl,by omega,o.out,by first | rfl | trivial⟩
      case measure=>simp [intOf];omega
    · have bd:(0:Int)<h:=(by omega);have o:Hid (q+2 ^ (15 - h)=dH (d.take (k+1))):=(by show _=_;rw [y.out,ah (fun e=>G (F.out.1 e)),m.out]);have M:(2:Nat) ^ (15 - h)<=16384:=aq (eC (by omega) (show 15 - h<=14 by omega)) (by decide);have O:=ad M;clear y m F M X;go_wp2_with fail;go_loopw [6,7] (fun Y I wr=>∃ (j p:Nat),j<=h/\I=N j/\Y=N p/\p<=32768/\Hid (p=2 ^ (15 - j))/\w=wr) (fun _ I _=>h - (intOf I).toNat);case atStart=>exact⟨0,32768,ap _,rfl,rfl,by omega,rfl,by first | rfl | trivial⟩
      case round=>
       obtain⟨j,p,hj,rfl,rfl,hp,z,rfl⟩:=hrel;by_cases bm:j<h
       · have Z:(j:Int)<h:=(by omega);have aa:Hid (p / 2=2 ^ (15 - (j+1))):=(by show _=_;rw [z.out,show 15 - j=(15 - (j+1))+1 by omega,eA];omega);have hd:(p:Int).tdiv 2=((p / 2:Nat):Int):=(by rw [Int.tdiv_eq_ediv_of_nonneg (by omega)];omega);have bt:(p:Int) / 2=((p / 2:Nat):Int):=(by omega);have ab:p / 2<=32768:=(by omega);generalize p / 2=ph at *;go_wp2_with fail;go_roundw;case rel=>exact⟨j+1,ph,by omega,by go_num,rfl,ab,aa,by first | rfl | trivial⟩
         case measure=>simp [intOf];omega
       · obtain rfl:j=h:=(by omega);have Z:¬(j:Int)<j:=(by omega);have aj:Hid (q+p=dH (d.take (k+1))):=(by show _=_;rw [<- o.out,<- z.out]);have bu:p<=16384:=(by rw [z.out];exact O.out);clear o z O;go_wp2_with fail;go_roundw;case rel=>exact⟨k+1,q+p,by omega,by go_num,by go_num,by omega,aj,by first | rfl | trivial⟩
         case measure=>simp [intOf];omega
  · obtain rfl:k=d.length:=(by omega);have bv:¬(d.length:Int)<d.length:=(by omega);have o:Hid (dH d=q):=(by have:=m.out;rw [cu]at this;exact this.symm);clear m;go_wp2_with fail;go_ret2;exact⟨by rw [o.out];rfl,Fr.refl _⟩
theorem BG(d:List UInt8)(k:Nat)(h:k<d.length):ee (d.take (k+1))=ee (d.take k)+if d[k]=0 then 0 else 1:=by
 unfold ee;rw [cL h,List.countP_append,List.countP_singleton];by_cases c:d[k]=0 <;> simp [c]
theorem vh(v:Value)(d:List UInt8)(w:World)(Q:af w eB v d)(hn:d.length<=300)(a0:∀ c∈d,c.toNat<=15) :
  Calls Tryz.prog 232 #[v] w fun e w'=>e=.returned (.int .i64 (if cH d then 0 else 7))/\Fr w w':=by
 obtain⟨a,bb,rfl,bc,a1,bd⟩:=Q.shape;unfold maxLen at a1;have a2:=ad (JS _ d w Q hn a0);have aa:Hid (cH d=(decide (ee d=0) || decide (dH d=32768) || (decide (ee d=1) && decide (aF d 1=1)))):=rfl;generalize dH d=R at *;generalize cH d=I at *;go_enter Tryz.func232, Tryz.ntmps232;go_wp2_with fail;refine a2.out.mono ?_;rintro e w1 ⟨rfl,y⟩;go_wp2_with fail;go_loopw [5,6,7] (fun nv ov T wr=>∃ (k n o:Nat),k<=d.length/\T=N k/\nv=N n/\ov=N o/\n<=k/\o<=k/\Hid (n=ee (d.take k))/\Hid (o=aF (d.take k) 1)/\w1=wr) (fun _ _ T _=>d.length - (intOf T).toNat);case atStart=>exact⟨0,0,0,ap _,rfl,rfl,rfl,ag _,ag _,by show _=_;rfl,by show _=_;rfl,by first | rfl | trivial⟩
 case round=>
  obtain⟨k,n,o,L,rfl,rfl,rfl,bf,bk,m,q,rfl⟩:=hrel;by_cases U:k<d.length
  · obtain⟨b,a5,bm,hv,c0⟩:=gE (Q.fr y) k U;have D:=ad (BG d k U);have F:=ad (m8 d k 1 U);have G:=ad (kM d[k]);generalize d[k]=c at *;cases hv;replace c0:w1.cell? ⟨b,a5+k,none⟩=some (.int .u8 ((c.toNat:Nat):Int)):=c0;generalize aj:c.toNat=z at *;have bn:z<256:=(by rw [<- aj];exact kH c);clear aj;have i1:(0:Int)<=k:=(by omega);have i2:(k:Int)<d.length:=(by omega);rcases lT z 1 with h | h | h
    · obtain rfl:z=0:=(by omega);have J:Hid (n=ee (d.take (k+1))):=(by show _=_;rw [D.out,ai (G.out.2 rfl),cX];exact m.out);have K:Hid (o=aF (d.take (k+1)) 1):=(by show _=_;rw [F.out,ah (by omega),cX];exact q.out);clear D F m q G;go_wp2_with fail;go_roundw;case rel=>exact⟨k+1,n,o,by omega,by go_num,rfl,rfl,by omega,by omega,J.out,K.out,by first | rfl | trivial⟩
      case measure=>simp [intOf];omega
    · subst h;have J:Hid (n+1=ee (d.take (k+1))):=(by show _=_;rw [D.out,ah (fun e=>by have:=G.out.1 e;omega),m.out]);have K:Hid (o+1=aF (d.take (k+1)) 1):=(by show _=_;rw [F.out,ai rfl,q.out]);clear D F m q G;go_wp2_with fail;go_roundw;case rel=>exact⟨k+1,n+1,o+1,by omega,by go_num,by go_num,by go_num,by omega,by omega,J.out,K.out,by first | rfl | trivial⟩
      case measure=>simp [intOf];omega
    · have M:(0:Int)<z:=(by omega);have h2:((z:Int) == 1)=false:=(by simp;omega);have h3:¬(z:Int)=1:=(by omega);have h4:z≠1:=(by omega);have J:Hid (n+1=ee (d.take (k+1))):=(by show _=_;rw [D.out,ah (fun e=>by have:=G.out.1 e;omega),m.out]);have K:Hid (o=aF (d.take (k+1)) 1):=(by show _=_;rw [F.out,ah (by omega),cX];exact q.out);clear D F m q G;go_wp2_with fail;go_roundw;case rel=>exact⟨k+1,n+1,o,by omega,by go_num,by go_num,rfl,by omega,by omega,J.out,K.out,by first | rfl | trivial⟩
      case measure=>simp [intOf];omega
  · obtain rfl:k=d.length:=(by omega);have b0:¬(d.length:Int)<d.length:=(by omega);have V:=m.out;have X:=q.out;rw [cu]at V X;have O:Hid (I=(decide (n=0) || decide (R=32768) || (decide (n=1) && decide (o=1)))):=(by show _=_;rw [aa.out,<- V,<- X]);clear m q aa V X;by_cases Y:n=0;· have A:I=true:=(by rw [O.out,Y];rfl);subst A Y;go_wp2_with fail;go_ret;exact⟨rfl,y⟩
    · have n0:((n:Int) == 0)=false:=(by simp;omega);by_cases Z:n=1/\o=1;· have A:I=true:=(by rw [O.out,Z.1,Z.2];simp);obtain⟨rfl,rfl⟩:=Z;subst A;go_wp2_with fail;go_ret;exact⟨rfl,y⟩
      · by_cases L:R=32768
        · have A:I=true:=(by rw [O.out,L];simp);subst A L;by_cases M:n=1;· have o1:((o:Int) == 1)=false:=(by simp;omega);subst M;go_wp2_with fail;go_ret;exact⟨rfl,y⟩
          · have n1:((n:Int) == 1)=false:=(by simp;omega);go_wp2_with fail;go_ret;exact⟨rfl,y⟩
        · have A:I=false:=(by rw [O.out];simp [Y,L];omega);have k1:((R:Int) == 32768)=false:=(by simp;omega);subst A;by_cases M:n=1;· have o1:((o:Int) == 1)=false:=(by simp;omega);subst M;go_wp2_with fail;go_ret;exact⟨rfl,y⟩
          · have n1:((n:Int) == 1)=false:=(by simp;omega);go_wp2_with fail;go_ret;exact⟨rfl,y⟩
theorem AC(b:List UInt8)(f a n:Nat)(h:n<257)(d:a+n<b.length)(m:f<=a)(e:b[f+n]'(by omega)=b[a+n]):dC b (f+n) (a+n) (257 - n)=dC b (f+(n+1)) (a+(n+1)) (257 - (n+1))+1:=by
 rw [show 257 - n=257 - (n+1)+1 by omega,dC,ai ⟨d,by rw [bo (by omega),bo d,e]⟩];rfl
theorem AD(b:List UInt8)(f a n:Nat)(d:a+n<b.length)(m:f<=a)(e:b[f+n]'(by omega)≠b[a+n]):dC b (f+n) (a+n) (257 - n)=0:=by
 cases o:257 - n with
 | zero=>rfl
 | succ k=>rw [dC,ah (fun h=>e (by have:=h.2;rw [bo (by omega),bo d]at this;exact ez this))]
theorem rM(b:List UInt8)(f a n:Nat)(h:257<=n\/b.length<=a+n):dC b (f+n) (a+n) (257 - n)=0:=by
 cases d:257 - n with
 | zero=>rfl
 | succ k=>rw [dC,ah (fun h=>by omega)]
theorem FT(v:Value)(l:List UInt8)(f a:Nat)(w:World)(F:af w eB v l)(hn:l.length<=1000000)(ac:f<a)(ha:a<=l.length) :
  Calls Tryz.prog 219 #[v,N f,N a] w fun e w'=>e=.returned (N (fx l f a))/\∃ m,w'=w.drewN m:=by
 obtain⟨a0,a1,rfl,a2,T,a3⟩:=F.shape;unfold maxLen at T;have O:=ad (fun k U=>gE F k U);clear F;go_enter Tryz.func219, Tryz.ntmps219;go_wp2_with fail;go_loopw [7] (fun G wr=>∃ n:Nat,n<=257/\G=N n/\a+n<=l.length/\Hid (fx l f a=n+dC l (f+n) (a+n) (257 - n))/\∃ q,wr=w.drewN q) (fun G _=>257 - (intOf G).toNat);case atStart=>exact⟨0,by omega,rfl,by omega,by show _=_;unfold fx;simp,0,rfl⟩
 case round=>
  obtain⟨n,a4,rfl,a5,d,q,rfl⟩:=hrel;have i0:(0:Int)<=n:=(by omega);have i1:(0:Int)<=(a:Int)+n:=(by omega);have i2:(0:Int)<=(f:Int)+n:=(by omega);by_cases V:n<257
  · have X:(n:Int)<257:=(by omega);by_cases I:a+n<l.length
    · have Y:(a:Int)+n<l.length:=(by omega);have bb:(f:Int)+n<l.length:=(by omega);obtain⟨b,Q,Z,J,A⟩:=O.out (a+n) I;cases J;obtain⟨b',bd,Z,J,D⟩:=O.out (f+n) (by omega);cases J;have K:=ad (AC l f a n V I (by omega));have L:=ad (AD l f a n I (by omega));generalize l[a+n]=x at *;generalize l[f+n]=y at *;replace A:=((Fr.refl w).drewN q).cell A;replace D:=((Fr.refl w).drewN q).cell D;replace A:(w.drewN q).cell? ⟨b,Q+(a+n),none⟩=some (.int .u8 ((x.toNat:Nat):Int)):=A;replace D:(w.drewN q).cell? ⟨b,Q+(f+n),none⟩=some (.int .u8 ((y.toNat:Nat):Int)):=D;by_cases z:y=x
      · have h:Hid (fx l f a=(n+1)+dC l (f+(n+1)) (a+(n+1)) (257 - (n+1))):=(by show _=_;rw [d.out,K.out z];omega);subst z;clear K L d;generalize y.toNat=M at *;generalize o:w.drewN q=W at *;go_upto_region 2 with fail;go_quiet (fail);go_wp2_with fail;go_roundw;case rel=>exact⟨n+1,by omega,by go_num,by omega,h,q+nq,by rw [<- o,iu]⟩
        case measure=>simp [intOf];omega
      · have h:Hid (fx l f a=n):=(by show _=_;rw [d.out,L.out z,cX]);have bf:¬y.toNat=x.toNat:=fun e=>z (gq.1 e);clear K L d z;generalize y.toNat=M at *;generalize x.toNat=R at *;have aa:¬(M:Int)=R:=(by omega);have bk:((M:Int) == R)=false:=(by simp [aa]);generalize o:w.drewN q=W at *;go_upto_region 2 with fail;go_quiet (fail);go_wp2_with fail;go_ret;exact⟨by rw [h.out];rfl,q+nq,by rw [<- o,iu]⟩
    · have Y:¬(a:Int)+n<l.length:=(by omega);have h:Hid (fx l f a=n):=(by show _=_;rw [d.out,rM l f a n (by omega),cX]);clear d;generalize o:w.drewN q=W at *;go_upto_region 2 with fail;go_quiet (fail);go_wp2_with fail;go_ret;exact⟨by rw [h.out];rfl,q+nq,by rw [<- o,iu]⟩
  · have X:¬(n:Int)<257:=(by omega);have h:Hid (fx l f a=n):=(by show _=_;rw [d.out,rM l f a n (by omega),cX]);clear d;generalize o:w.drewN q=W at *;go_upto_region 2 with fail;go_quiet (fail);go_wp2_with fail;go_ret;exact⟨by rw [h.out];rfl,q+nq,by rw [<- o,iu]⟩
def gl:al Tryz.prog bF:=⟨208,3,24,⟨0,0,0⟩,.agg #[.int .u8 0,.int .i64 0,.int .i64 0],fun t=>[Fk.u8 t.lit,N t.len,N t.dist],by kernel_rfl,by decide,by decide,by simp [Value.cells],fun _=>rfl,by intro x u d;simp only [fy,List.not_mem_nil,or_false]at d;rcases d with rfl | rfl | rfl <;> rfl⟩
theorem Ku(v:Value)(l:List UInt8)(w:World)(hs:af w eB v l)(hn:l.length<=1000000) :
  Calls Tryz.prog 120 #[v] w fun e w'=>∃ v',e=.returned v'/\Ow w' w.heap.size gl v' (dN l)/\Fr w w':=by
 have cc:=ad hs;obtain⟨a0,dl,rfl,dr,cx,ds⟩:=hs.shape;unfold maxLen at cx;have HB:=ad (fun W (h:Fr w W) k hk=>gE (cc.out.fr h) k hk);clear hs cc;go_enter Tryz.func120, Tryz.ntmps120;go_wp2_with fail;go_loopw [3,4] (fun ov av wr=>∃ (a:Nat) (m:List bF),a<=l.length/\av=N a/\Ow wr w.heap.size gl ov m/\m.length<=a/\Hid (dN l=m++fu l a)/\Fr w wr) (fun _ av _=>l.length - (intOf av).toNat);case atStart=>exact⟨0,[],ap _,rfl,Ow.nil,ap _,rfl,Fr.refl w⟩
 case round=>
  obtain⟨a,m,ha,rfl,hO,d0,Q,L⟩:=hrel;obtain⟨va,vc,c3⟩:=hO.shape';subst c3;by_cases bu:a<l.length
  · have d3:(a:Int)<l.length:=(by omega);obtain⟨b,a4,ch,R,cA⟩:=HB.out wr L a bu;cases R;have HM:=ad (rl l a bu);have HL:=ad (rm l a bu);have c4:=nX l a ha (min 4095 a);rw [show bI l a (min 4095 a)=ea l a from rfl]at c4;generalize hx:l[a]=x at *;replace cA:wr.cell? ⟨b,a4+a,none⟩=some (.int .u8 ((x.toNat:Nat):Int)):=cA;go_wp2_with fail;go_loopw [5,6,7] (fun T dv iv I=>∃ d:Nat,iv=N (d+1)/\d<=min 4095 a/\T=N (bI l a d).1/\dv=N (bI l a d).2/\∃ q,I=wr.drewN q) (fun _ _ iv _=>5000 - (intOf iv).toNat);case atStart=>exact⟨0,rfl,ap _,rfl,rfl,0,rfl⟩
    case round=>
     obtain⟨d,rfl,hd,rfl,rfl,q,rfl⟩:=hrel;have c6:=nX l a ha d;have ba:Hid (bI l a (d+1)=jR l a (bI l a d) (d+1)):=rfl;have bz:Hid (bI l a (min 4095 a)=ea l a):=rfl;obtain⟨D,U⟩:∃ D,D=d+1:=⟨_,rfl⟩;rw [<- U]at ba;rw [<- U];have HD:=ad U;by_cases d6:D<=4095/\D<=a
     · have j1:(D:Int)<=4095:=(by omega);have j2:(D:Int)<=a:=(by omega);obtain⟨f,cj⟩:∃ f,f+D=a:=⟨a - D,by omega⟩;have cl:Hid (bI l a D=if(bI l a d).1<fx l f a then(fx l f a,D)else bI l a d):=(by show _=_;rw [ba.out];unfold jR;rw [show a - D=f by omega]);have c9:=ad cj;have d8:f<a:=(by omega);clear ba bz HM HL U cj;generalize b0:(bI l a d).1=o at *;generalize b1:(bI l a d).2=J at *;have cm:Hid (bI l a d=(o,J)):=(by show _=_;rw [<- b0,<- b1]);clear b0 b1;generalize F:wr.drewN q=M at *;go_wp2_with fail;go_loopw [8] (fun T I=>∃ n:Nat,n<=257/\T=N n/\a+n<=l.length/\Hid (fx l f a=n+dC l (f+n) (a+n) (257 - n))/\∃ q,I=wr.drewN q) (fun T _=>257 - (intOf T).toNat);case atStart=>exact⟨0,by omega,rfl,by omega,by show _=_;unfold fx;simp,q,F.symm⟩
       case round=>
        clear F M;obtain⟨n,d9,rfl,dT,V,q,rfl⟩:=hrel;obtain⟨Z,hZ⟩:∃ Z,Z=dC l (f+n) (a+n) (257 - n):=⟨_,rfl⟩;rw [<- hZ]at V;have A:=ad hZ;clear hZ;generalize F:wr.drewN q=M at *;have i0:(0:Int)<=n:=(by omega);have ef:(a:Int)+n - D=((f+n:Nat):Int):=(by have:=c9.out;omega);go_upto_region 9 with fail;go_cut [48]from 22 to 48 (fun cv I=>cv=.bool (decide (0<Z))/\Hid (0<Z->n<257/\a+n<l.length/\Z=dC l (f+(n+1)) (a+(n+1)) (257 - (n+1))+1)/\∃ q,I=wr.drewN q)
        case first=>
         by_cases h1:n<257
         · have cF:(n:Int)<257:=(by omega);by_cases h2:a+n<l.length
           · have cG:(a:Int)+n<l.length:=(by omega);have co:(f:Int)+n<l.length:=(by omega);obtain⟨b,a4,ch,R,X⟩:=HB.out wr L (a+n) h2;cases R;obtain⟨b',er,ch,R,Y⟩:=HB.out wr L (f+n) (by omega);cases R;have b4:=ad (AC l f a n h1 h2 (by omega));have b5:=ad (AD l f a n h2 (by omega));generalize l[a+n]=x1 at *;generalize l[f+n]=y at *;replace X:=((Fr.refl wr).drewN q).cell X;replace Y:=((Fr.refl wr).drewN q).cell Y;rw [F]at X Y;replace X:M.cell? ⟨b,a4+(a+n),none⟩=some (.int .u8 ((x1.toNat:Nat):Int)):=X;replace Y:M.cell? ⟨b,a4+(f+n),none⟩=some (.int .u8 ((y.toNat:Nat):Int)):=Y;by_cases G:y=x1;· have z:Hid (Z=dC l (f+(n+1)) (a+(n+1)) (257 - (n+1))+1):=(by show _=_;rw [A.out,b4.out G]);have K:Hid (decide (0<Z)=true):=bs (by rw [z.out];omega);subst G;clear b4 b5 A;generalize y.toNat=yn at *;go_quiet (fail);go_wp2_with fail;go_meet;exact⟨by rw [K.out],fun _=>⟨h1,h2,z.out⟩,_,by rw [<- F,iu]⟩
             · have z:Hid (Z=0):=(by show _=_;rw [A.out,b5.out G]);have K:Hid (decide (0<Z)=false):=bi (by rw [z.out];omega);have es:¬y.toNat=x1.toNat:=fun e=>G (gq.1 e);clear b4 b5 A G;generalize y.toNat=yn at *;generalize x1.toNat=xn at *;have da:¬(yn:Int)=xn:=(by omega);have ev:((yn:Int) == xn)=false:=(by simp [da]);go_quiet (fail);go_wp2_with fail;go_meet;exact⟨by rw [K.out],fun h=>by rw [z.out]at h;omega,_,by rw [<- F,iu]⟩
           · have cG:¬(a:Int)+n<l.length:=(by omega);have z:Hid (Z=0):=(by show _=_;rw [A.out,rM l f a n (by omega)]);have K:Hid (decide (0<Z)=false):=bi (by rw [z.out];omega);clear A;go_quiet (fail);go_wp2_with fail;go_meet;exact⟨by rw [K.out],fun h=>by rw [z.out]at h;omega,_,by rw [<- F,iu]⟩
         · have cF:¬(n:Int)<257:=(by omega);have z:Hid (Z=0):=(by show _=_;rw [A.out,rM l f a n (by omega)]);have K:Hid (decide (0<Z)=false):=bi (by rw [z.out];omega);clear A;go_quiet (fail);go_wp2_with fail;go_meet;exact⟨by rw [K.out],fun h=>by rw [z.out]at h;omega,_,by rw [<- F,iu]⟩
        case rest=>
         obtain⟨rfl,HN,q2,rfl⟩:=hcut;clear F;by_cases bR:0<Z
         · have ca:decide (0<Z)=true:=bs bR;obtain⟨a1,a2,a3⟩:=HN.out bR;simp only [ca];have dc:Hid (fx l f a=(n+1)+dC l (f+(n+1)) (a+(n+1)) (257 - (n+1))):=(by show _=_;rw [V.out,a3];omega);clear a3 V A HN;go_wp2_with fail;go_roundw;case rel=>exact⟨n+1,by omega,by go_num,by omega,dc,q2,rfl⟩
           case measure=>simp [intOf];omega
         · have ca:decide (0<Z)=false:=bi bR;obtain rfl:Z=0:=(by omega);simp only [ca];have bd:Hid (bI l a D=if o<n then(n,D)else(o,J)):=(by show _=_;rw [cl.out,V.out,cm.out,cX]);clear V A HN cl cm;by_cases ct:o<n
           · have aa:Hid (bI l a D=(n,D)):=(by show _=_;rw [bd.out,ai ct]);have dd:(o:Int)<n:=(by omega);clear bd;go_wp2_with fail;go_roundw;case rel=>exact⟨D,by go_num,by omega,by rw [aa.out],by rw [aa.out],q2,rfl⟩
             case measure=>simp [intOf];omega
           · have aa:Hid (bI l a D=(o,J)):=(by show _=_;rw [bd.out,ah ct]);have dd:¬(o:Int)<n:=(by omega);clear bd;go_wp2_with fail;go_roundw;case rel=>exact⟨D,by go_num,by omega,by rw [aa.out],by rw [aa.out],q2,rfl⟩
             case measure=>simp [intOf];omega
     · obtain rfl:d=min 4095 a:=(by omega);have cb:=ad (show D=min 4095 a+1 by omega);clear U HD ba;rw [bz.out]at *;have bf:=hO.fr ((Fr.refl wr).drewN q);have O:=L.trans ((Fr.refl wr).drewN q);replace cA:=((Fr.refl wr).drewN q).cell cA;clear hO L c6;generalize wr.drewN q=M at *;generalize b0:(ea l a).1=o at *;generalize b1:(ea l a).2=J at *;clear bz;go_upto_region 6 with fail;go_cut [19]from 13 to 19 (fun cv I=>cv=.bool false/\I=M)
       case first=>
        by_cases j1:D<=4095;· have di:(D:Int)<=4095:=(by omega);have e2:¬(D:Int)<=a:=(by have:=cb.out;omega);go_wp2_with fail;go_meet;exact⟨rfl,rfl⟩
        · have di:¬(D:Int)<=4095:=(by omega);go_wp2_with fail;go_meet;exact⟨rfl,rfl⟩
       case rest=>
        obtain⟨rfl,rfl⟩:=hcut;by_cases G:3<=o
        · have co:(3:Int)<=o:=(by omega);have ab:Hid (dN l=(m++[⟨0,o,J⟩])++fu l (a+o)):=(by show _=_;rw [Q.out,HM.out G];simp);clear HM HL Q cb;go_wp2_with (at_builtin;refine aM gl rfl (.tmp 58) (.tmp 62) 144 rfl Tryz.underlying144 w.heap.size rfl bf [⟨0,o,J⟩] _ _ _ rfl rfl rfl (by simp;omega) O.size ?_);intro v' w4 ac;go_wp2_with fail;go_roundw;case rel=>exact⟨a+o,m++[⟨0,o,J⟩],by omega,by go_num,ac.own,by simp;omega,ab,ac.below bf O (ag _) O.size⟩
          case measure=>simp [intOf];omega
        · have co:¬(3:Int)<=o:=(by omega);have ab:Hid (dN l=(m++[⟨x,0,0⟩])++fu l (a+1)):=(by show _=_;rw [Q.out,HL.out G];simp);clear HM HL Q cb;go_wp2_with (at_builtin;refine aM gl rfl (.tmp 67) (.tmp 73) 144 rfl Tryz.underlying144 w.heap.size rfl bf [⟨x,0,0⟩] _ _ _ rfl rfl rfl (by simp;omega) O.size ?_);intro v' w4 ac;go_wp2_with fail;go_roundw;case rel=>exact⟨a+1,m++[⟨x,0,0⟩],by omega,by go_num,ac.own,by simp;omega,ab,ac.below bf O (ag _) O.size⟩
          case measure=>simp [intOf];omega
  · obtain rfl:a=l.length:=(by omega);have e3:¬(l.length:Int)<l.length:=(by omega);have ab:Hid (m=dN l):=(by show _=_;rw [Q.out,rn l _ (ag _),dmQb]);go_wp2_with fail;go_ret;exact⟨_,rfl,by rw [<- ab.out];exact hO,L⟩
end Go.Proofs.YtdamnfpigajmoaaGreatDoor
