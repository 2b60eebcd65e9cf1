/- Parts of the proof of ArchPacks: N1. -/
import Derived.Test.YtdamnfpigajmoaaGreatDoorM01
import Derived.Test.YtdamnfpigajmoaaGreatDoorM03
import Derived.Lib.SliceRun
set_option linter.unusedVariables false
set_option linter.unusedSectionVars false
set_option linter.unusedSimpArgs false
set_option maxHeartbeats 8000000
set_option maxRecDepth 100000
namespace Go.Proofs.YtdamnfpigajmoaaGreatDoor
open Go.RowKit Go.Fk
def aP:al Tryz.prog Hd:=⟨29,1,24,⟨none,0,0⟩,.slice none 0 0,fun h=>[h.v],by kernel_rfl,by decide,by decide,by simp [Value.cells],fun _=>rfl,by intro x u d;simp at d;subst d;rfl⟩
theorem Bv(n:Nat)(w:World)(d:n<=2147483648) :
  Calls Tryz.prog 99 #[.slice none 0 0,.int .i64 n] w fun e w'=>∃ v,e=.returned v/\Ow w' w.heap.size eB v []/\Fr w w':=by
 go_enter Tryz.func99, Tryz.ntmps99;have y:¬(n:Int)<0:=by omega
 by_cases h:n=0;· subst h;go_wp2_with fail;go_ret;exact⟨_,rfl,Ow.nil,Fr.refl w⟩
 · have z:(0:Int)<n:=(by omega);obtain⟨A,D,m,o,q,F,G⟩:=DB eB w 29 3 29 .i64 .i64 Tryz.underlying29 Tryz.underlying3 n (by omega) d;go_wp2_with (at_builtin;refine Lib.wpList_append_run _ rfl (.tmp 20) (.tmp 21) 29 3 rfl _ _ rfl rfl _ _ m ?_);go_ret;exact⟨_,rfl,o,q⟩
def LF(d:List (List UInt8)):Nat:=d.flatten.length
theorem L3(v:Value)(m:List Hd)(d:List (List UInt8))(w:World)(q:bY w aP eB v m d)(hn:d.flatten.length<=1000000) :
  Calls Tryz.prog 56 #[v] w fun e w'=>∃ v,e=.returned v/\Ow w' w.heap.size eB v d.flatten/\Fr w w':=by
 obtain⟨a,a6,Y,a7,Z,y⟩:=q.1.shape;unfold maxLen at Z;subst Y;have Q:=q.2.1;have z:=ad Q;have HN:=ad y;clear Q y;have bb:d.length<=9223372036854775807:=by have:=z.out;omega
 go_enter Tryz.func56, Tryz.ntmps56;go_wp2_with fail;go_loop [3,11] (fun nv o=>∃ k n:Nat,k<=m.length/\o=N k/\nv=N n/\Hid (n=(d.take k).flatten.length)) (fun _ o=>m.length - (intOf o).toNat);case atStart=>exact⟨0,0,ap _,rfl,rfl,rfl⟩
 case round=>
  obtain⟨k,n,hk,rfl,rfl,G⟩:=hrel;have bd:n<=1000000:=(by have h1:=nK d k;have:=G.out;omega);by_cases A:k<m.length
  · obtain⟨b,ab,ac,I,R⟩:=q.1.cell1 (fun(h:Hd)=>h.v) rfl k A;have D:k<d.length:=(by have:=z.out;omega);have M:=q.2.2 k A D;have J:Hid (n+d[k].length=(d.take (k+1)).flatten.length):=(by show _=_;rw [pd d k D,an,<- G.out]);have O:=nK d (k+1);have aj:n+d[k].length<=1000000:=(by have:=J.out;omega);obtain⟨a2,c2,T,_⟩:=M.shape;generalize m[k]=h at *;obtain⟨ha,K,bn⟩:=h;simp only [Hd.v,ed]at T;obtain⟨rfl,y,rfl⟩:=T;rw [<- y]at J aj;clear y O;simp only [Hd.v]at R;cases I;have i1:(0:Int)<=k:=(by omega);have i2:(k:Int)<m.length:=(by omega);have bt:IntKind.i64.wrap ((n:Int)+K)=(n:Int)+K:=ar _ (by omega);have bu:¬(n:Int)+K<0:=(by omega);go_wp2_with fail;go_round;case rel=>exact⟨k+1,n+K,by omega,by go_num,by go_num,J⟩
    case measure=>simp [intOf];omega
  · have J:Hid (n=d.flatten.length):=(by have:=G.out;rw [eo (by have:=z.out;omega)]at this;exact this);clear G;go_wp2_with fail;refine(Bv n _ (by omega)).mono ?_;rintro e w1 ⟨v1,rfl,U,a1⟩;go_wp2_with fail;go_loopw [6,27] (fun ov o wr=>∃ k:Nat,k<=m.length/\o=N k/\Ow wr w.heap.size eB ov (d.take k).flatten/\Fr w wr) (fun _ o _=>m.length - (intOf o).toNat);case atStart=>exact⟨0,ap _,rfl,U,a1⟩
    case round=>
     clear U;obtain⟨k,bz,rfl,L,F⟩:=hrel;by_cases A:k<m.length
     · have I:=q.fr F;obtain⟨b,ab,ac,a4,R⟩:=I.1.cell1 (fun(h:Hd)=>h.v) rfl k A;have D:k<d.length:=(by have:=z.out;omega);have M:=I.2.2 k A D;have V:Hid ((d.take (k+1)).flatten=(d.take k).flatten++d[k]):=pd d k D;have O:=nK d (k+1);rw [V.out,an]at O;generalize m[k]=h at *;cases a4;have i1:(0:Int)<=k:=(by omega);have i2:(k:Int)<m.length:=(by omega);go_wp2_with (at_builtin;refine aN eB rfl (.tmp 31) (.tmp 32) 29 rfl Tryz.underlying29 w.heap.size rfl L _ _ rfl M ?c1 F.size ?_);case c1=>omega
       intro v' w4 X;go_wp2_with fail;go_roundw;case rel=>exact⟨k+1,by omega,by go_num,by rw [V.out];exact X.own,X.below L F (ag _) F.size⟩
       case measure=>simp [intOf];omega
     · rw [eo (by have:=z.out;omega)]at L;go_wp2_with fail;go_ret;exact⟨_,rfl,L,F⟩
theorem mH(v:Value)(q:List UInt8)(w:World)(d:af w eB v q)(D:q.length<=1000000) :
  Calls Tryz.prog 58 #[v] w fun e w'=>∃ v,e=.returned v/\Ow w' w.heap.size eB v q/\Fr w w':=by
 obtain⟨a,y,rfl,F,G,h⟩:=d.shape
 cases a with
 | none=>obtain⟨rfl,rfl⟩:=h rfl;have z:=fun W=>Lib.run_eql_slice_nil (P:=Tryz.prog) W 29 5 none 0 0 0 0 Tryz.underlying29;go_enter Tryz.func58, Tryz.ntmps58;go_wp2_with fail;go_ret;exact⟨_,rfl,Ow.nil,Fr.refl w⟩
 | some a=>
  clear h;have m:=iC eB w #[] ([]:List UInt8) 0 rfl (by simp) (ag w.heap.size) rfl;have A:=d.fr ((Fr.refl w).alloc (.cells #[] eB.e));have z:=fun W=>Lib.run_eql_slice_nil (P:=Tryz.prog) W 29 5 (some a) q.length y 0 0 Tryz.underlying29;go_enter Tryz.func58, Tryz.ntmps58;go_wp2_with (at_builtin;refine aN eB rfl (.tmp 5) (.tmp 6) 29 rfl Tryz.underlying29 w.heap.size rfl m _ _ rfl A ?c1 ?c2 ?_);case c1=>simp;omega
  case c2=>simp
  intro v' w4 o;go_wp2_with fail;go_ret;exact⟨_,rfl,o.own,o.below m ((Fr.refl w).alloc _) (ag _) (by simp)⟩
end Go.Proofs.YtdamnfpigajmoaaGreatDoor
