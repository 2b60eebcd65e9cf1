/- Parts of the proof of ArchEnds: N1 N5. -/
import Derived.Test.YtfpijnhhdfoohaaGreatDoorM03
import Derived.Test.YtfpijnhhdfoohaaGreatDoorM05
import Derived.Lib.SliceRun
set_option linter.unusedVariables false
set_option linter.unusedSectionVars false
set_option linter.unusedSimpArgs false
set_option maxHeartbeats 8000000
set_option maxRecDepth 100000
namespace Go.Fk
abbrev aw:=@Go.IntWalk.i64_in
abbrev t6:=@Go.Lib.run_eql_slice_nil
end Go.Fk
namespace Go.Proofs.YtfpijnhhdfoohaaGreatDoor
open Go.RowKit Go.Fk
def aQ:au Tryz.prog Hd:=⟨22,1,24,⟨none,0,0⟩,.slice none 0 0,fun h=>[h.v],by kernel_rfl,by decide,by decide,by simp [Value.cells],fun _=>rfl,by intro x u d;simp at d;subst d;rfl⟩
theorem SC(n:Nat)(w:World)(h:n<=2147483648) :
  Calls Tryz.prog 95 #[.slice none 0 0,.int .i64 n] w fun e d=>∃ v,e=.returned v/\Ow d w.heap.size eB v []/\Fr w d:=by
 go_enter Tryz.func95, Tryz.ntmps95;have A:¬(n:Int)<0:=by omega
 by_cases m:n=0;· subst m;go_wp2_with fail;go_ret;exact⟨_,rfl,Ow.nil,Fr.refl w⟩
 · have B:(0:Int)<n:=(by omega);obtain⟨D,F,o,q,z,G,I⟩:=AY eB w 22 3 22 .i64 .i64 Tryz.underlying22 Tryz.underlying3 n (by omega) h;go_wp2_with (at_builtin;refine Lib.wpList_append_run _ rfl (.tmp 20) (.tmp 21) 22 3 rfl _ _ rfl rfl _ _ o ?_);go_ret;exact⟨_,rfl,q,z⟩
def SG(d:List (List UInt8)):Nat:=d.flatten.length
theorem EX(v:Value)(m:List Hd)(d:List (List UInt8))(w:World)(q:dl w aQ eB v m d)(hn:d.flatten.length<=1000000) :
  Calls Tryz.prog 59 #[v] w fun e Q=>∃ v,e=.returned v/\Ow Q w.heap.size eB v d.flatten/\Fr w Q:=by
 obtain⟨a,a6,aa,a7,ab,z⟩:=q.1.shape;unfold maxLen at ab;subst aa;have R:=q.2.1;have A:=ad R;have HN:=ad z;clear R z;have ba:d.length<=9223372036854775807:=by have:=A.out;omega
 go_enter Tryz.func59, Tryz.ntmps59;go_wp2_with fail;go_loop [3,11] (fun nv o=>∃ k n:Nat,k<=m.length/\o=N k/\nv=N n/\Hid (n=(d.take k).flatten.length)) (fun _ o=>m.length - (intOf o).toNat);case atStart=>exact⟨0,0,an _,rfl,rfl,rfl⟩
 case round=>
  obtain⟨k,n,hk,rfl,rfl,G⟩:=hrel;have bc:n<=1000000:=(by have h1:=qV d k;have:=G.out;omega);by_cases B:k<m.length
  · obtain⟨b,aj,ak,I,U⟩:=q.1.cell1 (fun(h:Hd)=>h.v) rfl k B;have D:k<d.length:=(by have:=A.out;omega);have M:=q.2.2 k B D;have J:Hid (n+d[k].length=(d.take (k+1)).flatten.length):=(by show _=_;rw [sp d k D,aD,<- G.out]);have O:=qV d (k+1);have ap:n+d[k].length<=1000000:=(by have:=J.out;omega);obtain⟨a2,c2,V,_⟩:=M.shape;generalize m[k]=h at *;obtain⟨ha,K,bl⟩:=h;simp only [Hd.v,go]at V;obtain⟨rfl,z,rfl⟩:=V;rw [<- z]at J ap;clear z O;simp only [Hd.v]at U;cases I;have i1:(0:Int)<=k:=(by omega);have i2:(k:Int)<m.length:=(by omega);have bm:IntKind.i64.wrap ((n:Int)+K)=(n:Int)+K:=aw _ (by omega);have bs:¬(n:Int)+K<0:=(by omega);go_wp2_with fail;go_round;case rel=>exact⟨k+1,n+K,by omega,by go_num,by go_num,J⟩
    case measure=>simp [intOf];omega
  · have J:Hid (n=d.flatten.length):=(by have:=G.out;rw [eC (by have:=A.out;omega)]at this;exact this);clear G;go_wp2_with fail;refine(SC n _ (by omega)).mono ?_;rintro e w1 ⟨v1,rfl,X,a1⟩;go_wp2_with fail;go_loopw [6,27] (fun ov o wr=>∃ k:Nat,k<=m.length/\o=N k/\Ow wr w.heap.size eB ov (d.take k).flatten/\Fr w wr) (fun _ o _=>m.length - (intOf o).toNat);case atStart=>exact⟨0,an _,rfl,X,a1⟩
    case round=>
     clear X;obtain⟨k,bx,rfl,L,F⟩:=hrel;by_cases B:k<m.length
     · have I:=q.fr F;obtain⟨b,aj,ak,a4,U⟩:=I.1.cell1 (fun(h:Hd)=>h.v) rfl k B;have D:k<d.length:=(by have:=A.out;omega);have M:=I.2.2 k B D;have Y:Hid ((d.take (k+1)).flatten=(d.take k).flatten++d[k]):=sp d k D;have O:=qV d (k+1);rw [Y.out,aD]at O;generalize m[k]=h at *;cases a4;have i1:(0:Int)<=k:=(by omega);have i2:(k:Int)<m.length:=(by omega);go_wp2_with (at_builtin;refine jb eB rfl (.tmp 31) (.tmp 32) 22 rfl Tryz.underlying22 w.heap.size rfl L _ _ rfl M ?c1 F.size ?_);case c1=>omega
       intro v' w4 Z;go_wp2_with fail;go_roundw;case rel=>exact⟨k+1,by omega,by go_num,by rw [Y.out];exact Z.own,Z.below L F (am _) F.size⟩
       case measure=>simp [intOf];omega
     · rw [eC (by have:=A.out;omega)]at L;go_wp2_with fail;go_ret;exact⟨_,rfl,L,F⟩
theorem jT(v:Value)(q:List UInt8)(w:World)(d:ai w eB v q)(F:q.length<=1000000) :
  Calls Tryz.prog 61 #[v] w fun e h=>∃ v,e=.returned v/\Ow h w.heap.size eB v q/\Fr w h:=by
 obtain⟨a,A,rfl,G,I,m⟩:=d.shape
 cases a with
 | none=>obtain⟨rfl,rfl⟩:=m rfl;have B:=fun W=>t6 (P:=Tryz.prog) W 22 5 none 0 0 0 0 Tryz.underlying22;go_enter Tryz.func61, Tryz.ntmps61;go_wp2_with fail;go_ret;exact⟨_,rfl,Ow.nil,Fr.refl w⟩
 | some a=>
  clear m;have o:=n9 eB w #[] ([]:List UInt8) 0 rfl (by simp) (am w.heap.size) rfl;have D:=d.fr ((Fr.refl w).alloc (.cells #[] eB.e));have B:=fun W=>t6 (P:=Tryz.prog) W 22 5 (some a) q.length A 0 0 Tryz.underlying22;go_enter Tryz.func61, Tryz.ntmps61;go_wp2_with (at_builtin;refine jb eB rfl (.tmp 5) (.tmp 6) 22 rfl Tryz.underlying22 w.heap.size rfl o _ _ rfl D ?c1 ?c2 ?_);case c1=>simp;omega
  case c2=>simp
  intro v' w4 z;go_wp2_with fail;go_ret;exact⟨_,rfl,z.own,z.below o ((Fr.refl w).alloc _) (am _) (by simp)⟩
def ym:au Tryz.prog Hd:=⟨95,1,24,⟨none,0,0⟩,.slice none 0 0,fun h=>[h.v],by kernel_rfl,by decide,by decide,by simp [Value.cells],fun _=>rfl,by intro x u d;simp at d;subst d;rfl⟩
theorem Sr(n:Nat)(w:World)(h:n<=2147483648) :
  Calls Tryz.prog 271 #[.slice none 0 0,.int .i64 n] w fun e d=>∃ v,e=.returned v/\Ow d w.heap.size aQ v []/\Fr w d:=by
 go_enter Tryz.func271, Tryz.ntmps271;have A:¬(n:Int)<0:=by omega
 by_cases m:n=0;· subst m;go_wp2_with fail;go_ret;exact⟨_,rfl,Ow.nil,Fr.refl w⟩
 · have B:(0:Int)<n:=(by omega);obtain⟨D,F,o,q,z,G,I⟩:=AY aQ w 95 3 95 .i64 .i64 Tryz.underlying95 Tryz.underlying3 n (by omega) h;go_wp2_with (at_builtin;refine Lib.wpList_append_run _ rfl (.tmp 20) (.tmp 21) 95 3 rfl _ _ rfl rfl _ _ o ?_);go_ret;exact⟨_,rfl,q,z⟩
theorem Sv(v:Value)(m:List Hd)(d:List (List Hd))(w:World)(q:dl w ym aQ v m d)(hn:d.flatten.length<=1000000) :
  Calls Tryz.prog 244 #[v] w fun e Q=>∃ v,e=.returned v/\Ow Q w.heap.size aQ v d.flatten/\Fr w Q:=by
 obtain⟨a,a6,aa,a7,ab,z⟩:=q.1.shape;unfold maxLen at ab;subst aa;have R:=q.2.1;have A:=ad R;have HN:=ad z;clear R z;have ba:d.length<=9223372036854775807:=by have:=A.out;omega
 go_enter Tryz.func244, Tryz.ntmps244;go_wp2_with fail;go_loop [3,11] (fun nv o=>∃ k n:Nat,k<=m.length/\o=N k/\nv=N n/\Hid (n=(d.take k).flatten.length)) (fun _ o=>m.length - (intOf o).toNat);case atStart=>exact⟨0,0,an _,rfl,rfl,rfl⟩
 case round=>
  obtain⟨k,n,hk,rfl,rfl,G⟩:=hrel;have bc:n<=1000000:=(by have h1:=qV d k;have:=G.out;omega);by_cases B:k<m.length
  · obtain⟨b,aj,ak,I,U⟩:=q.1.cell1 (fun(h:Hd)=>h.v) rfl k B;have D:k<d.length:=(by have:=A.out;omega);have M:=q.2.2 k B D;have J:Hid (n+d[k].length=(d.take (k+1)).flatten.length):=(by show _=_;rw [sp d k D,aD,<- G.out]);have O:=qV d (k+1);have ap:n+d[k].length<=1000000:=(by have:=J.out;omega);obtain⟨a2,c2,V,_⟩:=M.shape;generalize m[k]=h at *;obtain⟨ha,K,bl⟩:=h;simp only [Hd.v,go]at V;obtain⟨rfl,z,rfl⟩:=V;rw [<- z]at J ap;clear z O;simp only [Hd.v]at U;cases I;have i1:(0:Int)<=k:=(by omega);have i2:(k:Int)<m.length:=(by omega);have bm:IntKind.i64.wrap ((n:Int)+K)=(n:Int)+K:=aw _ (by omega);have bs:¬(n:Int)+K<0:=(by omega);go_wp2_with fail;go_round;case rel=>exact⟨k+1,n+K,by omega,by go_num,by go_num,J⟩
    case measure=>simp [intOf];omega
  · have J:Hid (n=d.flatten.length):=(by have:=G.out;rw [eC (by have:=A.out;omega)]at this;exact this);clear G;go_wp2_with fail;refine(Sr n _ (by omega)).mono ?_;rintro e w1 ⟨v1,rfl,X,a1⟩;go_wp2_with fail;go_loopw [6,27] (fun ov o wr=>∃ k:Nat,k<=m.length/\o=N k/\Ow wr w.heap.size aQ ov (d.take k).flatten/\Fr w wr) (fun _ o _=>m.length - (intOf o).toNat);case atStart=>exact⟨0,an _,rfl,X,a1⟩
    case round=>
     clear X;obtain⟨k,bx,rfl,L,F⟩:=hrel;by_cases B:k<m.length
     · have I:=q.fr F;obtain⟨b,aj,ak,a4,U⟩:=I.1.cell1 (fun(h:Hd)=>h.v) rfl k B;have D:k<d.length:=(by have:=A.out;omega);have M:=I.2.2 k B D;have Y:Hid ((d.take (k+1)).flatten=(d.take k).flatten++d[k]):=sp d k D;have O:=qV d (k+1);rw [Y.out,aD]at O;generalize m[k]=h at *;cases a4;have i1:(0:Int)<=k:=(by omega);have i2:(k:Int)<m.length:=(by omega);go_wp2_with (at_builtin;refine jb aQ rfl (.tmp 31) (.tmp 32) 95 rfl Tryz.underlying95 w.heap.size rfl L _ _ rfl M ?c1 F.size ?_);case c1=>omega
       intro v' w4 Z;go_wp2_with fail;go_roundw;case rel=>exact⟨k+1,by omega,by go_num,by rw [Y.out];exact Z.own,Z.below L F (am _) F.size⟩
       case measure=>simp [intOf];omega
     · rw [eC (by have:=A.out;omega)]at L;go_wp2_with fail;go_ret;exact⟨_,rfl,L,F⟩
end Go.Proofs.YtfpijnhhdfoohaaGreatDoor
