/- Lemmas for ThreeTurned. -/
import Derived.Test.YtndbpldeabnkbaaGreatDoorM04
import Derived.Test.YtndbpldeabnkbaaGreatDoorM05
set_option linter.all false
set_option maxHeartbeats 8000000
set_option maxRecDepth 100000
namespace Go.Fk
abbrev wF:=@Go.Lib.run_eql_slice_nil
end Go.Fk
namespace Go.Proofs.YtndbpldeabnkbaaGreatDoor
open Go.RowKit Go.Fk
def aO:aw Tryz.prog Hd:=⟨30,1,24,⟨none,0,0⟩,.slice none 0 0,λh=>[h.v],by kernel_rfl,δ,δ,by simp[Value.cells],λ_=>rfl,by intro x u d;simp at d;subst d;rfl⟩
def JN(n:Nat)(w:World)(d:n<=2147483648):Calls Tryz.prog 126 #[.slice none 0 0,.int .i64 n] w λe w'=>∃v,e=.returned v/\Ow w' w.heap.size eB v []/\Fr w w':=by
 go_in;have A:¬(n:Int)<0:=ω
 by_cases h:n=0;·subst h;go_wp2;go_ret;exact⟨_,rfl,Ow.nil,Fr.refl w⟩
 ·have D:(0:Int)<n:=ω;obtain⟨F,G,m,o,z,I,J⟩:=Ex eB w 30 3 30 .i64 .i64 Tryz.underlying30 Tryz.underlying3 n ω d;go_wp2_with (at_builtin;refine Lib.wpList_append_run _ rfl (.tmp 20) (.tmp 21) 30 3 rfl _ _ rfl rfl _ _ m ?_);go_ret;exact⟨_,rfl,o,z⟩
def Ye(d:List Z0):Nat:=d.flatten.length
def JO(v:Value)(m:List Hd)(d:List Z0)(w:World)(z:cO w aO eB v m d)(hn:d.flatten.length<=1000000):Calls Tryz.prog 76 #[v] w λe w'=>∃v,e=.returned v/\Ow w' w.heap.size eB v d.flatten/\Fr w w':=by
 obtain⟨a,a7,ab,aC,ac,A⟩:=z.1.shape;unfold maxLen at ac;subst ab;have U:=z.2.1;have D:=ad U;have HN:=ad A;clear U A;have bb:d.length<=9223372036854775807:=by have:=D.out;omega
 go_in;go_wp2_with fail;go_loop [3,11] (λnv o=>∃k n:Nat,k<=m.length/\o=N k/\nv=N n/\Hid (n=(d.take k).flatten.length)) (λ_ o=>m.length-(intOf o).toNat);case atStart=>exact⟨0,0,ar _,rfl,rfl,rfl⟩
 case round=>
  obtain⟨k,n,hk,rfl,rfl,J⟩:=hrel;have bd:n<=1000000:=(by have h1:=pZ d k;have:=J.out;omega);by_cases F:k<m.length
  ·obtain⟨b,ak,ap,K,V⟩:=z.1.cell1 (λ(h:Hd)=>h.v) rfl k F;have G:k<d.length:=(by have:=D.out;omega);have Q:=z.2.2 k F G;have L:Hid (n+d[k].length=(d.take (k+1)).flatten.length):=ad (by rw[rV d k G,am,<- J.out]);have R:=pZ d (k+1);have av:n+d[k].length<=1000000:=(by have:=L.out;omega);obtain⟨a2,c2,X,_⟩:=Q.shape;generalize m[k]=h at *;obtain⟨ha,M,bm⟩:=h;simp only[Hd.v,ir]at X;obtain⟨rfl,A,rfl⟩:=X;rw[<- A]at L av;clear A R;simp only[Hd.v]at V;cases K;have i1:(0:Int)<=k:=ω;have i2:(k:Int)<m.length:=ω;have bn:=ax ((n:Int)+M) ω;have bs:¬(n:Int)+M<0:=ω;go_wp2_with fail;go_round;case rel=>exact⟨k+1,n+M,ω,γ,γ,L⟩
   case measure=>exact μ
  ·have L:Hid (n=d.flatten.length):=(by have:=J.out;rw[cw (by have:=D.out;omega)]at this;exact this);clear J;go_wp2_with fail;refine(JN n _ ω).mono ?_;rintro e w1 ⟨v1,rfl,Y,a3⟩;go_wp2;go_loopw [6,27] (λov o wr=>∃k:Nat,k<=m.length/\o=N k/\Ow wr w.heap.size eB ov (d.take k).flatten/\Fr w wr) (λ_ o _=>m.length-(intOf o).toNat);case atStart=>exact⟨0,ar _,rfl,Y,a3⟩
   case round=>
    clear Y;obtain⟨k,bx,rfl,O,I⟩:=hrel;by_cases F:k<m.length
    ·have K:=z.fr I;obtain⟨b,ak,ap,a5,V⟩:=K.1.cell1 (λ(h:Hd)=>h.v) rfl k F;have G:k<d.length:=(by have:=D.out;omega);have Q:=K.2.2 k F G;have Z:Hid ((d.take (k+1)).flatten=(d.take k).flatten++d[k]):=rV d k G;have R:=pZ d (k+1);rw[Z.out,am]at R;generalize m[k]=h at *;cases a5;have i1:(0:Int)<=k:=ω;have i2:(k:Int)<m.length:=ω;go_wp2_with (at_builtin;refine iJ eB rfl (.tmp 31) (.tmp 32) 30 rfl Tryz.underlying30 w.heap.size rfl O _ _ rfl Q ?c1 I.size ?_);case c1=>omega
     intro v' w4 aa;go_wp2;go_roundw;case rel=>exact⟨k+1,ω,γ,by rw[Z.out];exact aa.own,aa.below O I (al _) I.size⟩
     case measure=>exact μ
    ·rw[cw (by have:=D.out;omega)]at O;go_wp2;go_ret;exact⟨_,rfl,O,I⟩
def lE(v:Value)(q:Z0)(w:World)(d:ah w eB v q)(F:q.length<=1000000):Calls Tryz.prog 66 #[v] w λe w'=>∃v,e=.returned v/\Ow w' w.heap.size eB v q/\Fr w w':=by
 obtain⟨a,z,rfl,G,I,h⟩:=d.shape
 cases a with
 | none=>obtain⟨rfl,rfl⟩:=h rfl;have A:=λW=>wF (P:=Tryz.prog) W 30 5 none 0 0 0 0 Tryz.underlying30;go_in;go_wp2;go_ret;exact⟨_,rfl,Ow.nil,Fr.refl w⟩
 | some a=>
  clear h;have m:=nu eB w #[] ([]:Z0) 0 rfl σ (al w.heap.size) rfl;have D:=d.fr ((Fr.refl w).alloc (.cells #[] eB.e));have A:=λW=>wF (P:=Tryz.prog) W 30 5 (some a) q.length z 0 0 Tryz.underlying30;go_in;go_wp2_with (at_builtin;refine iJ eB rfl (.tmp 5) (.tmp 6) 30 rfl Tryz.underlying30 w.heap.size rfl m _ _ rfl D ?c1 ?c2 ?_);case c1=>simp;omega
  case c2=>simp
  intro v' w4 o;go_wp2;go_ret;exact⟨_,rfl,o.own,o.below m ((Fr.refl w).alloc _) (al _) σ⟩
def Bz:aw Tryz.prog Hd:=⟨75,1,24,⟨none,0,0⟩,.slice none 0 0,λh=>[h.v],by kernel_rfl,δ,δ,by simp[Value.cells],λ_=>rfl,by intro x u d;simp at d;subst d;rfl⟩
def X6(n:Nat)(w:World)(d:n<=2147483648):Calls Tryz.prog 227 #[.slice none 0 0,.int .i64 n] w λe w'=>∃v,e=.returned v/\Ow w' w.heap.size aO v []/\Fr w w':=by
 go_in;have A:¬(n:Int)<0:=ω
 by_cases h:n=0;·subst h;go_wp2;go_ret;exact⟨_,rfl,Ow.nil,Fr.refl w⟩
 ·have D:(0:Int)<n:=ω;obtain⟨F,G,m,o,z,I,J⟩:=Ex aO w 75 3 75 .i64 .i64 Tryz.underlying75 Tryz.underlying3 n ω d;go_wp2_with (at_builtin;refine Lib.wpList_append_run _ rfl (.tmp 20) (.tmp 21) 75 3 rfl _ _ rfl rfl _ _ m ?_);go_ret;exact⟨_,rfl,o,z⟩
def X9(v:Value)(m:List Hd)(d:List (List Hd))(w:World)(z:cO w Bz aO v m d)(hn:d.flatten.length<=1000000):Calls Tryz.prog 189 #[v] w λe w'=>∃v,e=.returned v/\Ow w' w.heap.size aO v d.flatten/\Fr w w':=by
 obtain⟨a,a7,ab,aC,ac,A⟩:=z.1.shape;unfold maxLen at ac;subst ab;have U:=z.2.1;have D:=ad U;have HN:=ad A;clear U A;have bb:d.length<=9223372036854775807:=by have:=D.out;omega
 go_in;go_wp2_with fail;go_loop [3,11] (λnv o=>∃k n:Nat,k<=m.length/\o=N k/\nv=N n/\Hid (n=(d.take k).flatten.length)) (λ_ o=>m.length-(intOf o).toNat);case atStart=>exact⟨0,0,ar _,rfl,rfl,rfl⟩
 case round=>
  obtain⟨k,n,hk,rfl,rfl,J⟩:=hrel;have bd:n<=1000000:=(by have h1:=pZ d k;have:=J.out;omega);by_cases F:k<m.length
  ·obtain⟨b,ak,ap,K,V⟩:=z.1.cell1 (λ(h:Hd)=>h.v) rfl k F;have G:k<d.length:=(by have:=D.out;omega);have Q:=z.2.2 k F G;have L:Hid (n+d[k].length=(d.take (k+1)).flatten.length):=ad (by rw[rV d k G,am,<- J.out]);have R:=pZ d (k+1);have av:n+d[k].length<=1000000:=(by have:=L.out;omega);obtain⟨a2,c2,X,_⟩:=Q.shape;generalize m[k]=h at *;obtain⟨ha,M,bm⟩:=h;simp only[Hd.v,ir]at X;obtain⟨rfl,A,rfl⟩:=X;rw[<- A]at L av;clear A R;simp only[Hd.v]at V;cases K;have i1:(0:Int)<=k:=ω;have i2:(k:Int)<m.length:=ω;have bn:=ax ((n:Int)+M) ω;have bs:¬(n:Int)+M<0:=ω;go_wp2_with fail;go_round;case rel=>exact⟨k+1,n+M,ω,γ,γ,L⟩
   case measure=>exact μ
  ·have L:Hid (n=d.flatten.length):=(by have:=J.out;rw[cw (by have:=D.out;omega)]at this;exact this);clear J;go_wp2_with fail;refine(X6 n _ ω).mono ?_;rintro e w1 ⟨v1,rfl,Y,a3⟩;go_wp2;go_loopw [6,27] (λov o wr=>∃k:Nat,k<=m.length/\o=N k/\Ow wr w.heap.size aO ov (d.take k).flatten/\Fr w wr) (λ_ o _=>m.length-(intOf o).toNat);case atStart=>exact⟨0,ar _,rfl,Y,a3⟩
   case round=>
    clear Y;obtain⟨k,bx,rfl,O,I⟩:=hrel;by_cases F:k<m.length
    ·have K:=z.fr I;obtain⟨b,ak,ap,a5,V⟩:=K.1.cell1 (λ(h:Hd)=>h.v) rfl k F;have G:k<d.length:=(by have:=D.out;omega);have Q:=K.2.2 k F G;have Z:Hid ((d.take (k+1)).flatten=(d.take k).flatten++d[k]):=rV d k G;have R:=pZ d (k+1);rw[Z.out,am]at R;generalize m[k]=h at *;cases a5;have i1:(0:Int)<=k:=ω;have i2:(k:Int)<m.length:=ω;go_wp2_with (at_builtin;refine iJ aO rfl (.tmp 31) (.tmp 32) 75 rfl Tryz.underlying75 w.heap.size rfl O _ _ rfl Q ?c1 I.size ?_);case c1=>omega
     intro v' w4 aa;go_wp2;go_roundw;case rel=>exact⟨k+1,ω,γ,by rw[Z.out];exact aa.own,aa.below O I (al _) I.size⟩
     case measure=>exact μ
    ·rw[cw (by have:=D.out;omega)]at O;go_wp2;go_ret;exact⟨_,rfl,O,I⟩
