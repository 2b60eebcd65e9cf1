/- Lemmas. -/
import Derived.Test.YtmcaneofjlhhmaaGreatDoorM01
import Derived.Test.YtmcaneofjlhhmaaGreatDoorM02
set_option linter.all false
set_option maxHeartbeats 8000000
set_option maxRecDepth 100000
namespace Go.Fk
abbrev aA:=@Go.IntWalk.i64_in
abbrev sL:=@Go.Lib.run_eql_slice_nil
end Go.Fk
namespace Go.Proofs
open RowKit Fk Tryz
def aS:aJ prog Hd:=⟨22,1,24,⟨none,0,0⟩,.slice none 0 0,λh=>[h.v],by kernel_rfl,δ,δ,by simp[Value.cells],λ_=>rfl,by intro x u d;simp at d;subst d;rfl⟩
def F5(n:Nat)(w:World)(d:n<=2147483648):Calls prog 169 #[.slice none 0 0,.int .i64 n] w λe w'=>∃v,e=.returned v/\Ow w' w.heap.size eB v []/\Fr w w':=by
 go_in;have q:¬(n:Int)<0:=ω
 by_cases h:n=0;·subst h;go_wp2;go_ret;exact⟨_,rfl,Ow.nil,Fr.refl w⟩
 ·have z:(0:Int)<n:=ω;obtain⟨A,D,m,o,p,F,G⟩:=Be eB w 22 3 22 .i64 .i64 sJ underlying3 n ω d;go_wp2_with (at_builtin;refine Lib.wpList_append_run _ rfl (.tmp 20) (.tmp 21) 22 3 rfl _ _ rfl rfl _ _ m ?_);go_ret;exact⟨_,rfl,o,p⟩
def Rf(d:List U0):Nat:=d.flatten.length
def F6(v:Value)(m:List Hd)(d:List U0)(w:World)(p:cV w aS eB v m d)(hn:d.flatten.length<=1000000):Calls prog 105 #[v] w λe w'=>∃v,e=.returned v/\Ow w' w.heap.size eB v d.flatten/\Fr w w':=by
 obtain⟨a,av,Y,az,Z,q⟩:=p.1.shape;unfold maxLen at Z;subst Y;have Q:=p.2.1;have z:=ad Q;have HN:=ad q;clear Q q;have a1:d.length<=9223372036854775807:=by have:=z.out;omega
 go_in;go_wp2_with fail;go_loop [3,11] (λnv o=>∃k n:Nat,k<=m.length/\o=N k/\nv=N n/\Hid (n=(d.take k).flatten.length)) (λ_ o=>m.length-(intOf o).toNat);·exact⟨0,0,ax _,rfl,rfl,rfl⟩
 ·
  obtain⟨k,n,hk,rfl,rfl,G⟩:=hrel;have a4:n<=1000000:=(by have h1:=mW d k;have:=G.out;omega);by_cases A:k<m.length
  ·obtain⟨b,ab,ac,I,R⟩:=p.1.cell1 (λ(h:Hd)=>h.v) rfl k A;have D:k<d.length:=(by have:=z.out;omega);have M:=p.2.2 k A D;have J:Hid (n+d[k].length=(d.take (k+1)).flatten.length):=ad (by rw[oY d k D,aM,<- G.out]);have O:=mW d (k+1);have ah:n+d[k].length<=1000000:=(by have:=J.out;omega);obtain⟨a2,c2,U,_⟩:=M.shape;generalize m[k]=h at *;obtain⟨ha,K,a8⟩:=h;simp only[Hd.v,dt]at U;obtain⟨rfl,q,rfl⟩:=U;rw[<- q]at J ah;clear q O;simp only[Hd.v]at R;cases I;have i1:(0:Int)<=k:=ω;have i2:(k:Int)<m.length:=ω;have a9:=aA ((n:Int)+K) ω;have aC:¬(n:Int)+K<0:=ω;go_wp2_with fail;go_round;·exact⟨k+1,n+K,ω,γ,γ,J⟩
   ·exact μ
  ·have J:Hid (n=d.flatten.length):=(by have:=G.out;rw[dN (by have:=z.out;omega)]at this;exact this);clear G;go_wp2_with fail;refine(F5 n _ ω).mono ?_;rintro e w1 ⟨v1,rfl,V,ak⟩;go_wp2;go_loopw [6,27] (λov o wr=>∃k:Nat,k<=m.length/\o=N k/\Ow wr w.heap.size eB ov (d.take k).flatten/\Fr w wr) (λ_ o _=>m.length-(intOf o).toNat);·exact⟨0,ax _,rfl,V,ak⟩
   ·
    clear V;obtain⟨k,bc,rfl,L,F⟩:=hrel;by_cases A:k<m.length
    ·have I:=p.fr F;obtain⟨b,ab,ac,am,R⟩:=I.1.cell1 (λ(h:Hd)=>h.v) rfl k A;have D:k<d.length:=(by have:=z.out;omega);have M:=I.2.2 k A D;have W:Hid ((d.take (k+1)).flatten=(d.take k).flatten++d[k]):=oY d k D;have O:=mW d (k+1);rw[W.out,aM]at O;generalize m[k]=h at *;cases am;have i1:(0:Int)<=k:=ω;have i2:(k:Int)<m.length:=ω;go_wp2_with (at_builtin;refine fT eB rfl (.tmp 31) (.tmp 32) 22 rfl sJ w.heap.size rfl L _ _ rfl M ?c1 F.size ?_);case c1=>omega
     intro v' w4 X;go_wp2;go_roundw;·exact⟨k+1,ω,γ,by rw[W.out];exact X.own,X.below L F (au _) F.size⟩
     ·exact μ
    ·rw[dN (by have:=z.out;omega)]at L;go_wp2;go_ret;exact⟨_,rfl,L,F⟩
def jY(v:Value)(q:U0)(w:World)(d:ao w eB v q)(D:q.length<=1000000):Calls prog 98 #[v] w λe w'=>∃v,e=.returned v/\Ow w' w.heap.size eB v q/\Fr w w':=by
 obtain⟨a,p,rfl,F,G,h⟩:=d.shape
 cases a with
 | none=>obtain⟨rfl,rfl⟩:=h rfl;have z:=λW=>sL (P:=prog) W 22 5 none 0 0 0 0 sJ;go_in;go_wp2;go_ret;exact⟨_,rfl,Ow.nil,Fr.refl w⟩
 | some a=>
  clear h;have m:=md eB w #[] ([]:U0) 0 rfl σ (au w.heap.size) rfl;have A:=d.fr ((Fr.refl w).alloc (.cells #[] eB.e));have z:=λW=>sL (P:=prog) W 22 5 (some a) q.length p 0 0 sJ;go_in;go_wp2_with (at_builtin;refine fT eB rfl (.tmp 5) (.tmp 6) 22 rfl sJ w.heap.size rfl m _ _ rfl A ?c1 ?c2 ?_);case c1=>simp;omega
  case c2=>simp
  intro v' w4 o;go_wp2;go_ret;exact⟨_,rfl,o.own,o.below m ((Fr.refl w).alloc _) (au _) σ⟩
def yj:aJ prog Hd:=⟨42,1,24,⟨none,0,0⟩,.slice none 0 0,λh=>[h.v],by kernel_rfl,δ,δ,by simp[Value.cells],λ_=>rfl,by intro x u d;simp at d;subst d;rfl⟩
def QD(n:Nat)(w:World)(d:n<=2147483648):Calls prog 289 #[.slice none 0 0,.int .i64 n] w λe w'=>∃v,e=.returned v/\Ow w' w.heap.size aS v []/\Fr w w':=by
 go_in;have q:¬(n:Int)<0:=ω
 by_cases h:n=0;·subst h;go_wp2;go_ret;exact⟨_,rfl,Ow.nil,Fr.refl w⟩
 ·have z:(0:Int)<n:=ω;obtain⟨A,D,m,o,p,F,G⟩:=Be aS w 42 3 42 .i64 .i64 uAE underlying3 n ω d;go_wp2_with (at_builtin;refine Lib.wpList_append_run _ rfl (.tmp 20) (.tmp 21) 42 3 rfl _ _ rfl rfl _ _ m ?_);go_ret;exact⟨_,rfl,o,p⟩
def QG(v:Value)(m:List Hd)(d:List (List Hd))(w:World)(p:cV w yj aS v m d)(hn:d.flatten.length<=1000000):Calls prog 244 #[v] w λe w'=>∃v,e=.returned v/\Ow w' w.heap.size aS v d.flatten/\Fr w w':=by
 obtain⟨a,av,Y,az,Z,q⟩:=p.1.shape;unfold maxLen at Z;subst Y;have Q:=p.2.1;have z:=ad Q;have HN:=ad q;clear Q q;have a1:d.length<=9223372036854775807:=by have:=z.out;omega
 go_in;go_wp2_with fail;go_loop [3,11] (λnv o=>∃k n:Nat,k<=m.length/\o=N k/\nv=N n/\Hid (n=(d.take k).flatten.length)) (λ_ o=>m.length-(intOf o).toNat);·exact⟨0,0,ax _,rfl,rfl,rfl⟩
 ·
  obtain⟨k,n,hk,rfl,rfl,G⟩:=hrel;have a4:n<=1000000:=(by have h1:=mW d k;have:=G.out;omega);by_cases A:k<m.length
  ·obtain⟨b,ab,ac,I,R⟩:=p.1.cell1 (λ(h:Hd)=>h.v) rfl k A;have D:k<d.length:=(by have:=z.out;omega);have M:=p.2.2 k A D;have J:Hid (n+d[k].length=(d.take (k+1)).flatten.length):=ad (by rw[oY d k D,aM,<- G.out]);have O:=mW d (k+1);have ah:n+d[k].length<=1000000:=(by have:=J.out;omega);obtain⟨a2,c2,U,_⟩:=M.shape;generalize m[k]=h at *;obtain⟨ha,K,a8⟩:=h;simp only[Hd.v,dt]at U;obtain⟨rfl,q,rfl⟩:=U;rw[<- q]at J ah;clear q O;simp only[Hd.v]at R;cases I;have i1:(0:Int)<=k:=ω;have i2:(k:Int)<m.length:=ω;have a9:=aA ((n:Int)+K) ω;have aC:¬(n:Int)+K<0:=ω;go_wp2_with fail;go_round;·exact⟨k+1,n+K,ω,γ,γ,J⟩
   ·exact μ
  ·have J:Hid (n=d.flatten.length):=(by have:=G.out;rw[dN (by have:=z.out;omega)]at this;exact this);clear G;go_wp2_with fail;refine(QD n _ ω).mono ?_;rintro e w1 ⟨v1,rfl,V,ak⟩;go_wp2;go_loopw [6,27] (λov o wr=>∃k:Nat,k<=m.length/\o=N k/\Ow wr w.heap.size aS ov (d.take k).flatten/\Fr w wr) (λ_ o _=>m.length-(intOf o).toNat);·exact⟨0,ax _,rfl,V,ak⟩
   ·
    clear V;obtain⟨k,bc,rfl,L,F⟩:=hrel;by_cases A:k<m.length
    ·have I:=p.fr F;obtain⟨b,ab,ac,am,R⟩:=I.1.cell1 (λ(h:Hd)=>h.v) rfl k A;have D:k<d.length:=(by have:=z.out;omega);have M:=I.2.2 k A D;have W:Hid ((d.take (k+1)).flatten=(d.take k).flatten++d[k]):=oY d k D;have O:=mW d (k+1);rw[W.out,aM]at O;generalize m[k]=h at *;cases am;have i1:(0:Int)<=k:=ω;have i2:(k:Int)<m.length:=ω;go_wp2_with (at_builtin;refine fT aS rfl (.tmp 31) (.tmp 32) 42 rfl uAE w.heap.size rfl L _ _ rfl M ?c1 F.size ?_);case c1=>omega
     intro v' w4 X;go_wp2;go_roundw;·exact⟨k+1,ω,γ,by rw[W.out];exact X.own,X.below L F (au _) F.size⟩
     ·exact μ
    ·rw[dN (by have:=z.out;omega)]at L;go_wp2;go_ret;exact⟨_,rfl,L,F⟩
