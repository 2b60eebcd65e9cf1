/- Lemmas for ThreeTurned. -/
import Derived.Lib.SmallJoins
import Derived.Test.YtndbpldeabnkbaaGreatDoorM34
import Derived.Test.YtndbpldeabnkbaaGreatDoorM07
set_option linter.all false
set_option maxHeartbeats 8000000
set_option maxRecDepth 100000
namespace Go.Fk
abbrev rx:=@Go.DataW.trod_int
open Go.RowKit Go.ChangeShapes Go.WideShapes Go.ChangeAt
open Go.ChangeMaps (open_string shut_string)
def Js(s:ByteArray):(Value.string s)=S s.data.toList:=by
 obtain⟨⟨l⟩⟩:=s;rfl
end Go.Fk
namespace Go.Proofs.YtndbpldeabnkbaaGreatDoor
open Go.RowKit Go.Fk Go.ChangeShapes Go.WideShapes Go.Deep
instance:Inhabited aq:=⟨⟨0,0,[],[]⟩⟩
def Ob{H:Type}{enc:TypeId × Value->H}{w:World}{base:Nat}{L:Nat->Bool}{M:Bool}{O:Nat}{m:List Value}{x:DataW H × List MemPlace}
  (h:DataW.trod enc Tryz.prog w base L M O 62 m=some x):∃r:aq,m=r.cells:=by
 obtain⟨y0,y1,y2,y3,n,_,o,z,A,D,F⟩:=Go.Joins.trod_struct4 Tryz.underlying62 h;have Q:Tryz.prog.cellsOf 62=4:=by kernel_rfl
 have R:Tryz.prog.cellsOf 60=1:=by kernel_rfl
 have U:Tryz.prog.cellsOf 5=1:=by kernel_rfl
 have V:Tryz.prog.cellsOf 9=1:=by kernel_rfl
 rw[Q]at o
 match m,o with
 | [v0,v1,v2,v3],_=>simp only[R,U,V,wD,zk,gD,lj]at z A D F;obtain⟨d,G,_,X⟩:=rx Tryz.underlying60 z;obtain⟨e,I,_,Y⟩:=rx Tryz.underlying5 A;obtain⟨Z,J,_,_⟩:=DataW.trod_string Tryz.underlying9 D;obtain⟨s3,K,_,_⟩:=DataW.trod_string Tryz.underlying9 F;simp only[q7,mr]at G I J K;subst G I J K;obtain⟨a5,a6⟩:0<=d/\d<=18446744073709551615:=(by have:=(fL _ _).mp X;exact⟨lf this.1,lf this.2⟩);obtain⟨a7,aC⟩:0<=e/\e<=255:=(by have:=(fL _ _).mp Y;exact⟨lf this.1,lf this.2⟩);refine⟨⟨UInt64.ofNat d.toNat,UInt8.ofNat e.toNat,Z.data.toList,s3.data.toList⟩,?_⟩;have a0:((UInt64.ofNat d.toNat).toNat:Int)=d:=(by rw[UInt64.toNat_ofNat'];omega);have a1:((UInt8.ofNat e.toNat).toNat:Int)=e:=(by rw[jp];omega);unfold aq.cells Fk.u8;rw[a0,a1,<- Js,<- Js]
def En{H:Type}{enc:TypeId × Value->H}{w:World}{base:Nat}{I:Nat->Bool}{J:Bool}{K:Nat}{v:Value}{x:DataW H × List MemPlace}
  (h:DataW.trod enc Tryz.prog w base I J K 24 v.cells.toList=some x) (hv:v.cells.toList=[v]):∃l,ah w eR v l:=by
 rw[hv]at h;have L:Tryz.prog.cellsOf 62=4:=by kernel_rfl
 rcases open_slice Tryz.underlying24 h with⟨o,_⟩ | ⟨a,d,M,m,n,D,Pl,o,_,hl,O,Q,_,A⟩;·simp only[q7,mr]at o;subst o;exact⟨[],ah.nil⟩
 ·simp only [q7,mr]at o;subst o;have av:d<=m:=(by rw [Q];split <;> omega);rw [L]at A;obtain ⟨R, F⟩ := choose_lt (α := aq) (p := fun i r => ∀ j, j < 4 → w.cell? (a.add (i * 4 + j)) = r.cells[j]?) (fun i U => by
    obtain ⟨a0, V, X⟩ := A i U;obtain ⟨_, _, Y⟩ := World.cells?_some V;obtain ⟨r, rfl⟩ := Ob X
    exact ⟨r, λj e => by rw[← Addr.add_add]; exact Y j e⟩)
  refine⟨(List.range d).map R,?_⟩;have z:((List.range d).map R).length=d:=σ;refine⟨eR.length_cells _,some a,M,by rw[z],ω,O,σ,?_⟩;by_cases Z:d=0;·exact .inl (by rw[z,Z])
  ·right;have aa:=F 0 ω 0 ω;obtain⟨b,ab,ac⟩:=a;have aj:ac=none:=(by simpa [Addr.add] using World.cell?_spot aa);subst aj;refine⟨b,ab,rfl,λj u e=>?_⟩;have a1:j<d*4:=(by have:=(pD.1 e).1;rw[eR.length_cells,z]at this;exact this);have G:=F (j / 4) ω (j%4) ω;rw[mY,show j / 4*4+j%4=j by omega]at G;rw[G];have:=eR.cells_at ((List.range d).map R) (j / 4) (by rw[z];omega) (j%4) (show j%4<4 by omega);rw[show j / 4*eR.k+j%4=j by show j / 4*4+j%4=j;omega]at this;rw[this]at e;simp at e;exact e
open Go.RowKit Go.Fk Go.ChangeShapes Go.WideShapes
def Lk{P:Program}{H:Type}{enc:TypeId × Value->H}{w:World}{base:Nat}{e:Nat->Bool}{m:Bool}{t:TypeId}{z A D F G I:Field}{R:Nat}{d:List Value}{x:DataW H × List MemPlace}(U:P.underlying t=some (.struct #[z,A,D,F,G,I]))(h:DataW.trod enc P w base e m R t d=some x):∃J K L M O Q n,d.length=P.cellsOf t/\DataW.trod enc P w base e m n z.type ((d.drop z.offset).take (P.cellsOf z.type))=some J /\
   DataW.trod enc P w base e m n A.type ((d.drop A.offset).take (P.cellsOf A.type))=some K/\DataW.trod enc P w base e m n D.type ((d.drop D.offset).take (P.cellsOf D.type))=some L /\
   DataW.trod enc P w base e m n F.type ((d.drop F.offset).take (P.cellsOf F.type))=some M/\DataW.trod enc P w base e m n G.type ((d.drop G.offset).take (P.cellsOf G.type))=some O /\
   DataW.trod enc P w base e m n I.type ((d.drop I.offset).take (P.cellsOf I.type))=some Q:=by
 obtain⟨xs,n,_,rfl,V,X,o⟩:=DataW.trod_struct U h
 match xs,X with
 | [J,K,L,M,O,Q],_=>exact⟨J,K,L,M,O,Q,n,V,by simpa using o 0 z rfl,by simpa using o 1 A rfl,by simpa using o 2 D rfl,by simpa using o 3 F rfl,by simpa using o 4 G rfl,by simpa using o 5 I rfl⟩
def Ff{H:Type}{enc:TypeId × Value->H}{w:World}{base V:Nat}{e:Nat->Bool}{m:Bool}{z:Nat}{r:Reach}{v:Value}{x:DataW H × List MemPlace}
  (hv:Value.okWide Tryz.prog w r V 23 v) (h:DataW.trod enc Tryz.prog w base e m z 23 v.cells.toList=some x):∃o:dV,v=fq o:=by
 obtain⟨⟨d⟩,rfl,A⟩:=okWide_struct Tryz.underlying23 hv;have X:Tryz.prog.cellsOf 23=6:=by kernel_rfl
 rw[X]at A;have Y:d.length=6:=A;have Z:DataW.trod enc Tryz.prog w base e m z 23 d=some x:=h;obtain⟨y0,y1,y2,y3,y4,y5,n,_,D,F,G,I,J,K⟩:=Lk Tryz.underlying23 Z;have ki:Tryz.prog.cellsOf 3=1:=by kernel_rfl
 have kb:Tryz.prog.cellsOf 4=1:=by kernel_rfl
 match d,Y with
 | [v0,v1,v2,v3,v4,v5],_=>simp only[ki,kb,wD,zk,gD,lj]at D F G I J K;obtain⟨n0,L,_,_⟩:=rx Tryz.underlying3 D;obtain⟨n1,M,_⟩:=DataW.trod_bool Tryz.underlying4 F;obtain⟨n2,O,_,_⟩:=rx Tryz.underlying3 G;obtain⟨n3,Q,_,_⟩:=rx Tryz.underlying3 I;obtain⟨n4,R,_,_⟩:=rx Tryz.underlying3 J;obtain⟨n5,U,_,_⟩:=rx Tryz.underlying3 K;simp only[q7,mr]at L M O Q R U;subst L M O Q R U;exact⟨⟨n0,n1,n2,n3,n4,n5⟩,rfl⟩
open Go.RowKit Go.Fk Go.ChangeShapes Go.WideShapes Go.Deep
structure Tn where
 at_:UInt16
 by_:UInt8
instance:Inhabited Tn:=⟨⟨0,0⟩⟩
def qd:aw Tryz.prog Tn:=⟨66,2,4,⟨0,0⟩,.agg #[.int .u16 0,.int .u8 0],λt=>[.int .u16 (t.at_.toNat:Int),Fk.u8 t.by_],by kernel_rfl,δ,δ,by simp[Value.cells],λ_=>rfl,by intro x u d;simp only[gR,iU,or_false]at d;rcases d with rfl | rfl <;> rfl⟩
def Lt{w:World}{v:Value}{l:List Tn}(h:ah w qd v l)(k:Nat)(m:k<l.length):∃b d o,v=.slice (some ⟨b,d,none⟩) l.length o/\w.cell? ⟨b,d+k*2,none⟩=some (.int .u16 (l[k].at_.toNat:Int))/\w.cell? ⟨b,d+k*2+1,none⟩=some (Fk.u8 l[k].by_):=by
 obtain⟨b,d,o,rfl,A,D,z⟩:=h.cells (by intro e;simp[e]at m);exact⟨b,d,o,rfl,z k m 0 δ _ rfl,z k m 1 δ _ rfl⟩
def Ls{H:Type}{enc:TypeId × Value->H}{w:World}{base:Nat}{G:Nat->Bool}{I:Bool}{J:Nat}{m:List Value}{x:DataW H × List MemPlace}
  (h:DataW.trod enc Tryz.prog w base G I J 66 m=some x):∃r:Tn,m=[.int .u16 (r.at_.toNat:Int),Fk.u8 r.by_]:=by
 obtain⟨U,V,n,_,o,z,A⟩:=trod_struct2 Tryz.underlying66 h;have c2:Tryz.prog.cellsOf 66=2:=by kernel_rfl
 have K:Tryz.prog.cellsOf 64=1:=by kernel_rfl
 have L:Tryz.prog.cellsOf 5=1:=by kernel_rfl
 rw[c2]at o
 match m,o with
 | [X,Y],_=>simp only[K,L,wD,zk,gD,lj]at z A;obtain⟨d,D,_,M⟩:=rx Tryz.underlying64 z;obtain⟨e,F,_,O⟩:=rx Tryz.underlying5 A;simp only[q7,mr]at D F;subst D F;obtain⟨Z,aa⟩:0<=d/\d<=65535:=(by have:=(fL _ _).mp M;exact⟨lf this.1,lf this.2⟩);obtain⟨ab,ac⟩:0<=e/\e<=255:=(by have:=(fL _ _).mp O;exact⟨lf this.1,lf this.2⟩);refine⟨⟨UInt16.ofNat d.toNat,UInt8.ofNat e.toNat⟩,?_⟩;have Q:((UInt16.ofNat d.toNat).toNat:Int)=d:=(by rw[UInt16.toNat_ofNat'];omega);have R:((UInt8.ofNat e.toNat).toNat:Int)=e:=(by rw[jp];omega);unfold Fk.u8;rw[Q,R]
def No{H:Type}{enc:TypeId × Value->H}{w:World}{base:Nat}{I:Nat->Bool}{J:Bool}{K:Nat}{v:Value}{x:DataW H × List MemPlace}
  (h:DataW.trod enc Tryz.prog w base I J K 41 v.cells.toList=some x) (hv:v.cells.toList=[v]):∃l,ah w qd v l:=by
 rw[hv]at h;have c2:Tryz.prog.cellsOf 66=2:=by kernel_rfl
 rcases open_slice Tryz.underlying41 h with⟨o,_⟩ | ⟨a,d,L,m,n,D,Pl,o,_,hl,M,O,_,A⟩;·simp only[q7,mr]at o;subst o;exact⟨[],ah.nil⟩
 ·simp only [q7,mr]at o;subst o;have ap:d<=m:=(by rw [O];split <;> omega);rw [c2]at A;obtain ⟨R, F⟩ := choose_lt (α := Tn) (p := fun i r => ∀ j, j < 2 → w.cell? (a.add (i * 2 + j)) = ([Value.int .u16 (r.at_.toNat : Int), Fk.u8 r.by_] : List Value)[j]?) (fun i Q => by
    obtain ⟨av, U, V⟩ := A i Q;obtain ⟨_, _, X⟩ := World.cells?_some U;obtain ⟨r, rfl⟩ := Ls V
    exact ⟨r, λj e => by rw[← Addr.add_add]; exact X j e⟩)
  refine⟨(List.range d).map R,?_⟩;have z:((List.range d).map R).length=d:=σ;refine⟨qd.length_cells _,some a,L,by rw[z],ω,M,σ,?_⟩;by_cases Y:d=0;·exact .inl (by rw[z,Y])
  ·right;have Z:=F 0 ω 0 ω;obtain⟨b,aa,ab⟩:=a;have ac:ab=none:=(by simpa [Addr.add] using World.cell?_spot Z);subst ac;refine⟨b,aa,rfl,λj u e=>?_⟩;have a0:j<d*2:=(by have:=(pD.1 e).1;rw[qd.length_cells,z]at this;exact this);have G:=F (j / 2) ω (j%2) ω;rw[mY,show j / 2*2+j%2=j by omega]at G;rw[G];have:=qd.cells_at ((List.range d).map R) (j / 2) (by rw[z];omega) (j%2) (show j%2<2 by omega);rw[show j / 2*qd.k+j%2=j by show j / 2*2+j%2=j;omega]at this;rw[this]at e;simp at e;exact e
