/- Parts of the proof of ArchPacks: FrameR. -/
import Derived.Test.YtdamnfpigajmoaaGreatDoorM46
import Derived.Test.YtdamnfpigajmoaaGreatDoorM01
import Derived.Lib.SmallJoins
import Derived.Deep.Slices
set_option linter.unusedVariables false
set_option linter.unusedSectionVars false
set_option linter.unusedSimpArgs false
set_option maxHeartbeats 8000000
set_option maxRecDepth 100000
namespace Go.Fk
abbrev of:=@of_decide_eq_true
abbrev pKQb:=@UInt64.toNat_ofNat'
abbrev oy:=@Go.DataW.trod_int
end Go.Fk
namespace Go.Proofs.YtdamnfpigajmoaaGreatDoor
open Go.RowKit Go.Fk Go.ChangeShapes Go.WideShapes Go.Deep
instance:Inhabited am:=⟨⟨0,0,[],[]⟩⟩
theorem Eh{H:Type}{enc:TypeId × Value->H}{w:World}{base:Nat}{J:Nat->Bool}{K:Bool}{L:Nat}{m:List Value}{x:DataW H × List MemPlace}
  (h:DataW.trod enc Tryz.prog w base J K L 37 m=some x):∃ r:am,m=r.cells:=by
 obtain⟨y0,y1,y2,y3,n,_,o,q,y,z,A⟩:=Go.Joins.trod_struct4 Tryz.underlying37 h;have M:Tryz.prog.cellsOf 37=4:=by kernel_rfl
 have O:Tryz.prog.cellsOf 35=1:=by kernel_rfl
 have Q:Tryz.prog.cellsOf 5=1:=by kernel_rfl
 have R:Tryz.prog.cellsOf 9=1:=by kernel_rfl
 rw [M]at o
 match m,o with
 | [v0,v1,v2,v3],_=>simp only [O,Q,R,List.drop_zero,List.drop_succ_cons,fj,gH]at q y z A;obtain⟨d,D,_,T⟩:=oy Tryz.underlying35 q;obtain⟨e,F,_,U⟩:=oy Tryz.underlying5 y;obtain⟨V,G,_,_⟩:=DataW.trod_string Tryz.underlying9 z;obtain⟨X,I,_,_⟩:=DataW.trod_string Tryz.underlying9 A;simp only [lZ,iR]at D F G I;subst D F G I;obtain⟨a4,a5⟩:0<=d/\d<=18446744073709551615:=(by have:=(f8 _ _).mp T;exact⟨of this.1,of this.2⟩);obtain⟨a6,a7⟩:0<=e/\e<=255:=(by have:=(f8 _ _).mp U;exact⟨of this.1,of this.2⟩);refine⟨⟨UInt64.ofNat d.toNat,UInt8.ofNat e.toNat,V.data.toList,X.data.toList⟩,?_⟩;have Y:((UInt64.ofNat d.toNat).toNat:Int)=d:=(by rw [pKQb];omega);have Z:((UInt8.ofNat e.toNat).toNat:Int)=e:=(by rw [jL];omega);unfold am.cells Fk.u8;rw [Y,Z,<- AL,<- AL]
theorem D4{H:Type}{enc:TypeId × Value->H}{w:World}{base:Nat}{F:Nat->Bool}{G:Bool}{I:Nat}{v:Value}{x:DataW H × List MemPlace}
  (h:DataW.trod enc Tryz.prog w base F G I 24 v.cells.toList=some x) (hv:v.cells.toList=[v]):∃ l,af w eR v l:=by
 rw [hv]at h;have J:Tryz.prog.cellsOf 37=4:=by kernel_rfl
 rcases open_slice Tryz.underlying24 h with⟨o,_⟩ | ⟨a,d,K,m,n,D,Pl,o,_,hl,L,M,_,y⟩;· simp only [lZ,iR]at o;subst o;exact⟨[],af.nil⟩
 · simp only [lZ,iR]at o;subst o;have aj:d<=m:=(by rw [M];split <;> omega);rw [J]at y;obtain ⟨R, z⟩ := choose_lt (α := am) (p := fun i r => ∀ j, j < 4 → w.cell? (a.add (i * 4 + j)) = r.cells[j]?) (fun i O => by
    obtain ⟨av, Q, T⟩ := y i O;obtain ⟨_, _, U⟩ := World.cells?_some Q;obtain ⟨r, rfl⟩ := Eh T
    exact ⟨r, fun j e => by rw [← Addr.add_add]; exact U j e⟩)
   refine⟨(List.range d).map R,?_⟩;have q:((List.range d).map R).length=d:=(by simp);refine⟨eR.length_cells _,some a,K,by rw [q],by omega,L,by simp,?_⟩;by_cases V:d=0;· exact .inl (by rw [q,V])
   · right;have X:=z 0 (by omega) 0 (by omega);obtain⟨b,Y,Z⟩:=a;have aa:Z=none:=(by simpa [Addr.add] using World.cell?_spot X);subst aa;refine⟨b,Y,rfl,fun j u e=>?_⟩;have a0:j<d*4:=(by have:=(pS.1 e).1;rw [eR.length_cells,q]at this;exact this);have A:=z (j / 4) (by omega) (j % 4) (by omega);rw [me,show j / 4*4+j % 4=j by omega]at A;rw [A];have:=eR.cells_at ((List.range d).map R) (j / 4) (by rw [q];omega) (j % 4) (show j % 4<4 by omega);rw [show j / 4*eR.k+j % 4=j by show j / 4*4+j % 4=j;omega]at this;rw [this]at e;simp at e;exact e
end Go.Proofs.YtdamnfpigajmoaaGreatDoor
