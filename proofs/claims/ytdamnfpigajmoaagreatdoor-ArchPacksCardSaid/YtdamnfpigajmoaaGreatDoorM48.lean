/- Parts of the proof of ArchPacks: FrameO. -/
import Derived.Test.YtdamnfpigajmoaaGreatDoorM47
import Derived.Test.YtdamnfpigajmoaaGreatDoorM05
set_option linter.unusedVariables false
set_option linter.unusedSectionVars false
set_option linter.unusedSimpArgs false
set_option maxHeartbeats 8000000
set_option maxRecDepth 100000
namespace Go.Proofs.YtdamnfpigajmoaaGreatDoor
open Go.RowKit Go.Fk Go.ChangeShapes Go.WideShapes
theorem Cq{P:Program}{H:Type}{enc:TypeId × Value->H}{w:World}{base:Nat}{e:Nat->Bool}{m:Bool}{t:TypeId}{q y z A D F:Field}{O:Nat}{d:List Value}{x:DataW H × List MemPlace}(Q:P.underlying t=some (.struct #[q,y,z,A,D,F]))(h:DataW.trod enc P w base e m O t d=some x) :
  ∃ G I J K L M n,d.length=P.cellsOf t/\DataW.trod enc P w base e m n q.type ((d.drop q.offset).take (P.cellsOf q.type))=some G /\
   DataW.trod enc P w base e m n y.type ((d.drop y.offset).take (P.cellsOf y.type))=some I/\DataW.trod enc P w base e m n z.type ((d.drop z.offset).take (P.cellsOf z.type))=some J /\
   DataW.trod enc P w base e m n A.type ((d.drop A.offset).take (P.cellsOf A.type))=some K/\DataW.trod enc P w base e m n D.type ((d.drop D.offset).take (P.cellsOf D.type))=some L /\
   DataW.trod enc P w base e m n F.type ((d.drop F.offset).take (P.cellsOf F.type))=some M:=by
 obtain⟨xs,n,_,rfl,R,T,o⟩:=DataW.trod_struct Q h
 match xs,T with
 | [G,I,J,K,L,M],_=>exact⟨G,I,J,K,L,M,n,R,by simpa using o 0 q rfl,by simpa using o 1 y rfl,by simpa using o 2 z rfl,by simpa using o 3 A rfl,by simpa using o 4 D rfl,by simpa using o 5 F rfl⟩
theorem ES{H:Type}{enc:TypeId × Value->H}{w:World}{base R:Nat}{e:Nat->Bool}{m:Bool}{q:Nat}{r:Reach}{v:Value}{x:DataW H × List MemPlace}
  (hv:Value.okWide Tryz.prog w r R 23 v) (h:DataW.trod enc Tryz.prog w base e m q 23 v.cells.toList=some x):∃ o:be,v=aK o:=by
 obtain⟨⟨d⟩,rfl,y⟩:=okWide_struct Tryz.underlying23 hv;have T:Tryz.prog.cellsOf 23=6:=by kernel_rfl
 rw [T]at y;have U:d.length=6:=y;have V:DataW.trod enc Tryz.prog w base e m q 23 d=some x:=h;obtain⟨y0,y1,y2,y3,y4,y5,n,_,z,A,D,F,G,I⟩:=Cq Tryz.underlying23 V;have X:Tryz.prog.cellsOf 3=1:=by kernel_rfl
 have Y:Tryz.prog.cellsOf 4=1:=by kernel_rfl
 match d,U with
 | [v0,v1,v2,v3,v4,v5],_=>simp only [X,Y,List.drop_zero,List.drop_succ_cons,fj,gH]at z A D F G I;obtain⟨Z,J,_,_⟩:=oy Tryz.underlying3 z;obtain⟨n1,K,_⟩:=DataW.trod_bool Tryz.underlying4 A;obtain⟨n2,L,_,_⟩:=oy Tryz.underlying3 D;obtain⟨n3,M,_,_⟩:=oy Tryz.underlying3 F;obtain⟨n4,O,_,_⟩:=oy Tryz.underlying3 G;obtain⟨n5,Q,_,_⟩:=oy Tryz.underlying3 I;simp only [lZ,iR]at J K L M O Q;subst J K L M O Q;exact⟨⟨Z,n1,n2,n3,n4,n5⟩,rfl⟩
end Go.Proofs.YtdamnfpigajmoaaGreatDoor
