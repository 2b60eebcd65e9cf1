/- Parts of the proof of ArchOne: FrameO. -/
import Derived.Test.YtdagmoonnbnceaaGreatDoorM47
import Derived.Test.YtdagmoonnbnceaaGreatDoorM37
set_option linter.unusedVariables false
set_option linter.unusedSectionVars false
set_option linter.unusedSimpArgs false
set_option maxHeartbeats 8000000
set_option maxRecDepth 100000
namespace Go.Proofs.YtdagmoonnbnceaaGreatDoor
open Go.RowKit Go.Fk Go.ChangeShapes Go.WideShapes
theorem trod_struct6{P:Program}{H:Type}{enc:TypeId × Value->H}{w:World}{base:Nat}{spare:Nat->Bool}{held:Bool}{t:TypeId}{f0 f1 f2 f3 f4 f5:Field}{fuel:Nat}{cs:List Value}{x:DataW H × List MemPlace}(ht:P.underlying t=some (.struct #[f0,f1,f2,f3,f4,f5]))(h:DataW.trod enc P w base spare held fuel t cs=some x) :
  ∃ y0 y1 y2 y3 y4 y5 n,cs.length=P.cellsOf t/\DataW.trod enc P w base spare held n f0.type ((cs.drop f0.offset).take (P.cellsOf f0.type))=some y0 /\
   DataW.trod enc P w base spare held n f1.type ((cs.drop f1.offset).take (P.cellsOf f1.type))=some y1/\DataW.trod enc P w base spare held n f2.type ((cs.drop f2.offset).take (P.cellsOf f2.type))=some y2 /\
   DataW.trod enc P w base spare held n f3.type ((cs.drop f3.offset).take (P.cellsOf f3.type))=some y3/\DataW.trod enc P w base spare held n f4.type ((cs.drop f4.offset).take (P.cellsOf f4.type))=some y4 /\
   DataW.trod enc P w base spare held n f5.type ((cs.drop f5.offset).take (P.cellsOf f5.type))=some y5:=by
 obtain⟨xs,n,_,rfl,hl,hlen,hf⟩:=DataW.trod_struct ht h
 match xs,hlen with
 | [y0,y1,y2,y3,y4,y5],_=>exact⟨y0,y1,y2,y3,y4,y5,n,hl,by simpa using hf 0 f0 rfl,by simpa using hf 1 f1 rfl,by simpa using hf 2 f2 rfl,by simpa using hf 3 f3 rfl,by simpa using hf 4 f4 rfl,by simpa using hf 5 f5 rfl⟩
theorem opt_of{H:Type}{enc:TypeId × Value->H}{w:World}{base b0:Nat}{spare:Nat->Bool}{held:Bool}{fuel:Nat}{r:Reach}{v:Value}{x:DataW H × List MemPlace}
  (hv:Value.okWide Tryz.prog w r b0 23 v) (h:DataW.trod enc Tryz.prog w base spare held fuel 23 v.cells.toList=some x):∃ o:Opt,v=optV o:=by
 obtain⟨⟨cs⟩,rfl,hsz⟩:=okWide_struct Tryz.underlying23 hv
 have c6:Tryz.prog.cellsOf 23=6:=by kernel_rfl
 rw [c6]at hsz
 have hcs:cs.length=6:=hsz
 have h':DataW.trod enc Tryz.prog w base spare held fuel 23 cs=some x:=h
 obtain⟨y0,y1,y2,y3,y4,y5,n,_,h0,h1,h2,h3,h4,h5⟩:=trod_struct6 Tryz.underlying23 h'
 have ki:Tryz.prog.cellsOf 3=1:=by kernel_rfl
 have kb:Tryz.prog.cellsOf 4=1:=by kernel_rfl
 match cs,hcs with
 | [v0,v1,v2,v3,v4,v5],_=>
  simp only [ki,kb,List.drop_zero,List.drop_succ_cons,List.take_succ_cons,List.take_zero]at h0 h1 h2 h3 h4 h5
  obtain⟨n0,e0,_,_⟩:=DataW.trod_int Tryz.underlying3 h0
  obtain⟨n1,e1,_⟩:=DataW.trod_bool Tryz.underlying4 h1
  obtain⟨n2,e2,_,_⟩:=DataW.trod_int Tryz.underlying3 h2
  obtain⟨n3,e3,_,_⟩:=DataW.trod_int Tryz.underlying3 h3
  obtain⟨n4,e4,_,_⟩:=DataW.trod_int Tryz.underlying3 h4
  obtain⟨n5,e5,_,_⟩:=DataW.trod_int Tryz.underlying3 h5
  simp only [List.cons.injEq,and_true]at e0 e1 e2 e3 e4 e5
  subst e0 e1 e2 e3 e4 e5
  exact⟨⟨n0,n1,n2,n3,n4,n5⟩,rfl⟩
end Go.Proofs.YtdagmoonnbnceaaGreatDoor
