/- The law ArchEnds holds: whatever the options and the log. -/
import Derived.Test.YtfpijnhhdfoohaaGreatDoorRows
import Derived.Test.YtfpijnhhdfoohaaGreatDoorCards
import Derived.Test.YtfpijnhhdfoohaaGreatDoorTie
import Derived.Test.YtfpijnhhdfoohaaGreatDoorM47
import Derived.Test.YtfpijnhhdfoohaaGreatDoorM48
import Derived.Test.YtfpijnhhdfoohaaGreatDoorM49
set_option linter.unusedVariables false
set_option linter.unusedSectionVars false
set_option linter.unusedSimpArgs false
set_option maxHeartbeats 8000000
set_option maxRecDepth 100000
namespace Go.Proofs.YtfpijnhhdfoohaaGreatDoor.archEndsDone
open Go.RowKit Go.Fk Go.ChangeShapes Go.WideShapes Go.ChangeAt
open Go.ChangeMaps (open_string shut_string)
theorem own:ownKnob Tryz.prog.godebug=none:=by kernel_rfl
theorem laidOut:laidOutB Tryz.prog=true:=by kernel_rfl
def wit:Array Value:=#[.slice none 0 0]
theorem laid_met(os:Os):laidMetH Tryz.prog Rows.archEndsRow.laid ((xU os wit).forCall (fun _ _=>0) ⟨#[],wit,[]⟩).memory:=
 laidMet_of_run' 8 (by kernel_rfl) (by kernel_rfl)
theorem tabs{W:World}(h:laidMetH Tryz.prog Rows.archEndsRow.laid W):bK W:=by
 have d:∃ e,DataW.LaidVars Tryz.prog W Rows.archEndsRow.laid e:=⟨_,h.choose_spec.1⟩;obtain⟨_,d⟩:=d;exact OV (rest:=[]) d
theorem lifted (os : Os) (M : os.Started) (H : Type) (enc : TypeId × Value → H) (F : Stop.Interp) :
    ReturnsInHanded {} Tryz.checked os 3 .any ((OpenSpec.ofChange Rows.archEndsSpec).preRow enc Tryz.prog Tryz.f3 Rows.archEndsRow.domain false Rows.archEndsRow.laid) (((OpenSpec.ofChange Rows.archEndsSpec).at F).post enc Tryz.prog Tryz.f3 false true false false):=by
  obtain⟨d,O⟩:∃ d,DataW.whole enc Tryz.prog ((xU os wit).forCall (fun _ _=>0) ⟨#[],wit,[]⟩).memory Tryz.f3.params.toList Rows.archEndsSpec.vars false wit.toList 8=some ([.nil],[],d):=⟨[],by kernel_rfl⟩
  refine returnsInHanded_of_row (C:=Tryz.checked) (s:=OpenSpec.ofChange Rows.archEndsSpec) own M (by kernel_rfl) Tryz.func3
    (witness_row_at (enc := enc) (C := Tryz.checked) false (xU os wit) wit rfl (by kernel_rfl) (by kernel_rfl) (by kernel_rfl)
      (OpenSpec.preRow_of_cond 8 O (by kernel_rfl) (fun k Q => by cases Q) (by kernel_rfl) (laid_met os))) ?_
  intro W base args R gs a7 o z _ _ _ U _ _;have V:=tabs U;have B:∀ (j:Nat) t v,Tryz.f3.params[j]?=some t->args[j]?=some v->Value.okWide Tryz.prog W .any base t v:=o;have X:=z;obtain⟨p,q,D,Y,rfl,aC,ba⟩:=z;have G:DataW.TrodAll enc Tryz.prog W 0 (fun _=>true) true Tryz.f3.params.toList args.toList R p:=D;rw [Tryz.params3]at G B;obtain⟨I,bb,d0,bd,Z,q0,bk,rfl,rfl,J,r0⟩:=trodAll_cons G;obtain⟨rfl,rfl,rfl⟩:=trodAll_nil r0;obtain rfl:args=#[I]:=(by cases args;simp_all);obtain⟨rfl,rfl⟩:=trodVars_none Y;obtain⟨a0,ac,aj,rfl⟩:=okWide_slice Tryz.underlying22 (B 0 22 I rfl rfl);have K:=J;have ak:∀ x∈Z,x.block<W.heap.size:=(by obtain⟨m,hm⟩:=K;exact DataW.trod_lt m _ _ _ hm);obtain⟨l0,a1⟩:∃ l,ai W eB (.slice a0 ac aj) l:=(by obtain⟨bl,hf⟩:=J;exact IN eB rfl Tryz.underlying22 Tryz.underlying5 (by kernel_rfl) hf rfl);clear D o;refine(SD _ l0 W V a1).mono fun e W' ⟨he,a5⟩=>?_;subst he;have L:Below W.heap.size W W':=a5;exact⟨_,rfl,_,_,_,[],_,[],X,trodAll_mk1 (shut_bool Tryz.underlying4 _),(trodAll_cons_mk (Below.trod laidOut (by kernel_rfl) (of_decide_eq_true (by kernel_rfl)) K L ak) trodAll_mk0),rfl,L.frame _,fun h=>by cases h⟩
theorem said:Rows.ArchEndsSaid:=
 OpenClaim.holds_of_cond 3 Tryz.f3 rfl rfl rfl rfl rfl rfl rfl ⟨rfl, rfl, rfl, rfl, rfl⟩ rfl rfl rfl rfl rfl (by kernel_rfl) Tryz.func3 (by unfold joinedFacts; simp only [iH]; (repeat' apply And.intro) <;> (as_aux_lemma => kernel_rfl))
  (of_decide_eq_true (by kernel_rfl)) (by unfold Func.isWrapper;first | (rw [ag (by decide +kernel)];kernel_rfl) | (rw [ae (by decide +kernel)];exact⟨rfl,rfl⟩))
  (fun os d H enc _ F=>by rw [OpenClaim.pre_eq_preRow];exact lifted os d H enc F)
theorem plain(f:FuncId)(d:Func)(h:Tryz.pinned.checked.prog.funcNamed "firkin/firkinlaw25.ArchEnds"=some f)(m:Tryz.pinned.checked.prog.funcs[f]?=some d) :
  false=Tryz.pinned.checked.prog.looks []/\∀ (j:Nat) t,d.params[j]?=some t->Tryz.pinned.checked.prog.wantsStandIn t=false:=by
 obtain rfl:f=3:=jy ((show Tryz.prog.funcNamed "firkin/firkinlaw25.ArchEnds"=some 3 by kernel_rfl).symm.trans h) |>.symm;obtain rfl:d=Tryz.f3:=(jy (Tryz.func3.symm.trans m)).symm;refine⟨by kernel_rfl,fun j t e=>?_⟩;rw [Tryz.params3]at e;obtain rfl:t=22:=by simpa using Array.mem_of_getElem? e
 exact(show Tryz.prog.wantsStandIn 22=false by kernel_rfl)
theorem proved:Rows.ArchEndsCardSaid:=
 Claim7.holds_tied_plain_at .later [] _ _ _ _ said (fun _ h=>by cases h) (by kernel_rfl) (fun _ h=>by cases h) archEnds_row_tie rfl ⟨rfl,rfl⟩ (by kernel_rfl) rfl plain (by kernel_rfl)
end Go.Proofs.YtfpijnhhdfoohaaGreatDoor.archEndsDone
