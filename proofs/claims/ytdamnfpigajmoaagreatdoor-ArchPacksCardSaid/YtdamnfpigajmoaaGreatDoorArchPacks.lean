/- The law ArchPacks holds: whatever the options and the log. -/
import Derived.Test.YtdamnfpigajmoaaGreatDoorRows
import Derived.Test.YtdamnfpigajmoaaGreatDoorCards
import Derived.Test.YtdamnfpigajmoaaGreatDoorTie
import Derived.Test.YtdamnfpigajmoaaGreatDoorM43
import Derived.Test.YtdamnfpigajmoaaGreatDoorM48
import Derived.Test.YtdamnfpigajmoaaGreatDoorM49
set_option linter.unusedVariables false
set_option linter.unusedSectionVars false
set_option linter.unusedSimpArgs false
set_option maxHeartbeats 8000000
set_option maxRecDepth 100000
namespace Go.Proofs.YtdamnfpigajmoaaGreatDoor.archPacksDone
open Go.RowKit Go.Fk Go.ChangeShapes Go.WideShapes Go.ChangeAt
open Go.ChangeMaps (open_string shut_string)
theorem own:ownKnob Tryz.prog.godebug=none:=by kernel_rfl
theorem laidOut:laidOutB Tryz.prog=true:=by kernel_rfl
def wit:Array Value:=#[.int .i64 0,.agg #[.int .i64 0,.bool false,.int .i64 0,.int .i64 0,.int .i64 0,.int .i64 0],.slice none 0 0]
theorem laid_met(os:Os):laidMetH Tryz.prog Rows.archPacksRow.laid ((uf os wit).forCall (fun _ _=>0) ⟨#[],wit,[]⟩).memory:=
 laidMet_of_run' 8 (by kernel_rfl) (by kernel_rfl)
theorem tabs{W:World}(h:laidMetH Tryz.prog Rows.archPacksRow.laid W):bU W:=by
 have d:∃ e,DataW.LaidVars Tryz.prog W Rows.archPacksRow.laid e:=⟨_,h.choose_spec.1⟩;obtain⟨_,d⟩:=d;exact Hj (rest:=[]) d
theorem lifted (os : Os) (X : os.Started) (H : Type) (enc : TypeId × Value → H) (F : Stop.Interp) :
    ReturnsInHanded {} Tryz.checked os 3 .any ((OpenSpec.ofChange Rows.archPacksSpec).preRow enc Tryz.prog Tryz.f3 Rows.archPacksRow.domain false Rows.archPacksRow.laid) (((OpenSpec.ofChange Rows.archPacksSpec).at F).post enc Tryz.prog Tryz.f3 false true false false):=by
  obtain⟨I,Y⟩:∃ I,DataW.whole enc Tryz.prog ((uf os wit).forCall (fun _ _=>0) ⟨#[],wit,[]⟩).memory Tryz.f3.params.toList Rows.archPacksSpec.vars false wit.toList 8=some ([.lit (.int .i64 0),.agg [.lit (.int .i64 0),.lit (.bool false),.lit (.int .i64 0),.lit (.int .i64 0),.lit (.int .i64 0),.lit (.int .i64 0)],.nil],[],I):=⟨[],by kernel_rfl⟩
  refine returnsInHanded_of_row (C:=Tryz.checked) (s:=OpenSpec.ofChange Rows.archPacksSpec) own X (by kernel_rfl) Tryz.func3
    (witness_row_at (enc := enc) (C := Tryz.checked) false (uf os wit) wit rfl (by kernel_rfl) (by kernel_rfl) (by kernel_rfl)
      (OpenSpec.preRow_of_cond 8 Y (by kernel_rfl) (fun k Z => by cases Z) (by kernel_rfl) (laid_met os))) ?_
  intro W base args ds gs b0 J K _ _ _ hL _ _;have ht:=tabs hL;have d:∀ (j:Nat) t v,Tryz.f3.params[j]? = some t->args[j]? = some v->Value.okWide Tryz.prog W .any base t v:=J;have aj:=K;obtain⟨p,q,L,hV,rfl,b1,b2⟩:=K;have M:DataW.TrodAll enc Tryz.prog W 0 (fun _=>true) true Tryz.f3.params.toList args.toList ds p:=L;rw [Tryz.params3]at M d;obtain⟨O,b3,d0,b5,p0,q0,bA,rfl,rfl,h0,r0⟩:=trodAll_cons M;obtain⟨y,bB,d1,ca,p1,q1,rfl,rfl,rfl,Q,r1⟩:=trodAll_cons r0;obtain⟨R,cc,d2,ch,p2,q2,rfl,rfl,rfl,T,r2⟩:=trodAll_cons r1;obtain⟨rfl,rfl,rfl⟩:=trodAll_nil r2;obtain rfl:args=#[O,y,R]:=(by cases args;simp_all);obtain⟨rfl,rfl⟩:=trodVars_none hV;obtain⟨a0,rfl,rfl,rfl,w0⟩:=open_int Tryz.underlying3 (d 0 3 O rfl rfl) h0;obtain⟨o1,rfl⟩:∃ o:be,y=aK o:=(by obtain⟨bb,z⟩:=Q;exact ES (d 1 23 y rfl rfl) z);have U:=Q;have bc:∀ x∈p1,x.block<W.heap.size:=(by obtain⟨m,D⟩:=U;exact DataW.trod_lt m _ _ _ D);obtain⟨a2,bf,bk,rfl⟩:=okWide_slice Tryz.underlying24 (d 2 24 R rfl rfl);have V:=T;have bm:∀ x∈p2,x.block<W.heap.size:=(by obtain⟨m,D⟩:=V;exact DataW.trod_lt m _ _ _ D);obtain⟨l2,bt⟩:∃ l,af W eR (.slice a2 bf bk) l:=(by obtain⟨bb,z⟩:=T;exact D4 z rfl);clear L J;refine(L5 a0 o1 _ l2 W ht bt).mono fun e W' ⟨he,bx⟩=>?_;subst he;have G:Below W.heap.size W W':=bx;exact⟨_,rfl,_,_,_,[],_,[],aj,trodAll_mk1 (shut_bool Tryz.underlying4 _),(trodAll_cons_mk (shut_int Tryz.underlying3 w0) (trodAll_cons_mk (Below.trod laidOut (by kernel_rfl) (of (by kernel_rfl)) U G bc) (trodAll_cons_mk (Below.trod laidOut (by kernel_rfl) (of (by kernel_rfl)) V G bm) trodAll_mk0))),rfl,G.frame _,fun h=>by cases h⟩
theorem said:Rows.ArchPacksSaid:=
 OpenClaim.holds_of_cond 3 Tryz.f3 rfl rfl rfl rfl rfl rfl rfl ⟨rfl, rfl, rfl, rfl, rfl⟩ rfl rfl rfl rfl rfl (by kernel_rfl) Tryz.func3 (by unfold joinedFacts; simp only [f8]; (repeat' apply And.intro) <;> (as_aux_lemma => kernel_rfl))
  (of (by kernel_rfl)) (by unfold Func.isWrapper;first | (rw [ai (by decide +kernel)];kernel_rfl) | (rw [ah (by decide +kernel)];exact⟨rfl,rfl⟩))
  (fun os d H enc _ F=>by rw [OpenClaim.pre_eq_preRow];exact lifted os d H enc F)
theorem plain(f:FuncId)(d:Func)(h:Tryz.pinned.checked.prog.funcNamed "firkin/firkinlaw25.ArchPacks"=some f)(m:Tryz.pinned.checked.prog.funcs[f]? = some d) :
  false=Tryz.pinned.checked.prog.looks []/\∀ (j:Nat) t,d.params[j]? = some t->Tryz.pinned.checked.prog.wantsStandIn t=false:=by
 obtain rfl:f=3:=ez ((show Tryz.prog.funcNamed "firkin/firkinlaw25.ArchPacks"=some 3 by kernel_rfl).symm.trans h) |>.symm;obtain rfl:d=Tryz.f3:=(ez (Tryz.func3.symm.trans m)).symm;refine⟨by kernel_rfl,fun j t e=>?_⟩;rw [Tryz.params3]at e;have:t=3\/t=23\/t=24:=by simpa using Array.mem_of_getElem? e
 rcases this with rfl | rfl | rfl;· exact(show Tryz.prog.wantsStandIn 3=false by kernel_rfl)
 · exact(show Tryz.prog.wantsStandIn 23=false by kernel_rfl)
 · exact(show Tryz.prog.wantsStandIn 24=false by kernel_rfl)
theorem proved:Rows.ArchPacksCardSaid:=
 Claim7.holds_tied_plain_at .later [] _ _ _ _ said (fun _ h=>by cases h) (by kernel_rfl) (fun _ h=>by cases h) archPacks_row_tie rfl ⟨rfl,rfl⟩ (by kernel_rfl) rfl plain (by kernel_rfl)
end Go.Proofs.YtdamnfpigajmoaaGreatDoor.archPacksDone
