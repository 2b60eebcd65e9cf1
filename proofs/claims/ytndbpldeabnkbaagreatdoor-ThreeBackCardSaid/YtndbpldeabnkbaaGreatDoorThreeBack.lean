/- The law ThreeBack holds: whatever the options and the log. -/
import Derived.Test.YtndbpldeabnkbaaGreatDoorCards
import Derived.Test.YtndbpldeabnkbaaGreatDoorTie
import Derived.Test.YtndbpldeabnkbaaGreatDoorM48
import Derived.Test.YtndbpldeabnkbaaGreatDoorM49
import Derived.Test.YtndbpldeabnkbaaGreatDoorM51
set_option linter.all false
set_option maxHeartbeats 8000000
set_option maxRecDepth 100000
namespace Go.Proofs.YtndbpldeabnkbaaGreatDoor.threeBackDone
open Go.RowKit Go.Fk Go.ChangeShapes Go.WideShapes Go.ChangeAt
open Go.ChangeMaps (open_string shut_string)
theorem own:ownKnob Tryz.prog.godebug=none:=by kernel_rfl
theorem laidOut:laidOutB Tryz.prog=true:=by kernel_rfl
def wit:Array Value:=#[.agg #[.int .i64 0,.bool false,.int .i64 0,.int .i64 0,.int .i64 0,.int .i64 0],.slice none 0 0]
theorem laid_met(os:Os):laidMetH Tryz.prog Rows.threeBackRow.laid ((tD os wit).forCall (λ_ _=>0) ⟨#[],wit,[]⟩).memory:=
 laidMet_of_run' 8 (by kernel_rfl) (by kernel_rfl)
theorem tabs{W:World}(h:laidMetH Tryz.prog Rows.threeBackRow.laid W):cP W:=by
 have d:∃e,DataW.LaidVars Tryz.prog W Rows.threeBackRow.laid e:=⟨_,h.choose_spec.1⟩;obtain⟨_,d⟩:=d;exact Hz (rest:=[]) d
theorem lifted(os:Os)(Y:os.Started)(H:Type)(enc:TypeId × Value->H)(F:Stop.Interp):ReturnsInHanded {} Tryz.checked os 3 .any ((OpenSpec.ofChange Rows.threeBackSpec).preRow enc Tryz.prog Tryz.f3 Rows.threeBackRow.domain false Rows.threeBackRow.laid) (((OpenSpec.ofChange Rows.threeBackSpec).at F).post enc Tryz.prog Tryz.f3 false true false false):=by
 obtain⟨J,Z⟩:∃J,DataW.whole enc Tryz.prog ((tD os wit).forCall (λ_ _=>0) ⟨#[],wit,[]⟩).memory Tryz.f3.params.toList Rows.threeBackSpec.vars false wit.toList 8=some ([.agg [.lit (.int .i64 0),.lit (.bool false),.lit (.int .i64 0),.lit (.int .i64 0),.lit (.int .i64 0),.lit (.int .i64 0)],.nil],[],J):=⟨[],by kernel_rfl⟩
 refine returnsInHanded_of_row (C:=Tryz.checked) (s:=OpenSpec.ofChange Rows.threeBackSpec) own Y (by kernel_rfl) Tryz.func3
  (witness_row_at (enc := enc) (C := Tryz.checked) false (tD os wit) wit rfl (by kernel_rfl) (by kernel_rfl) (by kernel_rfl)
    (OpenSpec.preRow_of_cond 8 Z (by kernel_rfl) (λk hk => by cases hk) (by kernel_rfl) (laid_met os))) ?_
 intro W base args ds gs bl K L _ _ _ hL _ _;have ht:=tabs hL;have d:∀(j:Nat) t v,Tryz.f3.params[j]?=some t->args[j]?=some v->Value.okWide Tryz.prog W .any base t v:=K;have ak:=L;obtain⟨p,q,M,hV,rfl,bm,bn⟩:=L;have O:DataW.TrodAll enc Tryz.prog W 0 (λ_=>true) true Tryz.f3.params.toList args.toList ds p:=M;rw [Tryz.params3]at O d;obtain⟨z,bs,d0,bv,p0,q0,b0,rfl,rfl,Q,r0⟩:=trodAll_cons O;obtain⟨R,b1,d1,b3,p1,q1,rfl,rfl,rfl,U,r1⟩:=trodAll_cons r0;obtain⟨rfl,rfl,rfl⟩:=trodAll_nil r1;obtain rfl:args=#[z,R]:=by cases args;simp_all
 obtain⟨rfl,rfl⟩:=trodVars_none hV;obtain⟨o0,rfl⟩:∃o:dV,z=fq o:=by obtain⟨a3,D⟩:=Q;exact Ff (d 0 23 z rfl rfl) D
 have V:=Q;have a4:∀x∈p0,x.block<W.heap.size:=by obtain⟨m,G⟩:=V;exact DataW.trod_lt m _ _ _ G
 obtain⟨a1,a6,a7,rfl⟩:=okWide_slice Tryz.underlying24 (d 1 24 R rfl rfl);have X:=U;have aC:∀x∈p1,x.block<W.heap.size:=by obtain⟨m,G⟩:=X;exact DataW.trod_lt m _ _ _ G
 obtain⟨l1,bb⟩:∃l,ah W eR (.slice a1 a6 a7) l:=by obtain⟨a3,D⟩:=U;exact En D rfl
 clear M K;refine(Wg o0 _ l1 W ht bb).mono λe W' ⟨he,bf⟩=>?_;subst he;have I:Below W.heap.size W W':=bf;exact⟨_,rfl,_,_,_,[],_,[],ak,trodAll_mk1 (shut_bool Tryz.underlying4 _),(trodAll_cons_mk (Below.trod laidOut (by kernel_rfl) (lf (by kernel_rfl)) V I a4) (trodAll_cons_mk (Below.trod laidOut (by kernel_rfl) (lf (by kernel_rfl)) X I aC) trodAll_mk0)),rfl,I.frame _,λh=>by cases h⟩
theorem said:Rows.ThreeBackSaid:=
 OpenClaim.holds_of_cond 3 Tryz.f3 rfl rfl rfl rfl rfl rfl rfl ⟨rfl, rfl, rfl, rfl, rfl⟩ rfl rfl rfl rfl rfl (by kernel_rfl) Tryz.func3 (by unfold joinedFacts; simp only [fL]; (repeat' apply And.intro) <;> (as_aux_lemma => kernel_rfl))
  (lf (by kernel_rfl)) (by unfold Func.isWrapper;first | (rw [af (by decide +kernel)];kernel_rfl) | (rw [ae (by decide +kernel)];exact⟨rfl,rfl⟩))
  (λos d H enc _ F=>by rw [OpenClaim.pre_eq_preRow];exact lifted os d H enc F)
theorem plain(f:FuncId)(d:Func)(h:Tryz.pinned.checked.prog.funcNamed "firkin/firkinlaw24.ThreeBack"=some f)(m:Tryz.pinned.checked.prog.funcs[f]?=some d):false=Tryz.pinned.checked.prog.looks []/\∀(j:Nat) t,d.params[j]?=some t->Tryz.pinned.checked.prog.wantsStandIn t=false:=by
 obtain rfl:f=3:=jU ((show Tryz.prog.funcNamed "firkin/firkinlaw24.ThreeBack"=some 3 by kernel_rfl).symm.trans h) |>.symm;obtain rfl:d=Tryz.f3:=(jU (Tryz.func3.symm.trans m)).symm;refine⟨by kernel_rfl,λj t e=>?_⟩;rw [Tryz.params3]at e;have:t=23\/t=24:=by simpa using Array.mem_of_getElem? e
 rcases this with rfl | rfl;·exact(show Tryz.prog.wantsStandIn 23=false by kernel_rfl)
 ·exact(show Tryz.prog.wantsStandIn 24=false by kernel_rfl)
theorem proved:Rows.ThreeBackCardSaid:=
 Claim7.holds_tied_plain_at .later [] _ _ _ _ said (λ_ h=>by cases h) (by kernel_rfl) (λ_ h=>by cases h) threeBack_row_tie rfl ⟨rfl,rfl⟩ (by kernel_rfl) rfl plain (by kernel_rfl)
end Go.Proofs.YtndbpldeabnkbaaGreatDoor.threeBackDone
