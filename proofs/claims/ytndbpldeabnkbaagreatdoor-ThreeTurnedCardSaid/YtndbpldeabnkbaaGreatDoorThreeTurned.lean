/- The law ThreeTurned holds: whatever the options, the log and the turns. -/
import Derived.Test.YtndbpldeabnkbaaGreatDoorCards
import Derived.Test.YtndbpldeabnkbaaGreatDoorTie
import Derived.Test.YtndbpldeabnkbaaGreatDoorM50
import Derived.Test.YtndbpldeabnkbaaGreatDoorM51
set_option linter.all false
set_option maxHeartbeats 8000000
set_option maxRecDepth 100000
namespace Go.Proofs.YtndbpldeabnkbaaGreatDoor.threeTurnedDone
open Go.RowKit Go.Fk Go.ChangeShapes Go.WideShapes Go.ChangeAt
open Go.ChangeMaps (open_string shut_string)
theorem own:ownKnob Tryz.prog.godebug=none:=by kernel_rfl
theorem laidOut:laidOutB Tryz.prog=true:=by kernel_rfl
def wit:Array Value:=#[.agg #[.int .i64 0,.bool false,.int .i64 0,.int .i64 0,.int .i64 0,.int .i64 0],.slice none 0 0,.slice none 0 0]
theorem laid_met(os:Os):laidMetH Tryz.prog Rows.threeTurnedRow.laid ((tD os wit).forCall (λ_ _=>0) ⟨#[],wit,[]⟩).memory:=
 laidMet_of_run' 8 (by kernel_rfl) (by kernel_rfl)
theorem tabs{W:World}(h:laidMetH Tryz.prog Rows.threeTurnedRow.laid W):cP W:=by
 have d:∃e,DataW.LaidVars Tryz.prog W Rows.threeTurnedRow.laid e:=⟨_,h.choose_spec.1⟩;obtain⟨_,d⟩:=d;exact Hz (rest:=[]) d
theorem lifted(os:Os)(ac:os.Started)(H:Type)(enc:TypeId × Value->H)(F:Stop.Interp):ReturnsInHanded {} Tryz.checked os 4 .any ((OpenSpec.ofChange Rows.threeTurnedSpec).preRow enc Tryz.prog Tryz.f4 Rows.threeTurnedRow.domain false Rows.threeTurnedRow.laid) (((OpenSpec.ofChange Rows.threeTurnedSpec).at F).post enc Tryz.prog Tryz.f4 false true false false):=by
 obtain⟨J,hx⟩:∃J,DataW.whole enc Tryz.prog ((tD os wit).forCall (λ_ _=>0) ⟨#[],wit,[]⟩).memory Tryz.f4.params.toList Rows.threeTurnedSpec.vars false wit.toList 8=some ([.agg [.lit (.int .i64 0),.lit (.bool false),.lit (.int .i64 0),.lit (.int .i64 0),.lit (.int .i64 0),.lit (.int .i64 0)],.nil,.nil],[],J):=⟨[],by kernel_rfl⟩
 refine returnsInHanded_of_row (C:=Tryz.checked) (s:=OpenSpec.ofChange Rows.threeTurnedSpec) own ac (by kernel_rfl) Tryz.func4
  (witness_row_at (enc := enc) (C := Tryz.checked) false (tD os wit) wit rfl (by kernel_rfl) (by kernel_rfl) (by kernel_rfl)
    (OpenSpec.preRow_of_cond 8 hx (by kernel_rfl) (λk hk => by cases hk) (by kernel_rfl) (laid_met os))) ?_
 intro W base args ds gs b4 K L _ _ _ hL _ _;have ht:=tabs hL;have D:∀(j:Nat) t v,Tryz.f4.params[j]?=some t->args[j]?=some v->Value.okWide Tryz.prog W .any base t v:=K;have a3:=L;obtain⟨p,q,M,hV,rfl,b5,b6⟩:=L;have O:DataW.TrodAll enc Tryz.prog W 0 (λ_=>true) true Tryz.f4.params.toList args.toList ds p:=M;rw [Tryz.params4]at O D;obtain⟨I,b7,d0,b9,p0,q0,bB,rfl,rfl,Q,r0⟩:=trodAll_cons O;obtain⟨R,bL,d1,bT,p1,q1,rfl,rfl,rfl,U,r1⟩:=trodAll_cons r0;obtain⟨V,cb,d2,cf,p2,q2,rfl,rfl,rfl,X,r2⟩:=trodAll_cons r1;obtain⟨rfl,rfl,rfl⟩:=trodAll_nil r2;obtain rfl:args=#[I,R,V]:=by cases args;simp_all
 obtain⟨rfl,rfl⟩:=trodVars_none hV;obtain⟨o0,rfl⟩:∃o:dV,I=fq o:=by obtain⟨Y,d⟩:=Q;exact Ff (D 0 23 I rfl rfl) d
 have Z:=Q;have ba:∀x∈p0,x.block<W.heap.size:=by obtain⟨m,z⟩:=Z;exact DataW.trod_lt m _ _ _ z
 obtain⟨a1,bc,bd,rfl⟩:=okWide_slice Tryz.underlying24 (D 1 24 R rfl rfl);have k1:=U;have bf:∀x∈p1,x.block<W.heap.size:=by obtain⟨m,z⟩:=k1;exact DataW.trod_lt m _ _ _ z
 obtain⟨l1,bl⟩:∃l,ah W eR (.slice a1 bc bd) l:=by obtain⟨Y,d⟩:=U;exact En d rfl
 obtain⟨a2,bn,bs,rfl⟩:=okWide_slice Tryz.underlying41 (D 2 41 V rfl rfl);have k2:=X;have bu:∀x∈p2,x.block<W.heap.size:=by obtain⟨m,z⟩:=k2;exact DataW.trod_lt m _ _ _ z
 obtain⟨l2,bx⟩:∃l,ah W qd (.slice a2 bn bs) l:=by obtain⟨Y,d⟩:=X;exact No d rfl
 clear M K;refine(Wf o0 _ _ l1 l2 W ht bl bx).mono λe W' ⟨he,b2⟩=>?_;subst he;have G:Below W.heap.size W W':=b2;exact⟨_,rfl,_,_,_,[],_,[],a3,trodAll_mk1 (shut_bool Tryz.underlying4 _),(trodAll_cons_mk (Below.trod laidOut (by kernel_rfl) (lf (by kernel_rfl)) Z G ba) (trodAll_cons_mk (Below.trod laidOut (by kernel_rfl) (lf (by kernel_rfl)) k1 G bf) (trodAll_cons_mk (Below.trod laidOut (by kernel_rfl) (lf (by kernel_rfl)) k2 G bu) trodAll_mk0))),rfl,G.frame _,λh=>by cases h⟩
theorem said:Rows.ThreeTurnedSaid:=
 OpenClaim.holds_of_cond 4 Tryz.f4 rfl rfl rfl rfl rfl rfl rfl ⟨rfl, rfl, rfl, rfl, rfl⟩ rfl rfl rfl rfl rfl (by kernel_rfl) Tryz.func4 (by unfold joinedFacts; simp only [fL]; (repeat' apply And.intro) <;> (as_aux_lemma => kernel_rfl))
  (lf (by kernel_rfl)) (by unfold Func.isWrapper;first | (rw [af (by decide +kernel)];kernel_rfl) | (rw [ae (by decide +kernel)];exact⟨rfl,rfl⟩))
  (λos d H enc _ F=>by rw [OpenClaim.pre_eq_preRow];exact lifted os d H enc F)
theorem plain(f:FuncId)(d:Func)(h:Tryz.pinned.checked.prog.funcNamed "firkin/firkinlaw24.ThreeTurned"=some f)(m:Tryz.pinned.checked.prog.funcs[f]?=some d):false=Tryz.pinned.checked.prog.looks []/\∀(j:Nat) t,d.params[j]?=some t->Tryz.pinned.checked.prog.wantsStandIn t=false:=by
 obtain rfl:f=4:=jU ((show Tryz.prog.funcNamed "firkin/firkinlaw24.ThreeTurned"=some 4 by kernel_rfl).symm.trans h) |>.symm;obtain rfl:d=Tryz.f4:=(jU (Tryz.func4.symm.trans m)).symm;refine⟨by kernel_rfl,λj t e=>?_⟩;rw [Tryz.params4]at e;have:t=23\/t=24\/t=41:=by simpa using Array.mem_of_getElem? e
 rcases this with rfl | rfl | rfl;·exact(show Tryz.prog.wantsStandIn 23=false by kernel_rfl)
 ·exact(show Tryz.prog.wantsStandIn 24=false by kernel_rfl)
 ·exact(show Tryz.prog.wantsStandIn 41=false by kernel_rfl)
theorem proved:Rows.ThreeTurnedCardSaid:=
 Claim7.holds_tied_plain_at .later [] _ _ _ _ said (λ_ h=>by cases h) (by kernel_rfl) (λ_ h=>by cases h) threeTurned_row_tie rfl ⟨rfl,rfl⟩ (by kernel_rfl) rfl plain (by kernel_rfl)
end Go.Proofs.YtndbpldeabnkbaaGreatDoor.threeTurnedDone
